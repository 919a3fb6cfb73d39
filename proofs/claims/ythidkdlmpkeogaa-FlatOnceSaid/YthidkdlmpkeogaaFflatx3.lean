/- Contracts of Go functions of the seat Ythidkdlmpkeogaa: what a call comes to; no condition but those that each theorem names. -/
import Derived.Test.YthidkdlmpkeogaaFPre
import Derived.Test.YthidkdlmpkeogaaFflatx1
import Derived.Test.YthidkdlmpkeogaaFflatx0
import Derived.Test.YthidkdlmpkeogaaFflatx2
import Derived.Test.YthidkdlmpkeogaaFstretch
namespace Go.Proofs.Ythidkdlmpkeogaa.F
open Go.RowKit Go.Proofs.YthidkdlmpkeogaaW.PrintWords Go.Proofs.YthidkdlmpkeogaaW.PrintLast Go.Proofs.YthidkdlmpkeogaaW.PrintMore
attribute [local go_sem] max2_int min2_int max_two min_two max_three min_three max_four min_four   -- for this text's walks alone
set_option linter.unusedVariables false
set_option linter.unusedSimpArgs false

/-! ### flat_TakePairs_1: function 76 -/
def flat_TakePairs_1.f (k : Nat) (s0_0 : ByteArray) (s0_1 : Bool) : Option (ByteArray × ByteArray × ByteArray × Bool) := (flat_reader_text.f k s0_0 s0_1).bind fun bt366 => ((flat_reader_text.f k bt366.2.1 bt366.2.2).bind fun bt369 => (some (bt366.1, bt369.1, bt369.2.1, bt369.2.2)))
theorem flat_TakePairs_1.mono : ∀ a0 a1 k, LeO (flat_TakePairs_1.f k a0 a1) (flat_TakePairs_1.f (k + 1) a0 a1) := by
  intro a0 a1 k
  unfold flat_TakePairs_1.f
  repeat' first
      | (with_reducible exact flat_reader_text.mono _ _ _)
      | (with_reducible exact LeO.refl _)
      | (with_reducible exact LeO.none _)
      | (with_reducible refine LeO.ite ?_ ?_)
      | (with_reducible refine LeO.bind ?_ (fun _ => ?_))
      | exact flat_reader_text.mono _ _ _
      | exact LeO.none _
      | refine LeO.ite ?_ ?_
      | refine LeO.bind ?_ (fun _ => ?_)
set_option maxHeartbeats 8000000 in
set_option maxRecDepth 100000 in
theorem flat_TakePairs_1.calls (k : Nat) (g : Nat) (s0_0 : ByteArray) (s0_1 : Bool) (r1 : ByteArray) (r2 : ByteArray) (r3 : ByteArray) (r4 : Bool) (w0 w : World) (hI : IsS136 w0 w g s0_0 s0_1) (hB : Below w0.heap.size w0 w) (h : flat_TakePairs_1.f k s0_0 s0_1 = some (r1, r2, r3, r4)) :
    Calls Try.prog 76 #[.pointer (some ⟨g, 0, none⟩)] w fun e w' => e = .returned (.agg #[.string r1, .string r2]) ∧ IsS136 w0 w' g r3 r4 ∧ Below w0.heap.size w0 w' ∧ KeepBut w w' g none := by
  have hu50 := Try.underlying50
  have HI0 := Aside0.mk hI
  have HK := Aside0.mk (KeepBut.refl w g none)
  have HL := Aside0.mk hB.size
  clear hI
  have HW0 := Aside0.mk hB.size
  have HB := Aside0.mk hB
  clear hB
  have H : ((flat_reader_text.f k s0_0 s0_1).bind fun bt366 => ((flat_reader_text.f k bt366.2.1 bt366.2.2).bind fun bt369 => (some (bt366.1, bt369.1, bt369.2.1, bt369.2.2)))) = some (r1, r2, r3, r4) := h
  clear h
  replace H := Option.bind_eq_some_iff.mp H
  obtain ⟨⟨t366, t367, t368⟩, A20, H⟩ := H
  replace H : ((flat_reader_text.f k t367 t368).bind fun bt369 => (some (t366, bt369.1, bt369.2.1, bt369.2.2))) = some (r1, r2, r3, r4) := H
  have A2 := Aside0.mk A20
  clear A20
  replace H := Option.bind_eq_some_iff.mp H
  obtain ⟨⟨t369, t370, t371⟩, A30, H⟩ := H
  replace H : (some (t366, t369, t370, t371)) = some (r1, r2, r3, r4) := H
  have A3 := Aside0.mk A30
  clear A30
  simp only [Option.some.injEq, Prod.mk.injEq] at H
  obtain ⟨rfl, rfl, rfl, rfl⟩ := H
  go_enter Try.func76, Try.ntmps76
  go_wp2_with (first | ((with_reducible refine gate_dst (N := 2) rfl ?_); refine box_event ?hg (N := 2) ?hd (cs := #[.string (⟨#[]⟩ : ByteArray), .string (⟨#[]⟩ : ByteArray)]) (t := 50) ?hr ?_; (case hd => rfl); (case hg => rfl); (case hr => first | (go_simp; done) | (go_simp; rfl)); intro gb365 hg w4 hbox hb; have n0_ := Aside0.mk (IsS136.below (by repeat (first | (with_reducible first | exact HI0.out | apply IsS136.alloc | apply IsS136.drewN | apply IsS136.drew | apply IsS136.set_0 | apply IsS136.set_1) | exact HI0.out)) hb); have n1_ := Aside0.mk (KeepBut.trans (by repeat (first | (with_reducible first | exact HK.out | apply KeepBut.set_ | apply keep_drewN | apply keep_drew | apply keep_alloc) | exact HK.out)) (KeepBut.of_below hb g none) (.inl rfl)); have n2_ := Aside0.mk (below_step (by repeat (first | (with_reducible first | exact HB.out | apply below_alloc | apply pw_below_drewN | apply below_drew1 | refine below_set ?_ (IsS136.ge HI0.out)) | exact HB.out)) hb); have n3_ := Aside0.mk (hbox); have n4_ := Aside0.mk ((by rw [hg]; exact (keep_size (w := w) (g := g) (row := none) (by repeat (first | (with_reducible first | exact HK.out | apply KeepBut.set_ | apply keep_drewN | apply keep_drew | apply keep_alloc) | exact HK.out))) : w.heap.size ≤ gb365)); have n5_ := Aside0.mk ((Nat.le_trans HW0.out (by rw [hg]; exact (keep_size (w := w) (g := g) (row := none) (by repeat (first | (with_reducible first | exact HK.out | apply KeepBut.set_ | apply keep_drewN | apply keep_drew | apply keep_alloc) | exact HK.out))) : w.heap.size ≤ gb365) : w0.heap.size ≤ gb365)); have n6_ := Aside0.mk ((by rw [hg]; exact Nat.ne_of_lt (IsS136.lt (show IsS136 w0 _ g s0_0 s0_1 from by repeat (first | (with_reducible first | exact HI0.out | apply IsS136.alloc | apply IsS136.drewN | apply IsS136.drew | apply IsS136.set_0 | apply IsS136.set_1) | exact HI0.out))) : g ≠ gb365)); have n7_ := Aside0.mk ((by rw [hg]; exact Nat.ne_of_gt (IsS136.lt (show IsS136 w0 _ g s0_0 s0_1 from by repeat (first | (with_reducible first | exact HI0.out | apply IsS136.alloc | apply IsS136.drewN | apply IsS136.drew | apply IsS136.set_0 | apply IsS136.set_1) | exact HI0.out))) : gb365 ≠ g)); clear HI0; clear HK; clear HB; have HI0 := n0_; have HK := n1_; have HB := n2_; have BK365 := n3_; have GW365 := n4_; have GE365 := n5_; have NB0_365 := n6_; have NB365_0 := n7_; clear n0_ n1_ n2_ n3_ n4_ n5_ n6_ n7_; clear hb hbox hg) | ((with_reducible refine gate_callee (f := 74) rfl ?_); refine goesL_ (some 5) rfl rfl Try.func74 (by kernel_rfl) rfl #[.pointer (some ⟨g, 0, none⟩)] rfl (by (try simp only [List.map_toArray, List.map_cons, List.map_nil]); first | done | rfl | (simp only [List.length_drop, List.length_take]; rfl)) ?_; (with_reducible refine (flat_reader_text.calls k g s0_0 s0_1 t366 t367 t368 w0 _ ?side1 ?side2 A2.out).mono ?_); (case side1 => repeat (first | (with_reducible first | exact HI0.out | apply IsS136.alloc | apply IsS136.drewN | apply IsS136.drew | apply IsS136.set_0 | apply IsS136.set_1 | refine IsS136.far ?_ NB0_365.out _) | exact HI0.out)); (case side2 => repeat (first | (with_reducible first | exact HB.out | apply below_alloc | apply pw_below_drewN | apply below_drew1 | refine below_set ?_ (IsS136.ge HI0.out) | refine below_set ?_ GE365.out) | exact HB.out)); rintro e w5 ⟨rfl, hi, hb, hk⟩; refine ⟨_, rfl, ?_⟩; have n0_ := Aside0.mk (KeepBut.blk hk (g' := gb365) (o := .cells #[.string (⟨#[]⟩ : ByteArray), .string (⟨#[]⟩ : ByteArray)] 50 (0, 0)) (by (with_reducible repeat (first | refine blk_drewN ?_ _ | refine blk_drew ?_ | refine blk_alloc ?_ _)); exact BK365.out) NB365_0.out (by simp)); have n1_ := Aside0.mk (KeepBut.trans (by repeat (first | (with_reducible first | exact HK.out | apply KeepBut.set_ | apply keep_drewN | apply keep_drew | apply keep_alloc | refine keep_far ?_ GW365.out _) | exact HK.out)) hk (.inl rfl)); have n2_ := Aside0.mk (hb); have n3_ := Aside0.mk (hi); clear BK365; clear HK; clear HB; clear HI0; have BK365 := n0_; have HK := n1_; have HB := n2_; have HI0 := n3_; clear n0_ n1_ n2_ n3_; (try clear hb); (try clear hb2); (try clear hk); (try clear hi)) | ((with_reducible refine gate_callee (f := 74) rfl ?_); refine goesL_ (some 8) rfl rfl Try.func74 (by kernel_rfl) rfl #[.pointer (some ⟨g, 0, none⟩)] rfl (by (try simp only [List.map_toArray, List.map_cons, List.map_nil]); first | done | rfl | (simp only [List.length_drop, List.length_take]; rfl)) ?_; (with_reducible refine (flat_reader_text.calls k g t367 t368 t369 t370 t371 w0 _ ?side1 ?side2 A3.out).mono ?_); (case side1 => repeat (first | (with_reducible first | exact HI0.out | apply IsS136.alloc | apply IsS136.drewN | apply IsS136.drew | apply IsS136.set_0 | apply IsS136.set_1 | refine IsS136.far ?_ NB0_365.out _) | exact HI0.out)); (case side2 => repeat (first | (with_reducible first | exact HB.out | apply below_alloc | apply pw_below_drewN | apply below_drew1 | refine below_set ?_ (IsS136.ge HI0.out) | refine below_set ?_ GE365.out) | exact HB.out)); rintro e w6 ⟨rfl, hi, hb, hk⟩; refine ⟨_, rfl, ?_⟩; have n0_ := Aside0.mk (KeepBut.blk hk (g' := gb365) (o := .cells #[.string (⟨#[]⟩ : ByteArray), .string (⟨#[]⟩ : ByteArray)] 50 (0, 0)) (by (with_reducible repeat (first | refine blk_drewN ?_ _ | refine blk_drew ?_ | refine blk_alloc ?_ _)); exact BK365.out) NB365_0.out (by simp)); have n1_ := Aside0.mk (KeepBut.trans (by repeat (first | (with_reducible first | exact HK.out | apply KeepBut.set_ | apply keep_drewN | apply keep_drew | apply keep_alloc | refine keep_far ?_ GW365.out _) | exact HK.out)) hk (.inl rfl)); have n2_ := Aside0.mk (hb); have n3_ := Aside0.mk (hi); clear BK365; clear HK; clear HB; clear HI0; have BK365 := n0_; have HK := n1_; have HB := n2_; have HI0 := n3_; clear n0_ n1_ n2_ n3_; (try clear hb); (try clear hb2); (try clear hk); (try clear hi); have hnb7 := NB365_0.out; have hnc7 := NB0_365.out; have hcz8_0 : w6.cell? ⟨gb365, 0, none⟩ = some (.string (⟨#[]⟩ : ByteArray)) := (blk_cell BK365.out 0).trans rfl; have hcz8_1 : w6.cell? ⟨gb365, 1, none⟩ = some (.string (⟨#[]⟩ : ByteArray)) := (blk_cell BK365.out 1).trans rfl; have hfz8_0 := blk_frozen BK365.out 0; have hfz8_1 := blk_frozen BK365.out 1))
  refine bodyPost_ret (results_cell_row rfl _ _ gb365 50 #[.string t366, .string t369] (0, 0) _ rfl (by (with_reducible repeat (first | refine blk_drewN ?_ _ | refine blk_drew ?_ | refine blk_alloc ?_ _)); refine blk_put (cs := #[.string t366, .string (⟨#[]⟩ : ByteArray)]) ?_ 1 _ rfl; (with_reducible repeat (first | refine blk_drewN ?_ _ | refine blk_drew ?_ | refine blk_alloc ?_ _)); refine blk_put (cs := #[.string (⟨#[]⟩ : ByteArray), .string (⟨#[]⟩ : ByteArray)]) ?_ 0 _ rfl; (with_reducible repeat (first | refine blk_drewN ?_ _ | refine blk_drew ?_ | refine blk_alloc ?_ _)); exact BK365.out) Try.underlying50 rfl (by kernel_rfl)) rfl ?_
  exact ⟨by first | rfl | (simp [errW_none, errW_some] <;> rfl) | (simp [*, errW_none, errW_some] <;> rfl), by repeat (first | (with_reducible first | exact HI0.out | apply IsS136.alloc | apply IsS136.drewN | apply IsS136.drew | apply IsS136.set_0 | apply IsS136.set_1 | refine IsS136.far ?_ NB0_365.out _) | exact HI0.out), by repeat (first | (with_reducible first | exact HB.out | apply below_alloc | apply pw_below_drewN | apply below_drew1 | refine below_set ?_ (IsS136.ge HI0.out) | refine below_set ?_ GE365.out) | exact HB.out), by repeat (first | (with_reducible first | exact HK.out | apply KeepBut.set_ | apply keep_drewN | apply keep_drew | apply keep_alloc | refine keep_far ?_ GW365.out _) | exact HK.out)⟩

/-! ### flat_TakePairs: function 28 -/


def flat_TakePairs.l0 : Nat → ByteArray → Bool → List (S50) → Int → Int → Option (List (S50) × ByteArray × Int)
  | 0, _, _, _, _, _ => none
  | k + 1, s, bad, out, n, i => if i < n then ((flat_TakePairs_1.f k s bad).bind fun q => (if q.2.2.2 = true then (some (([] : List (S50)), (⟨#[]⟩ : ByteArray), 2)) else ((flat_pair.f k q.1 q.2.1).bind fun m => (if m = true then (if out.length < 4398046511104 then (flat_TakePairs.l0 k q.2.2.1 q.2.2.2 (out ++ [⟨q.1, q.2.1⟩]) n (IntKind.u64.wrap (i + 1))) else (none)) else (some (([] : List (S50)), (⟨#[]⟩ : ByteArray), 2)))))) else (if bad = true then (some (([] : List (S50)), (⟨#[]⟩ : ByteArray), 2)) else (some (out, s, 0)))
def flat_TakePairs.f (k : Nat) (a0 : ByteArray) : Option (List (S50) × ByteArray × Int) := (flat_reader_num.f k a0 false 2).bind fun p => flat_TakePairs.l0 k p.2.1 p.2.2 ([] : List (S50)) p.1 0
theorem flat_TakePairs.mono_l : ∀ k, (∀ y0 y1 y2 y3 y4, LeO (flat_TakePairs.l0 k y0 y1 y2 y3 y4) (flat_TakePairs.l0 (k + 1) y0 y1 y2 y3 y4))
  | 0 => fun _ _ _ _ _ r h => by simp [flat_TakePairs.l0] at h
  | k + 1 => by
    have ih := flat_TakePairs.mono_l k
    intro y0 y1 y2 y3 y4
    unfold flat_TakePairs.l0
    refine LeO.ite (LeO.bind (flat_TakePairs_1.mono _ _ _) fun _ => LeO.ite (LeO.refl _) (LeO.bind (flat_pair.mono _ _ _) fun _ => LeO.ite (LeO.ite (ih _ _ _ _ _) (LeO.none _)) (LeO.refl _))) (LeO.refl _)
theorem flat_TakePairs.mono : ∀ a0 k, LeO (flat_TakePairs.f k a0) (flat_TakePairs.f (k + 1) a0) := by
  intro a0 k
  unfold flat_TakePairs.f
  exact LeO.bind (flat_reader_num.mono _ _ _ _) fun _ => flat_TakePairs.mono_l k _ _ _ _ _
set_option maxHeartbeats 8000000 in
set_option maxRecDepth 100000 in
theorem flat_TakePairs.take (k : Nat) (a0 : ByteArray) (r1 : List (S50)) (r2 : ByteArray) (r3 : Int) (w : World) (h : flat_TakePairs.f k a0 = some (r1, r2, r3)) :
    Calls Try.prog 75 #[.string a0, .func (.func 58) #[] #[], .func (.func 76) #[] #[]] w fun e w' => ∃ v0_ : Value, e = .returned (.tuple #[v0_, .string r2, .int .i64 r3]) ∧ Kd.R k50 50 w' w.heap.size (fun _ => True) v0_ r1 ∧ Below w.heap.size w w' := by
  have hu50 := Try.underlying50
  unfold flat_TakePairs.f at h
  obtain ⟨⟨p1, p2, p3⟩, A, h⟩ := Option.bind_eq_some_iff.mp h
  have HA := Aside0.mk A
  have H0 := Aside0.mk h
  clear A h
  go_enter Try.func75, Try.ntmps75
  go_wp2_with (go_at_call 73; (with_reducible refine (flat_reader_num.calls k w.heap.size a0 false 2 p1 p2 p3 w _ (IsS136.new w w a0 false (Below.refl _ _)) (below_alloc (Below.refl _ _) _) HA.out).mono ?_); rintro e w1 ⟨rfl, hI, hB, hK⟩; have HI := Aside0.mk hI; have HB := Aside0.mk hB; clear hI hB hK)
  go_loopg [10, 17] k (fun kq v10 v17 w' => ∃ (i : Int) (s : ByteArray) (bad : Bool) (out : List (S50)), v17 = .int .u64 i ∧ Aside0 (flat_TakePairs.l0 kq s bad out p1 i = some (r1, r2, r3)) ∧ Aside0 (kq ≤ k) ∧ Aside0 (IsS136 w w' w.heap.size s bad) ∧ Aside0 (Below w.heap.size w w') ∧ Aside0 (Kd.R k50 50 w' w.heap.size (fun k_ => k_ ≠ w.heap.size) v10 out))
  case atStart => exact ⟨0, p2, p3, [], (by first | rfl | (simp; done)), H0, ⟨Nat.le_refl _⟩, HI, HB, ⟨Kd.R_nil _ _ _ _ _⟩⟩
  case round =>
    clear H0 HI HB HA
    obtain ⟨i, s, bad, out, rfl, HA, HK1, HI, HB, HO⟩ := hrel
    cases gk with
    | zero => exact absurd HA.out (by simp [flat_TakePairs.l0])
    | succ k1 =>
      have H := HA.out
      clear HA
      simp only [flat_TakePairs.l0] at H
      by_cases c2 : i < p1
      · rw [if_pos c2] at H
        have c2b0 : decide (i < p1) = true := decide_eq_true c2
        clear c2
        obtain ⟨⟨t0, t1, s1, bad1⟩, A1, H⟩ := Option.bind_eq_some_iff.mp H
        simp only at H
        have HA1 := Aside0.mk A1
        clear A1
        cases bad1 with
        | true =>
          rw [if_pos rfl] at H
          simp only [Option.some.injEq, Prod.mk.injEq] at H
          obtain ⟨rfl, rfl, rfl⟩ := H
          go_wp2_with (go_at_call 76; (with_reducible refine (flat_TakePairs_1.calls k1 w.heap.size s bad t0 t1 s1 true w _ HI.out HB.out HA1.out).mono ?_); rintro e w5 ⟨rfl, hI, hB, hK⟩; have HO5 := Aside0.mk (Kd.R_keep HO.out hK (fun _ h => h)); have HI5 := Aside0.mk hI; have HB5 := Aside0.mk hB; have hlt5 := hI.lt; have hle5 := hB.size; have hy0 : w5.cell? ⟨w.heap.size, 0, none⟩ = some (.string s1) := (blk_cell hI.1 0).trans rfl; have hy1 : w5.cell? ⟨w.heap.size, 1, none⟩ = some (.bool true) := (blk_cell hI.1 1).trans rfl; clear hI hB hK)
          go_ret3
          exact ⟨_, rfl, Kd.R_nil _ _ _ _ _, below_alloc HB5.out _⟩
        | false =>
          rw [if_neg (by decide)] at H
          obtain ⟨m, A2, H⟩ := Option.bind_eq_some_iff.mp H
          have HA2 := Aside0.mk A2
          clear A2
          cases m with
          | false =>
            rw [if_neg (by decide)] at H
            simp only [Option.some.injEq, Prod.mk.injEq] at H
            obtain ⟨rfl, rfl, rfl⟩ := H
            go_wp2_with (first | (go_at_call 76; (with_reducible refine (flat_TakePairs_1.calls k1 w.heap.size s bad t0 t1 s1 false w _ HI.out HB.out HA1.out).mono ?_); rintro e w5 ⟨rfl, hI, hB, hK⟩; have HO5 := Aside0.mk (Kd.R_keep HO.out hK (fun _ h => h)); have HI5 := Aside0.mk hI; have HB5 := Aside0.mk hB; have hlt5 := hI.lt; have hle5 := hB.size; have hy0 : w5.cell? ⟨w.heap.size, 0, none⟩ = some (.string s1) := (blk_cell hI.1 0).trans rfl; have hy1 : w5.cell? ⟨w.heap.size, 1, none⟩ = some (.bool false) := (blk_cell hI.1 1).trans rfl; clear hI hB hK) | (go_at_call 58; (with_reducible refine (flat_pair.calls k1 t0 t1 false _ HA2.out).mono ?_); rintro e w6 ⟨rfl, hb⟩; have BK : w6.heap[w5.heap.size]? = some (.cells #[.string t0, .string t1] 50 (0, 0)) := (hb.block w5.heap.size (by simp)).trans (heap_alloc_new w5 _); have hc0 := (blk_cell BK 0).trans rfl; have hz0 := blk_frozen BK 0; have hc1 := (blk_cell BK 1).trans rfl; have hz1 := blk_frozen BK 1; have HO6 := Aside0.mk (Kd.R_below (Kd.R_alloc HO5.out _) hb); have HI6 := Aside0.mk ((HI5.out.alloc _).below hb); have HB6 := Aside0.mk (below_step (below_alloc HB5.out _) hb); have hlt6 : w.heap.size < w6.heap.size := HI6.out.lt; clear hb BK))
            go_ret3
            exact ⟨_, rfl, Kd.R_nil _ _ _ _ _, HB6.out⟩
          | true =>
            rw [if_pos rfl] at H
            by_cases c3 : out.length < 4398046511104
            · rw [if_pos c3] at H
              have HL := Aside0.mk c3
              have H' := Aside0.mk H
              clear c3 H
              go_wp2_with (first | (go_at_call 76; (with_reducible refine (flat_TakePairs_1.calls k1 w.heap.size s bad t0 t1 s1 false w _ HI.out HB.out HA1.out).mono ?_); rintro e w5 ⟨rfl, hI, hB, hK⟩; have HO5 := Aside0.mk (Kd.R_keep HO.out hK (fun _ h => h)); have HI5 := Aside0.mk hI; have HB5 := Aside0.mk hB; have hlt5 := hI.lt; have hle5 := hB.size; have hy0 : w5.cell? ⟨w.heap.size, 0, none⟩ = some (.string s1) := (blk_cell hI.1 0).trans rfl; have hy1 : w5.cell? ⟨w.heap.size, 1, none⟩ = some (.bool false) := (blk_cell hI.1 1).trans rfl; clear hI hB hK) | (go_at_call 58; (with_reducible refine (flat_pair.calls k1 t0 t1 true _ HA2.out).mono ?_); rintro e w6 ⟨rfl, hb⟩; have BK : w6.heap[w5.heap.size]? = some (.cells #[.string t0, .string t1] 50 (0, 0)) := (hb.block w5.heap.size (by simp)).trans (heap_alloc_new w5 _); have hc0 := (blk_cell BK 0).trans rfl; have hz0 := blk_frozen BK 0; have hc1 := (blk_cell BK 1).trans rfl; have hz1 := blk_frozen BK 1; have HO6 := Aside0.mk (Kd.R_below (Kd.R_alloc HO5.out _) hb); have HI6 := Aside0.mk ((HI5.out.alloc _).below hb); have HB6 := Aside0.mk (below_step (below_alloc HB5.out _) hb); have hlt6 : w.heap.size < w6.heap.size := HI6.out.lt; clear hb BK) | (at_builtin; refine Kd.R_append k50 (w0 := w) w.heap.size rfl (.tmp 32) (.tmp 34) 23 50 (.agg #[(.string ⟨#[]⟩), (.string ⟨#[]⟩)]) 32 rfl Try.underlying23 info50 rfl (by decide) (by omega) u10 out ⟨t0, t1⟩ [.string t0, .string t1] (fun k_ => k_ ≠ w.heap.size) (fun _ => False) rfl rfl (k50_mkM _ _ _ ⟨t0, t1⟩) (fun _ hk => hk.elim) (fun k_ hk he => absurd hk (by rw [he]; exact Nat.not_le.mpr hlt6)) HO6.out HB6.out (Nat.le_of_lt hlt6) (by have := HL.out; omega) ?_; intro v1 w7 ho hb hg hat; have HI7 := Aside0.mk (HI6.out.grown hg (HI6.out.own_ne HO6.out (by decide))); have HO7 := Aside0.mk ho; have HB7 := Aside0.mk hb; clear ho hb hg hat))
              go_roundg k1
              case measure => have := HK1.out; omega
              case rel => exact ⟨(IntKind.u64.wrap (i + 1)), s1, false, out ++ [⟨t0, t1⟩], (by first | rfl | (simp; done) | (simp [*]; done)), H', ⟨by have := HK1.out; omega⟩, HI7, HB7, HO7⟩
            · rw [if_neg c3] at H
              exact absurd H (by simp)
      · rw [if_neg c2] at H
        have c2b0 : decide (i < p1) = false := decide_eq_false c2
        clear c2
        have BK : wr.heap[w.heap.size]? = some (.cells #[.string s, .bool bad] 136 (0, 0)) := HI.out.1
        have hy0 : wr.cell? ⟨w.heap.size, 0, none⟩ = some (.string s) := (blk_cell BK 0).trans rfl
        have hy1 : wr.cell? ⟨w.heap.size, 1, none⟩ = some (.bool bad) := (blk_cell BK 1).trans rfl
        clear BK
        cases bad with
        | true =>
          rw [if_pos rfl] at H
          simp only [Option.some.injEq, Prod.mk.injEq] at H
          obtain ⟨rfl, rfl, rfl⟩ := H
          go_wp2
          go_ret3
          exact ⟨_, rfl, Kd.R_nil _ _ _ _ _, HB.out⟩
        | false =>
          rw [if_neg (by decide)] at H
          simp only [Option.some.injEq, Prod.mk.injEq] at H
          obtain ⟨rfl, rfl, rfl⟩ := H
          go_wp2
          go_quiet (fail)
          go_wp2
          go_ret3
          exact ⟨_, rfl, Kd.R_mono (Kd.R_drewN HO.out _) (fun _ _ => trivial), pw_below_drewN HB.out _⟩
set_option maxHeartbeats 8000000 in
theorem flat_TakePairs.calls (k : Nat) (a0 : ByteArray) (r1 : List (S50)) (r2 : ByteArray) (r3 : Int) (w : World) (h : flat_TakePairs.f k a0 = some (r1, r2, r3)) :
    Calls Try.prog 28 #[.string a0] w fun e w' => ∃ v0_ : Value, e = .returned (.tuple #[v0_, .string r2, .int .i64 r3]) ∧ Kd.R k50 50 w' w.heap.size (fun _ => True) v0_ r1 ∧ Below w.heap.size w w' := by
  have HL := Aside0.mk (flat_TakePairs.take k a0 r1 r2 r3 w h)
  clear h
  go_enter Try.func28, Try.ntmps28
  go_wp2_with (go_at_call 75; (with_reducible refine HL.out.mono ?_); rintro e w5 ⟨v0, rfl, hR, hb⟩)
  go_ret3
  exact ⟨v0, rfl, hR, hb⟩


-- NOT PRINTED: function 77 (api_Change_77)

/-! ### flat_reader_flag: function 79 -/
def flat_reader_flag.f (k : Nat) (s0_0 : ByteArray) (s0_1 : Bool) : Option (Bool × ByteArray × Bool) := (flat_reader_num.f k s0_0 s0_1 1).bind fun bt372 => (if bt372.2.2 = true then (some ((bt372.1 == 1), bt372.2.1, true)) else (some ((bt372.1 == 1), bt372.2.1, decide (bt372.1 > 1))))
theorem flat_reader_flag.mono : ∀ a0 a1 k, LeO (flat_reader_flag.f k a0 a1) (flat_reader_flag.f (k + 1) a0 a1) := by
  intro a0 a1 k
  unfold flat_reader_flag.f
  repeat' first
      | (with_reducible exact flat_reader_num.mono _ _ _ _)
      | (with_reducible exact LeO.refl _)
      | (with_reducible exact LeO.none _)
      | (with_reducible refine LeO.ite ?_ ?_)
      | (with_reducible refine LeO.bind ?_ (fun _ => ?_))
      | exact flat_reader_num.mono _ _ _ _
      | exact LeO.none _
      | refine LeO.ite ?_ ?_
      | refine LeO.bind ?_ (fun _ => ?_)
set_option maxHeartbeats 8000000 in
set_option maxRecDepth 100000 in
theorem flat_reader_flag.calls (k : Nat) (g : Nat) (s0_0 : ByteArray) (s0_1 : Bool) (r1 : Bool) (r2 : ByteArray) (r3 : Bool) (w0 w : World) (hI : IsS136 w0 w g s0_0 s0_1) (hB : Below w0.heap.size w0 w) (h : flat_reader_flag.f k s0_0 s0_1 = some (r1, r2, r3)) :
    Calls Try.prog 79 #[.pointer (some ⟨g, 0, none⟩)] w fun e w' => e = .returned (.bool r1) ∧ IsS136 w0 w' g r2 r3 ∧ Below w0.heap.size w0 w' ∧ KeepBut w w' g none := by
  have HI0 := Aside0.mk hI
  have HK := Aside0.mk (KeepBut.refl w g none)
  have HL := Aside0.mk hB.size
  clear hI
  have HW0 := Aside0.mk hB.size
  have HB := Aside0.mk hB
  clear hB
  have H : ((flat_reader_num.f k s0_0 s0_1 1).bind fun bt372 => (if bt372.2.2 = true then (some ((bt372.1 == 1), bt372.2.1, true)) else (some ((bt372.1 == 1), bt372.2.1, decide (bt372.1 > 1))))) = some (r1, r2, r3) := h
  clear h
  replace H := Option.bind_eq_some_iff.mp H
  obtain ⟨⟨t372, t373, t374⟩, A20, H⟩ := H
  replace H : (if t374 = true then (some ((t372 == 1), t373, true)) else (some ((t372 == 1), t373, decide (t372 > 1)))) = some (r1, r2, r3) := H
  have A2 := Aside0.mk A20
  clear A20
  by_cases c3 : t374 = true
  · subst c3
    have H1 : (some ((t372 == 1), t373, true)) = some (r1, r2, r3) := by rw [if_pos rfl] at H; exact H
    clear H
    have H := H1
    clear H1
    simp only [Option.some.injEq, Prod.mk.injEq] at H
    obtain ⟨rfl, rfl, rfl⟩ := H
    go_enter Try.func79, Try.ntmps79
    go_wp2_with (first | ((with_reducible refine gate_callee (f := 73) rfl ?_); refine goesL_ (some 5) rfl rfl Try.func73 (by kernel_rfl) rfl #[.pointer (some ⟨g, 0, none⟩), .int .i64 1] rfl (by (try simp only [List.map_toArray, List.map_cons, List.map_nil]); first | done | rfl | (simp only [List.length_drop, List.length_take]; rfl)) ?_; (with_reducible refine (flat_reader_num.calls k g s0_0 s0_1 1 t372 t373 true w0 _ ?side1 ?side2 A2.out).mono ?_); (case side1 => repeat (first | (with_reducible first | exact HI0.out | apply IsS136.alloc | apply IsS136.drewN | apply IsS136.drew | apply IsS136.set_0 | apply IsS136.set_1) | exact HI0.out)); (case side2 => repeat (first | (with_reducible first | exact HB.out | apply below_alloc | apply pw_below_drewN | apply below_drew1 | refine below_set ?_ (IsS136.ge HI0.out)) | exact HB.out)); rintro e w4 ⟨rfl, hi, hb, hk⟩; refine ⟨_, rfl, ?_⟩; have n0_ := Aside0.mk (KeepBut.trans (by repeat (first | (with_reducible first | exact HK.out | apply KeepBut.set_ | apply keep_drewN | apply keep_drew | apply keep_alloc) | exact HK.out)) hk (.inl rfl)); have n1_ := Aside0.mk (hb); have n2_ := Aside0.mk (hi); clear HK; clear HB; clear HI0; have HK := n0_; have HB := n1_; have HI0 := n2_; clear n0_ n1_ n2_; (try clear hb); (try clear hb2); (try clear hk); (try clear hi); obtain ⟨HGz5, hgz5⟩ := HI0.out; have hcz5_0 := cellS136_0 HGz5; have hcz5_1 := cellS136_1 HGz5; have hfz5_0 := blk_frozen HGz5 0; have hfz5_1 := blk_frozen HGz5 1; clear HGz5 hgz5))
    go_ret
    exact ⟨by first | rfl | (simp [errW_none, errW_some] <;> rfl) | (simp [*, errW_none, errW_some] <;> rfl), by repeat (first | (with_reducible first | exact HI0.out | apply IsS136.alloc | apply IsS136.drewN | apply IsS136.drew | apply IsS136.set_0 | apply IsS136.set_1) | exact HI0.out), by repeat (first | (with_reducible first | exact HB.out | apply below_alloc | apply pw_below_drewN | apply below_drew1 | refine below_set ?_ (IsS136.ge HI0.out)) | exact HB.out), by repeat (first | (with_reducible first | exact HK.out | apply KeepBut.set_ | apply keep_drewN | apply keep_drew | apply keep_alloc) | exact HK.out)⟩
  · replace c3 := Bool.eq_false_iff.mpr c3
    subst c3
    have H1 : (some ((t372 == 1), t373, decide (t372 > 1))) = some (r1, r2, r3) := by rw [if_neg (show ¬ (false = true) by decide)] at H; exact H
    clear H
    have H := H1
    clear H1
    simp only [Option.some.injEq, Prod.mk.injEq] at H
    obtain ⟨rfl, rfl, rfl⟩ := H
    go_enter Try.func79, Try.ntmps79
    go_wp2_with (first | ((with_reducible refine gate_callee (f := 73) rfl ?_); refine goesL_ (some 5) rfl rfl Try.func73 (by kernel_rfl) rfl #[.pointer (some ⟨g, 0, none⟩), .int .i64 1] rfl (by (try simp only [List.map_toArray, List.map_cons, List.map_nil]); first | done | rfl | (simp only [List.length_drop, List.length_take]; rfl)) ?_; (with_reducible refine (flat_reader_num.calls k g s0_0 s0_1 1 t372 t373 false w0 _ ?side1 ?side2 A2.out).mono ?_); (case side1 => repeat (first | (with_reducible first | exact HI0.out | apply IsS136.alloc | apply IsS136.drewN | apply IsS136.drew | apply IsS136.set_0 | apply IsS136.set_1) | exact HI0.out)); (case side2 => repeat (first | (with_reducible first | exact HB.out | apply below_alloc | apply pw_below_drewN | apply below_drew1 | refine below_set ?_ (IsS136.ge HI0.out)) | exact HB.out)); rintro e w6 ⟨rfl, hi, hb, hk⟩; refine ⟨_, rfl, ?_⟩; have n0_ := Aside0.mk (KeepBut.trans (by repeat (first | (with_reducible first | exact HK.out | apply KeepBut.set_ | apply keep_drewN | apply keep_drew | apply keep_alloc) | exact HK.out)) hk (.inl rfl)); have n1_ := Aside0.mk (hb); have n2_ := Aside0.mk (hi); clear HK; clear HB; clear HI0; have HK := n0_; have HB := n1_; have HI0 := n2_; clear n0_ n1_ n2_; (try clear hb); (try clear hb2); (try clear hk); (try clear hi); obtain ⟨HGz7, hgz7⟩ := HI0.out; have hcz7_0 := cellS136_0 HGz7; have hcz7_1 := cellS136_1 HGz7; have hfz7_0 := blk_frozen HGz7 0; have hfz7_1 := blk_frozen HGz7 1; clear HGz7 hgz7))
    go_ret
    exact ⟨by first | rfl | (simp [errW_none, errW_some] <;> rfl) | (simp [*, errW_none, errW_some] <;> rfl), by repeat (first | (with_reducible first | exact HI0.out | apply IsS136.alloc | apply IsS136.drewN | apply IsS136.drew | apply IsS136.set_0 | apply IsS136.set_1) | exact HI0.out), by repeat (first | (with_reducible first | exact HB.out | apply below_alloc | apply pw_below_drewN | apply below_drew1 | refine below_set ?_ (IsS136.ge HI0.out)) | exact HB.out), by repeat (first | (with_reducible first | exact HK.out | apply KeepBut.set_ | apply keep_drewN | apply keep_drew | apply keep_alloc) | exact HK.out)⟩

/-! ### flat_TakeChanges_1: function 78 -/
def flat_TakeChanges_1.f (k : Nat) (s0_0 : ByteArray) (s0_1 : Bool) : Option (Int × ByteArray × Bool × ByteArray × Bool × ByteArray × ByteArray × Bool) := (flat_reader_num.f k s0_0 s0_1 4).bind fun bt376 => ((flat_reader_text.f k bt376.2.1 bt376.2.2).bind fun bt379 => ((flat_reader_flag.f k bt379.2.1 bt379.2.2).bind fun bt382 => ((flat_reader_text.f k bt382.2.1 bt382.2.2).bind fun bt385 => ((flat_reader_flag.f k bt385.2.1 bt385.2.2).bind fun bt388 => ((flat_reader_text.f k bt388.2.1 bt388.2.2).bind fun bt391 => (some (wrap64 (bt376.1), bt379.1, bt382.1, bt385.1, bt388.1, bt391.1, bt391.2.1, bt391.2.2)))))))
theorem flat_TakeChanges_1.mono : ∀ a0 a1 k, LeO (flat_TakeChanges_1.f k a0 a1) (flat_TakeChanges_1.f (k + 1) a0 a1) := by
  intro a0 a1 k
  unfold flat_TakeChanges_1.f
  repeat' first
      | (with_reducible exact flat_reader_flag.mono _ _ _)
      | (with_reducible exact flat_reader_num.mono _ _ _ _)
      | (with_reducible exact flat_reader_text.mono _ _ _)
      | (with_reducible exact LeO.refl _)
      | (with_reducible exact LeO.none _)
      | (with_reducible refine LeO.ite ?_ ?_)
      | (with_reducible refine LeO.bind ?_ (fun _ => ?_))
      | exact flat_reader_flag.mono _ _ _
      | exact flat_reader_num.mono _ _ _ _
      | exact flat_reader_text.mono _ _ _
      | exact LeO.none _
      | refine LeO.ite ?_ ?_
      | refine LeO.bind ?_ (fun _ => ?_)
set_option maxHeartbeats 8000000 in
set_option maxRecDepth 100000 in
theorem flat_TakeChanges_1.calls (k : Nat) (g : Nat) (s0_0 : ByteArray) (s0_1 : Bool) (r1 : Int) (r2 : ByteArray) (r3 : Bool) (r4 : ByteArray) (r5 : Bool) (r6 : ByteArray) (r7 : ByteArray) (r8 : Bool) (w0 w : World) (hI : IsS136 w0 w g s0_0 s0_1) (hB : Below w0.heap.size w0 w) (h : flat_TakeChanges_1.f k s0_0 s0_1 = some (r1, r2, r3, r4, r5, r6, r7, r8)) :
    Calls Try.prog 78 #[.pointer (some ⟨g, 0, none⟩)] w fun e w' => e = .returned (.agg #[.int .i64 r1, .string r2, .bool r3, .string r4, .bool r5, .string r6]) ∧ IsS136 w0 w' g r7 r8 ∧ Below w0.heap.size w0 w' ∧ KeepBut w w' g none := by
  have hu42 := Try.underlying42
  have HI0 := Aside0.mk hI
  have HK := Aside0.mk (KeepBut.refl w g none)
  have HL := Aside0.mk hB.size
  clear hI
  have HW0 := Aside0.mk hB.size
  have HB := Aside0.mk hB
  clear hB
  have H : ((flat_reader_num.f k s0_0 s0_1 4).bind fun bt376 => ((flat_reader_text.f k bt376.2.1 bt376.2.2).bind fun bt379 => ((flat_reader_flag.f k bt379.2.1 bt379.2.2).bind fun bt382 => ((flat_reader_text.f k bt382.2.1 bt382.2.2).bind fun bt385 => ((flat_reader_flag.f k bt385.2.1 bt385.2.2).bind fun bt388 => ((flat_reader_text.f k bt388.2.1 bt388.2.2).bind fun bt391 => (some (wrap64 (bt376.1), bt379.1, bt382.1, bt385.1, bt388.1, bt391.1, bt391.2.1, bt391.2.2)))))))) = some (r1, r2, r3, r4, r5, r6, r7, r8) := h
  clear h
  replace H := Option.bind_eq_some_iff.mp H
  obtain ⟨⟨t376, t377, t378⟩, A20, H⟩ := H
  replace H : ((flat_reader_text.f k t377 t378).bind fun bt379 => ((flat_reader_flag.f k bt379.2.1 bt379.2.2).bind fun bt382 => ((flat_reader_text.f k bt382.2.1 bt382.2.2).bind fun bt385 => ((flat_reader_flag.f k bt385.2.1 bt385.2.2).bind fun bt388 => ((flat_reader_text.f k bt388.2.1 bt388.2.2).bind fun bt391 => (some (wrap64 (t376), bt379.1, bt382.1, bt385.1, bt388.1, bt391.1, bt391.2.1, bt391.2.2))))))) = some (r1, r2, r3, r4, r5, r6, r7, r8) := H
  have A2 := Aside0.mk A20
  clear A20
  replace H := Option.bind_eq_some_iff.mp H
  obtain ⟨⟨t379, t380, t381⟩, A30, H⟩ := H
  replace H : ((flat_reader_flag.f k t380 t381).bind fun bt382 => ((flat_reader_text.f k bt382.2.1 bt382.2.2).bind fun bt385 => ((flat_reader_flag.f k bt385.2.1 bt385.2.2).bind fun bt388 => ((flat_reader_text.f k bt388.2.1 bt388.2.2).bind fun bt391 => (some (wrap64 (t376), t379, bt382.1, bt385.1, bt388.1, bt391.1, bt391.2.1, bt391.2.2)))))) = some (r1, r2, r3, r4, r5, r6, r7, r8) := H
  have A3 := Aside0.mk A30
  clear A30
  replace H := Option.bind_eq_some_iff.mp H
  obtain ⟨⟨t382, t383, t384⟩, A40, H⟩ := H
  replace H : ((flat_reader_text.f k t383 t384).bind fun bt385 => ((flat_reader_flag.f k bt385.2.1 bt385.2.2).bind fun bt388 => ((flat_reader_text.f k bt388.2.1 bt388.2.2).bind fun bt391 => (some (wrap64 (t376), t379, t382, bt385.1, bt388.1, bt391.1, bt391.2.1, bt391.2.2))))) = some (r1, r2, r3, r4, r5, r6, r7, r8) := H
  have A4 := Aside0.mk A40
  clear A40
  replace H := Option.bind_eq_some_iff.mp H
  obtain ⟨⟨t385, t386, t387⟩, A50, H⟩ := H
  replace H : ((flat_reader_flag.f k t386 t387).bind fun bt388 => ((flat_reader_text.f k bt388.2.1 bt388.2.2).bind fun bt391 => (some (wrap64 (t376), t379, t382, t385, bt388.1, bt391.1, bt391.2.1, bt391.2.2)))) = some (r1, r2, r3, r4, r5, r6, r7, r8) := H
  have A5 := Aside0.mk A50
  clear A50
  replace H := Option.bind_eq_some_iff.mp H
  obtain ⟨⟨t388, t389, t390⟩, A60, H⟩ := H
  replace H : ((flat_reader_text.f k t389 t390).bind fun bt391 => (some (wrap64 (t376), t379, t382, t385, t388, bt391.1, bt391.2.1, bt391.2.2))) = some (r1, r2, r3, r4, r5, r6, r7, r8) := H
  have A6 := Aside0.mk A60
  clear A60
  replace H := Option.bind_eq_some_iff.mp H
  obtain ⟨⟨t391, t392, t393⟩, A70, H⟩ := H
  replace H : (some (wrap64 (t376), t379, t382, t385, t388, t391, t392, t393)) = some (r1, r2, r3, r4, r5, r6, r7, r8) := H
  have A7 := Aside0.mk A70
  clear A70
  simp only [Option.some.injEq, Prod.mk.injEq] at H
  obtain ⟨rfl, rfl, rfl, rfl, rfl, rfl, rfl, rfl⟩ := H
  go_enter Try.func78, Try.ntmps78
  go_wp2_with (first | ((with_reducible refine gate_dst (N := 2) rfl ?_); refine box_event ?hg (N := 2) ?hd (cs := #[.int .i64 0, .string (⟨#[]⟩ : ByteArray), .bool false, .string (⟨#[]⟩ : ByteArray), .bool false, .string (⟨#[]⟩ : ByteArray)]) (t := 42) ?hr ?_; (case hd => rfl); (case hg => rfl); (case hr => first | (go_simp; done) | (go_simp; rfl)); intro gb375 hg w8 hbox hb; have n0_ := Aside0.mk (IsS136.below (by repeat (first | (with_reducible first | exact HI0.out | apply IsS136.alloc | apply IsS136.drewN | apply IsS136.drew | apply IsS136.set_0 | apply IsS136.set_1) | exact HI0.out)) hb); have n1_ := Aside0.mk (KeepBut.trans (by repeat (first | (with_reducible first | exact HK.out | apply KeepBut.set_ | apply keep_drewN | apply keep_drew | apply keep_alloc) | exact HK.out)) (KeepBut.of_below hb g none) (.inl rfl)); have n2_ := Aside0.mk (below_step (by repeat (first | (with_reducible first | exact HB.out | apply below_alloc | apply pw_below_drewN | apply below_drew1 | refine below_set ?_ (IsS136.ge HI0.out)) | exact HB.out)) hb); have n3_ := Aside0.mk (hbox); have n4_ := Aside0.mk ((by rw [hg]; exact (keep_size (w := w) (g := g) (row := none) (by repeat (first | (with_reducible first | exact HK.out | apply KeepBut.set_ | apply keep_drewN | apply keep_drew | apply keep_alloc) | exact HK.out))) : w.heap.size ≤ gb375)); have n5_ := Aside0.mk ((Nat.le_trans HW0.out (by rw [hg]; exact (keep_size (w := w) (g := g) (row := none) (by repeat (first | (with_reducible first | exact HK.out | apply KeepBut.set_ | apply keep_drewN | apply keep_drew | apply keep_alloc) | exact HK.out))) : w.heap.size ≤ gb375) : w0.heap.size ≤ gb375)); have n6_ := Aside0.mk ((by rw [hg]; exact Nat.ne_of_lt (IsS136.lt (show IsS136 w0 _ g s0_0 s0_1 from by repeat (first | (with_reducible first | exact HI0.out | apply IsS136.alloc | apply IsS136.drewN | apply IsS136.drew | apply IsS136.set_0 | apply IsS136.set_1) | exact HI0.out))) : g ≠ gb375)); have n7_ := Aside0.mk ((by rw [hg]; exact Nat.ne_of_gt (IsS136.lt (show IsS136 w0 _ g s0_0 s0_1 from by repeat (first | (with_reducible first | exact HI0.out | apply IsS136.alloc | apply IsS136.drewN | apply IsS136.drew | apply IsS136.set_0 | apply IsS136.set_1) | exact HI0.out))) : gb375 ≠ g)); clear HI0; clear HK; clear HB; have HI0 := n0_; have HK := n1_; have HB := n2_; have BK375 := n3_; have GW375 := n4_; have GE375 := n5_; have NB0_375 := n6_; have NB375_0 := n7_; clear n0_ n1_ n2_ n3_ n4_ n5_ n6_ n7_; clear hb hbox hg) | ((with_reducible refine gate_callee (f := 73) rfl ?_); refine goesL_ (some 4) rfl rfl Try.func73 (by kernel_rfl) rfl #[.pointer (some ⟨g, 0, none⟩), .int .i64 4] rfl (by (try simp only [List.map_toArray, List.map_cons, List.map_nil]); first | done | rfl | (simp only [List.length_drop, List.length_take]; rfl)) ?_; (with_reducible refine (flat_reader_num.calls k g s0_0 s0_1 4 t376 t377 t378 w0 _ ?side1 ?side2 A2.out).mono ?_); (case side1 => repeat (first | (with_reducible first | exact HI0.out | apply IsS136.alloc | apply IsS136.drewN | apply IsS136.drew | apply IsS136.set_0 | apply IsS136.set_1 | refine IsS136.far ?_ NB0_375.out _) | exact HI0.out)); (case side2 => repeat (first | (with_reducible first | exact HB.out | apply below_alloc | apply pw_below_drewN | apply below_drew1 | refine below_set ?_ (IsS136.ge HI0.out) | refine below_set ?_ GE375.out) | exact HB.out)); rintro e w9 ⟨rfl, hi, hb, hk⟩; refine ⟨_, rfl, ?_⟩; have n0_ := Aside0.mk (KeepBut.blk hk (g' := gb375) (o := .cells #[.int .i64 0, .string (⟨#[]⟩ : ByteArray), .bool false, .string (⟨#[]⟩ : ByteArray), .bool false, .string (⟨#[]⟩ : ByteArray)] 42 (0, 0)) (by (with_reducible repeat (first | refine blk_drewN ?_ _ | refine blk_drew ?_ | refine blk_alloc ?_ _)); exact BK375.out) NB375_0.out (by simp)); have n1_ := Aside0.mk (KeepBut.trans (by repeat (first | (with_reducible first | exact HK.out | apply KeepBut.set_ | apply keep_drewN | apply keep_drew | apply keep_alloc | refine keep_far ?_ GW375.out _) | exact HK.out)) hk (.inl rfl)); have n2_ := Aside0.mk (hb); have n3_ := Aside0.mk (hi); clear BK375; clear HK; clear HB; clear HI0; have BK375 := n0_; have HK := n1_; have HB := n2_; have HI0 := n3_; clear n0_ n1_ n2_ n3_; (try clear hb); (try clear hb2); (try clear hk); (try clear hi); have hnb10 := NB375_0.out; have hnc10 := NB0_375.out; have hcz11_0 : w9.cell? ⟨gb375, 0, none⟩ = some (.int .i64 0) := (blk_cell BK375.out 0).trans rfl; have hcz11_1 : w9.cell? ⟨gb375, 1, none⟩ = some (.string (⟨#[]⟩ : ByteArray)) := (blk_cell BK375.out 1).trans rfl; have hcz11_2 : w9.cell? ⟨gb375, 2, none⟩ = some (.bool false) := (blk_cell BK375.out 2).trans rfl; have hcz11_3 : w9.cell? ⟨gb375, 3, none⟩ = some (.string (⟨#[]⟩ : ByteArray)) := (blk_cell BK375.out 3).trans rfl; have hcz11_4 : w9.cell? ⟨gb375, 4, none⟩ = some (.bool false) := (blk_cell BK375.out 4).trans rfl; have hcz11_5 : w9.cell? ⟨gb375, 5, none⟩ = some (.string (⟨#[]⟩ : ByteArray)) := (blk_cell BK375.out 5).trans rfl; have hfz11_0 := blk_frozen BK375.out 0; have hfz11_1 := blk_frozen BK375.out 1; have hfz11_2 := blk_frozen BK375.out 2; have hfz11_3 := blk_frozen BK375.out 3; have hfz11_4 := blk_frozen BK375.out 4; have hfz11_5 := blk_frozen BK375.out 5) | ((with_reducible refine gate_callee (f := 74) rfl ?_); refine goesL_ (some 8) rfl rfl Try.func74 (by kernel_rfl) rfl #[.pointer (some ⟨g, 0, none⟩)] rfl (by (try simp only [List.map_toArray, List.map_cons, List.map_nil]); first | done | rfl | (simp only [List.length_drop, List.length_take]; rfl)) ?_; (with_reducible refine (flat_reader_text.calls k g t377 t378 t379 t380 t381 w0 _ ?side1 ?side2 A3.out).mono ?_); (case side1 => repeat (first | (with_reducible first | exact HI0.out | apply IsS136.alloc | apply IsS136.drewN | apply IsS136.drew | apply IsS136.set_0 | apply IsS136.set_1 | refine IsS136.far ?_ NB0_375.out _) | exact HI0.out)); (case side2 => repeat (first | (with_reducible first | exact HB.out | apply below_alloc | apply pw_below_drewN | apply below_drew1 | refine below_set ?_ (IsS136.ge HI0.out) | refine below_set ?_ GE375.out) | exact HB.out)); rintro e w12 ⟨rfl, hi, hb, hk⟩; refine ⟨_, rfl, ?_⟩; have n0_ := Aside0.mk (KeepBut.blk hk (g' := gb375) (o := .cells #[.int .i64 (wrap64 (t376)), .string (⟨#[]⟩ : ByteArray), .bool false, .string (⟨#[]⟩ : ByteArray), .bool false, .string (⟨#[]⟩ : ByteArray)] 42 (0, 0)) (by (with_reducible repeat (first | refine blk_drewN ?_ _ | refine blk_drew ?_ | refine blk_alloc ?_ _)); refine blk_put (cs := #[.int .i64 0, .string (⟨#[]⟩ : ByteArray), .bool false, .string (⟨#[]⟩ : ByteArray), .bool false, .string (⟨#[]⟩ : ByteArray)]) ?_ 0 _ rfl; (with_reducible repeat (first | refine blk_drewN ?_ _ | refine blk_drew ?_ | refine blk_alloc ?_ _)); exact BK375.out) NB375_0.out (by simp)); have n1_ := Aside0.mk (KeepBut.trans (by repeat (first | (with_reducible first | exact HK.out | apply KeepBut.set_ | apply keep_drewN | apply keep_drew | apply keep_alloc | refine keep_far ?_ GW375.out _) | exact HK.out)) hk (.inl rfl)); have n2_ := Aside0.mk (hb); have n3_ := Aside0.mk (hi); clear BK375; clear HK; clear HB; clear HI0; have BK375 := n0_; have HK := n1_; have HB := n2_; have HI0 := n3_; clear n0_ n1_ n2_ n3_; (try clear hb); (try clear hb2); (try clear hk); (try clear hi); have hcz13_0 : w12.cell? ⟨gb375, 0, none⟩ = some (.int .i64 (wrap64 (t376))) := (blk_cell BK375.out 0).trans rfl; have hcz13_1 : w12.cell? ⟨gb375, 1, none⟩ = some (.string (⟨#[]⟩ : ByteArray)) := (blk_cell BK375.out 1).trans rfl; have hcz13_2 : w12.cell? ⟨gb375, 2, none⟩ = some (.bool false) := (blk_cell BK375.out 2).trans rfl; have hcz13_3 : w12.cell? ⟨gb375, 3, none⟩ = some (.string (⟨#[]⟩ : ByteArray)) := (blk_cell BK375.out 3).trans rfl; have hcz13_4 : w12.cell? ⟨gb375, 4, none⟩ = some (.bool false) := (blk_cell BK375.out 4).trans rfl; have hcz13_5 : w12.cell? ⟨gb375, 5, none⟩ = some (.string (⟨#[]⟩ : ByteArray)) := (blk_cell BK375.out 5).trans rfl; have hfz13_0 := blk_frozen BK375.out 0; have hfz13_1 := blk_frozen BK375.out 1; have hfz13_2 := blk_frozen BK375.out 2; have hfz13_3 := blk_frozen BK375.out 3; have hfz13_4 := blk_frozen BK375.out 4; have hfz13_5 := blk_frozen BK375.out 5) | ((with_reducible refine gate_callee (f := 79) rfl ?_); refine goesL_ (some 11) rfl rfl Try.func79 (by kernel_rfl) rfl #[.pointer (some ⟨g, 0, none⟩)] rfl (by (try simp only [List.map_toArray, List.map_cons, List.map_nil]); first | done | rfl | (simp only [List.length_drop, List.length_take]; rfl)) ?_; (with_reducible refine (flat_reader_flag.calls k g t380 t381 t382 t383 t384 w0 _ ?side1 ?side2 A4.out).mono ?_); (case side1 => repeat (first | (with_reducible first | exact HI0.out | apply IsS136.alloc | apply IsS136.drewN | apply IsS136.drew | apply IsS136.set_0 | apply IsS136.set_1 | refine IsS136.far ?_ NB0_375.out _) | exact HI0.out)); (case side2 => repeat (first | (with_reducible first | exact HB.out | apply below_alloc | apply pw_below_drewN | apply below_drew1 | refine below_set ?_ (IsS136.ge HI0.out) | refine below_set ?_ GE375.out) | exact HB.out)); rintro e w14 ⟨rfl, hi, hb, hk⟩; refine ⟨_, rfl, ?_⟩; have n0_ := Aside0.mk (KeepBut.blk hk (g' := gb375) (o := .cells #[.int .i64 (wrap64 (t376)), .string t379, .bool false, .string (⟨#[]⟩ : ByteArray), .bool false, .string (⟨#[]⟩ : ByteArray)] 42 (0, 0)) (by (with_reducible repeat (first | refine blk_drewN ?_ _ | refine blk_drew ?_ | refine blk_alloc ?_ _)); refine blk_put (cs := #[.int .i64 (wrap64 (t376)), .string (⟨#[]⟩ : ByteArray), .bool false, .string (⟨#[]⟩ : ByteArray), .bool false, .string (⟨#[]⟩ : ByteArray)]) ?_ 1 _ rfl; (with_reducible repeat (first | refine blk_drewN ?_ _ | refine blk_drew ?_ | refine blk_alloc ?_ _)); exact BK375.out) NB375_0.out (by simp)); have n1_ := Aside0.mk (KeepBut.trans (by repeat (first | (with_reducible first | exact HK.out | apply KeepBut.set_ | apply keep_drewN | apply keep_drew | apply keep_alloc | refine keep_far ?_ GW375.out _) | exact HK.out)) hk (.inl rfl)); have n2_ := Aside0.mk (hb); have n3_ := Aside0.mk (hi); clear BK375; clear HK; clear HB; clear HI0; have BK375 := n0_; have HK := n1_; have HB := n2_; have HI0 := n3_; clear n0_ n1_ n2_ n3_; (try clear hb); (try clear hb2); (try clear hk); (try clear hi); have hcz15_0 : w14.cell? ⟨gb375, 0, none⟩ = some (.int .i64 (wrap64 (t376))) := (blk_cell BK375.out 0).trans rfl; have hcz15_1 : w14.cell? ⟨gb375, 1, none⟩ = some (.string t379) := (blk_cell BK375.out 1).trans rfl; have hcz15_2 : w14.cell? ⟨gb375, 2, none⟩ = some (.bool false) := (blk_cell BK375.out 2).trans rfl; have hcz15_3 : w14.cell? ⟨gb375, 3, none⟩ = some (.string (⟨#[]⟩ : ByteArray)) := (blk_cell BK375.out 3).trans rfl; have hcz15_4 : w14.cell? ⟨gb375, 4, none⟩ = some (.bool false) := (blk_cell BK375.out 4).trans rfl; have hcz15_5 : w14.cell? ⟨gb375, 5, none⟩ = some (.string (⟨#[]⟩ : ByteArray)) := (blk_cell BK375.out 5).trans rfl; have hfz15_0 := blk_frozen BK375.out 0; have hfz15_1 := blk_frozen BK375.out 1; have hfz15_2 := blk_frozen BK375.out 2; have hfz15_3 := blk_frozen BK375.out 3; have hfz15_4 := blk_frozen BK375.out 4; have hfz15_5 := blk_frozen BK375.out 5) | ((with_reducible refine gate_callee (f := 74) rfl ?_); refine goesL_ (some 14) rfl rfl Try.func74 (by kernel_rfl) rfl #[.pointer (some ⟨g, 0, none⟩)] rfl (by (try simp only [List.map_toArray, List.map_cons, List.map_nil]); first | done | rfl | (simp only [List.length_drop, List.length_take]; rfl)) ?_; (with_reducible refine (flat_reader_text.calls k g t383 t384 t385 t386 t387 w0 _ ?side1 ?side2 A5.out).mono ?_); (case side1 => repeat (first | (with_reducible first | exact HI0.out | apply IsS136.alloc | apply IsS136.drewN | apply IsS136.drew | apply IsS136.set_0 | apply IsS136.set_1 | refine IsS136.far ?_ NB0_375.out _) | exact HI0.out)); (case side2 => repeat (first | (with_reducible first | exact HB.out | apply below_alloc | apply pw_below_drewN | apply below_drew1 | refine below_set ?_ (IsS136.ge HI0.out) | refine below_set ?_ GE375.out) | exact HB.out)); rintro e w16 ⟨rfl, hi, hb, hk⟩; refine ⟨_, rfl, ?_⟩; have n0_ := Aside0.mk (KeepBut.blk hk (g' := gb375) (o := .cells #[.int .i64 (wrap64 (t376)), .string t379, .bool t382, .string (⟨#[]⟩ : ByteArray), .bool false, .string (⟨#[]⟩ : ByteArray)] 42 (0, 0)) (by (with_reducible repeat (first | refine blk_drewN ?_ _ | refine blk_drew ?_ | refine blk_alloc ?_ _)); refine blk_put (cs := #[.int .i64 (wrap64 (t376)), .string t379, .bool false, .string (⟨#[]⟩ : ByteArray), .bool false, .string (⟨#[]⟩ : ByteArray)]) ?_ 2 _ rfl; (with_reducible repeat (first | refine blk_drewN ?_ _ | refine blk_drew ?_ | refine blk_alloc ?_ _)); exact BK375.out) NB375_0.out (by simp)); have n1_ := Aside0.mk (KeepBut.trans (by repeat (first | (with_reducible first | exact HK.out | apply KeepBut.set_ | apply keep_drewN | apply keep_drew | apply keep_alloc | refine keep_far ?_ GW375.out _) | exact HK.out)) hk (.inl rfl)); have n2_ := Aside0.mk (hb); have n3_ := Aside0.mk (hi); clear BK375; clear HK; clear HB; clear HI0; have BK375 := n0_; have HK := n1_; have HB := n2_; have HI0 := n3_; clear n0_ n1_ n2_ n3_; (try clear hb); (try clear hb2); (try clear hk); (try clear hi); have hcz17_0 : w16.cell? ⟨gb375, 0, none⟩ = some (.int .i64 (wrap64 (t376))) := (blk_cell BK375.out 0).trans rfl; have hcz17_1 : w16.cell? ⟨gb375, 1, none⟩ = some (.string t379) := (blk_cell BK375.out 1).trans rfl; have hcz17_2 : w16.cell? ⟨gb375, 2, none⟩ = some (.bool t382) := (blk_cell BK375.out 2).trans rfl; have hcz17_3 : w16.cell? ⟨gb375, 3, none⟩ = some (.string (⟨#[]⟩ : ByteArray)) := (blk_cell BK375.out 3).trans rfl; have hcz17_4 : w16.cell? ⟨gb375, 4, none⟩ = some (.bool false) := (blk_cell BK375.out 4).trans rfl; have hcz17_5 : w16.cell? ⟨gb375, 5, none⟩ = some (.string (⟨#[]⟩ : ByteArray)) := (blk_cell BK375.out 5).trans rfl; have hfz17_0 := blk_frozen BK375.out 0; have hfz17_1 := blk_frozen BK375.out 1; have hfz17_2 := blk_frozen BK375.out 2; have hfz17_3 := blk_frozen BK375.out 3; have hfz17_4 := blk_frozen BK375.out 4; have hfz17_5 := blk_frozen BK375.out 5) | ((with_reducible refine gate_callee (f := 79) rfl ?_); refine goesL_ (some 17) rfl rfl Try.func79 (by kernel_rfl) rfl #[.pointer (some ⟨g, 0, none⟩)] rfl (by (try simp only [List.map_toArray, List.map_cons, List.map_nil]); first | done | rfl | (simp only [List.length_drop, List.length_take]; rfl)) ?_; (with_reducible refine (flat_reader_flag.calls k g t386 t387 t388 t389 t390 w0 _ ?side1 ?side2 A6.out).mono ?_); (case side1 => repeat (first | (with_reducible first | exact HI0.out | apply IsS136.alloc | apply IsS136.drewN | apply IsS136.drew | apply IsS136.set_0 | apply IsS136.set_1 | refine IsS136.far ?_ NB0_375.out _) | exact HI0.out)); (case side2 => repeat (first | (with_reducible first | exact HB.out | apply below_alloc | apply pw_below_drewN | apply below_drew1 | refine below_set ?_ (IsS136.ge HI0.out) | refine below_set ?_ GE375.out) | exact HB.out)); rintro e w18 ⟨rfl, hi, hb, hk⟩; refine ⟨_, rfl, ?_⟩; have n0_ := Aside0.mk (KeepBut.blk hk (g' := gb375) (o := .cells #[.int .i64 (wrap64 (t376)), .string t379, .bool t382, .string t385, .bool false, .string (⟨#[]⟩ : ByteArray)] 42 (0, 0)) (by (with_reducible repeat (first | refine blk_drewN ?_ _ | refine blk_drew ?_ | refine blk_alloc ?_ _)); refine blk_put (cs := #[.int .i64 (wrap64 (t376)), .string t379, .bool t382, .string (⟨#[]⟩ : ByteArray), .bool false, .string (⟨#[]⟩ : ByteArray)]) ?_ 3 _ rfl; (with_reducible repeat (first | refine blk_drewN ?_ _ | refine blk_drew ?_ | refine blk_alloc ?_ _)); exact BK375.out) NB375_0.out (by simp)); have n1_ := Aside0.mk (KeepBut.trans (by repeat (first | (with_reducible first | exact HK.out | apply KeepBut.set_ | apply keep_drewN | apply keep_drew | apply keep_alloc | refine keep_far ?_ GW375.out _) | exact HK.out)) hk (.inl rfl)); have n2_ := Aside0.mk (hb); have n3_ := Aside0.mk (hi); clear BK375; clear HK; clear HB; clear HI0; have BK375 := n0_; have HK := n1_; have HB := n2_; have HI0 := n3_; clear n0_ n1_ n2_ n3_; (try clear hb); (try clear hb2); (try clear hk); (try clear hi); have hcz19_0 : w18.cell? ⟨gb375, 0, none⟩ = some (.int .i64 (wrap64 (t376))) := (blk_cell BK375.out 0).trans rfl; have hcz19_1 : w18.cell? ⟨gb375, 1, none⟩ = some (.string t379) := (blk_cell BK375.out 1).trans rfl; have hcz19_2 : w18.cell? ⟨gb375, 2, none⟩ = some (.bool t382) := (blk_cell BK375.out 2).trans rfl; have hcz19_3 : w18.cell? ⟨gb375, 3, none⟩ = some (.string t385) := (blk_cell BK375.out 3).trans rfl; have hcz19_4 : w18.cell? ⟨gb375, 4, none⟩ = some (.bool false) := (blk_cell BK375.out 4).trans rfl; have hcz19_5 : w18.cell? ⟨gb375, 5, none⟩ = some (.string (⟨#[]⟩ : ByteArray)) := (blk_cell BK375.out 5).trans rfl; have hfz19_0 := blk_frozen BK375.out 0; have hfz19_1 := blk_frozen BK375.out 1; have hfz19_2 := blk_frozen BK375.out 2; have hfz19_3 := blk_frozen BK375.out 3; have hfz19_4 := blk_frozen BK375.out 4; have hfz19_5 := blk_frozen BK375.out 5) | ((with_reducible refine gate_callee (f := 74) rfl ?_); refine goesL_ (some 20) rfl rfl Try.func74 (by kernel_rfl) rfl #[.pointer (some ⟨g, 0, none⟩)] rfl (by (try simp only [List.map_toArray, List.map_cons, List.map_nil]); first | done | rfl | (simp only [List.length_drop, List.length_take]; rfl)) ?_; (with_reducible refine (flat_reader_text.calls k g t389 t390 t391 t392 t393 w0 _ ?side1 ?side2 A7.out).mono ?_); (case side1 => repeat (first | (with_reducible first | exact HI0.out | apply IsS136.alloc | apply IsS136.drewN | apply IsS136.drew | apply IsS136.set_0 | apply IsS136.set_1 | refine IsS136.far ?_ NB0_375.out _) | exact HI0.out)); (case side2 => repeat (first | (with_reducible first | exact HB.out | apply below_alloc | apply pw_below_drewN | apply below_drew1 | refine below_set ?_ (IsS136.ge HI0.out) | refine below_set ?_ GE375.out) | exact HB.out)); rintro e w20 ⟨rfl, hi, hb, hk⟩; refine ⟨_, rfl, ?_⟩; have n0_ := Aside0.mk (KeepBut.blk hk (g' := gb375) (o := .cells #[.int .i64 (wrap64 (t376)), .string t379, .bool t382, .string t385, .bool t388, .string (⟨#[]⟩ : ByteArray)] 42 (0, 0)) (by (with_reducible repeat (first | refine blk_drewN ?_ _ | refine blk_drew ?_ | refine blk_alloc ?_ _)); refine blk_put (cs := #[.int .i64 (wrap64 (t376)), .string t379, .bool t382, .string t385, .bool false, .string (⟨#[]⟩ : ByteArray)]) ?_ 4 _ rfl; (with_reducible repeat (first | refine blk_drewN ?_ _ | refine blk_drew ?_ | refine blk_alloc ?_ _)); exact BK375.out) NB375_0.out (by simp)); have n1_ := Aside0.mk (KeepBut.trans (by repeat (first | (with_reducible first | exact HK.out | apply KeepBut.set_ | apply keep_drewN | apply keep_drew | apply keep_alloc | refine keep_far ?_ GW375.out _) | exact HK.out)) hk (.inl rfl)); have n2_ := Aside0.mk (hb); have n3_ := Aside0.mk (hi); clear BK375; clear HK; clear HB; clear HI0; have BK375 := n0_; have HK := n1_; have HB := n2_; have HI0 := n3_; clear n0_ n1_ n2_ n3_; (try clear hb); (try clear hb2); (try clear hk); (try clear hi); have hcz21_0 : w20.cell? ⟨gb375, 0, none⟩ = some (.int .i64 (wrap64 (t376))) := (blk_cell BK375.out 0).trans rfl; have hcz21_1 : w20.cell? ⟨gb375, 1, none⟩ = some (.string t379) := (blk_cell BK375.out 1).trans rfl; have hcz21_2 : w20.cell? ⟨gb375, 2, none⟩ = some (.bool t382) := (blk_cell BK375.out 2).trans rfl; have hcz21_3 : w20.cell? ⟨gb375, 3, none⟩ = some (.string t385) := (blk_cell BK375.out 3).trans rfl; have hcz21_4 : w20.cell? ⟨gb375, 4, none⟩ = some (.bool t388) := (blk_cell BK375.out 4).trans rfl; have hcz21_5 : w20.cell? ⟨gb375, 5, none⟩ = some (.string (⟨#[]⟩ : ByteArray)) := (blk_cell BK375.out 5).trans rfl; have hfz21_0 := blk_frozen BK375.out 0; have hfz21_1 := blk_frozen BK375.out 1; have hfz21_2 := blk_frozen BK375.out 2; have hfz21_3 := blk_frozen BK375.out 3; have hfz21_4 := blk_frozen BK375.out 4; have hfz21_5 := blk_frozen BK375.out 5))
  refine bodyPost_ret (results_cell_row rfl _ _ gb375 42 #[.int .i64 (wrap64 (t376)), .string t379, .bool t382, .string t385, .bool t388, .string t391] (0, 0) _ rfl (by (with_reducible repeat (first | refine blk_drewN ?_ _ | refine blk_drew ?_ | refine blk_alloc ?_ _)); refine blk_put (cs := #[.int .i64 (wrap64 (t376)), .string t379, .bool t382, .string t385, .bool t388, .string t391]) ?_ 5 _ rfl; (with_reducible repeat (first | refine blk_drewN ?_ _ | refine blk_drew ?_ | refine blk_alloc ?_ _)); refine blk_put (cs := #[.int .i64 (wrap64 (t376)), .string t379, .bool t382, .string t385, .bool t388, .string t391]) ?_ 4 _ rfl; (with_reducible repeat (first | refine blk_drewN ?_ _ | refine blk_drew ?_ | refine blk_alloc ?_ _)); refine blk_put (cs := #[.int .i64 (wrap64 (t376)), .string t379, .bool t382, .string t385, .bool t388, .string t391]) ?_ 3 _ rfl; (with_reducible repeat (first | refine blk_drewN ?_ _ | refine blk_drew ?_ | refine blk_alloc ?_ _)); refine blk_put (cs := #[.int .i64 (wrap64 (t376)), .string t379, .bool t382, .string t385, .bool t388, .string t391]) ?_ 2 _ rfl; (with_reducible repeat (first | refine blk_drewN ?_ _ | refine blk_drew ?_ | refine blk_alloc ?_ _)); refine blk_put (cs := #[.int .i64 (wrap64 (t376)), .string t379, .bool t382, .string t385, .bool t388, .string t391]) ?_ 1 _ rfl; (with_reducible repeat (first | refine blk_drewN ?_ _ | refine blk_drew ?_ | refine blk_alloc ?_ _)); refine blk_put (cs := #[.int .i64 (wrap64 (t376)), .string t379, .bool t382, .string t385, .bool t388, .string t391]) ?_ 0 _ rfl; (with_reducible repeat (first | refine blk_drewN ?_ _ | refine blk_drew ?_ | refine blk_alloc ?_ _)); refine blk_put (cs := #[.int .i64 (wrap64 (t376)), .string t379, .bool t382, .string t385, .bool t388, .string (⟨#[]⟩ : ByteArray)]) ?_ 5 _ rfl; (with_reducible repeat (first | refine blk_drewN ?_ _ | refine blk_drew ?_ | refine blk_alloc ?_ _)); exact BK375.out) Try.underlying42 rfl (by kernel_rfl)) rfl ?_
  exact ⟨by first | rfl | (simp [errW_none, errW_some] <;> rfl) | (simp [*, errW_none, errW_some] <;> rfl), by repeat (first | (with_reducible first | exact HI0.out | apply IsS136.alloc | apply IsS136.drewN | apply IsS136.drew | apply IsS136.set_0 | apply IsS136.set_1 | refine IsS136.far ?_ NB0_375.out _) | exact HI0.out), by repeat (first | (with_reducible first | exact HB.out | apply below_alloc | apply pw_below_drewN | apply below_drew1 | refine below_set ?_ (IsS136.ge HI0.out) | refine below_set ?_ GE375.out) | exact HB.out), by repeat (first | (with_reducible first | exact HK.out | apply KeepBut.set_ | apply keep_drewN | apply keep_drew | apply keep_alloc | refine keep_far ?_ GW375.out _) | exact HK.out)⟩

/-! ### flat_TakeChanges: function 29 -/


def flat_TakeChanges.l0 : Nat → ByteArray → Bool → List (S42) → Int → Int → Option (List (S42) × ByteArray × Int)
  | 0, _, _, _, _, _ => none
  | k + 1, s, bad, out, n, i => if i < n then ((flat_TakeChanges_1.f k s bad).bind fun q => (if q.2.2.2.2.2.2.2 = true then (some (([] : List (S42)), (⟨#[]⟩ : ByteArray), 2)) else ((flat_May.f k q.1 q.2.1 q.2.2.1 q.2.2.2.1 q.2.2.2.2.1 q.2.2.2.2.2.1).bind fun m => (if m = true then (if out.length < 1954687338268 then (flat_TakeChanges.l0 k q.2.2.2.2.2.2.1 q.2.2.2.2.2.2.2 (out ++ [⟨q.1, q.2.1, q.2.2.1, q.2.2.2.1, q.2.2.2.2.1, q.2.2.2.2.2.1⟩]) n (IntKind.u64.wrap (i + 1))) else (none)) else (some (([] : List (S42)), (⟨#[]⟩ : ByteArray), 2)))))) else (if bad = true then (some (([] : List (S42)), (⟨#[]⟩ : ByteArray), 2)) else (some (out, s, 0)))
def flat_TakeChanges.f (k : Nat) (a0 : ByteArray) : Option (List (S42) × ByteArray × Int) := (flat_reader_num.f k a0 false 2).bind fun p => flat_TakeChanges.l0 k p.2.1 p.2.2 ([] : List (S42)) p.1 0
theorem flat_TakeChanges.mono_l : ∀ k, (∀ y0 y1 y2 y3 y4, LeO (flat_TakeChanges.l0 k y0 y1 y2 y3 y4) (flat_TakeChanges.l0 (k + 1) y0 y1 y2 y3 y4))
  | 0 => fun _ _ _ _ _ r h => by simp [flat_TakeChanges.l0] at h
  | k + 1 => by
    have ih := flat_TakeChanges.mono_l k
    intro y0 y1 y2 y3 y4
    unfold flat_TakeChanges.l0
    refine LeO.ite (LeO.bind (flat_TakeChanges_1.mono _ _ _) fun _ => LeO.ite (LeO.refl _) (LeO.bind (flat_May.mono _ _ _ _ _ _ _) fun _ => LeO.ite (LeO.ite (ih _ _ _ _ _) (LeO.none _)) (LeO.refl _))) (LeO.refl _)
theorem flat_TakeChanges.mono : ∀ a0 k, LeO (flat_TakeChanges.f k a0) (flat_TakeChanges.f (k + 1) a0) := by
  intro a0 k
  unfold flat_TakeChanges.f
  exact LeO.bind (flat_reader_num.mono _ _ _ _) fun _ => flat_TakeChanges.mono_l k _ _ _ _ _
set_option maxHeartbeats 8000000 in
set_option maxRecDepth 100000 in
theorem flat_TakeChanges.take (k : Nat) (a0 : ByteArray) (r1 : List (S42)) (r2 : ByteArray) (r3 : Int) (w : World) (h : flat_TakeChanges.f k a0 = some (r1, r2, r3)) :
    Calls Try.prog 77 #[.string a0, .func (.func 24) #[] #[], .func (.func 78) #[] #[]] w fun e w' => ∃ v0_ : Value, e = .returned (.tuple #[v0_, .string r2, .int .i64 r3]) ∧ Kd.R k42 42 w' w.heap.size (fun _ => True) v0_ r1 ∧ Below w.heap.size w w' := by
  have hu42 := Try.underlying42
  unfold flat_TakeChanges.f at h
  obtain ⟨⟨p1, p2, p3⟩, A, h⟩ := Option.bind_eq_some_iff.mp h
  have HA := Aside0.mk A
  have H0 := Aside0.mk h
  clear A h
  go_enter Try.func77, Try.ntmps77
  go_wp2_with (go_at_call 73; (with_reducible refine (flat_reader_num.calls k w.heap.size a0 false 2 p1 p2 p3 w _ (IsS136.new w w a0 false (Below.refl _ _)) (below_alloc (Below.refl _ _) _) HA.out).mono ?_); rintro e w1 ⟨rfl, hI, hB, hK⟩; have HI := Aside0.mk hI; have HB := Aside0.mk hB; clear hI hB hK)
  go_loopg [10, 17] k (fun kq v10 v17 w' => ∃ (i : Int) (s : ByteArray) (bad : Bool) (out : List (S42)), v17 = .int .u64 i ∧ Aside0 (flat_TakeChanges.l0 kq s bad out p1 i = some (r1, r2, r3)) ∧ Aside0 (kq ≤ k) ∧ Aside0 (IsS136 w w' w.heap.size s bad) ∧ Aside0 (Below w.heap.size w w') ∧ Aside0 (Kd.R k42 42 w' w.heap.size (fun k_ => k_ ≠ w.heap.size) v10 out))
  case atStart => exact ⟨0, p2, p3, [], (by first | rfl | (simp; done)), H0, ⟨Nat.le_refl _⟩, HI, HB, ⟨Kd.R_nil _ _ _ _ _⟩⟩
  case round =>
    clear H0 HI HB HA
    obtain ⟨i, s, bad, out, rfl, HA, HK1, HI, HB, HO⟩ := hrel
    cases gk with
    | zero => exact absurd HA.out (by simp [flat_TakeChanges.l0])
    | succ k1 =>
      have H := HA.out
      clear HA
      simp only [flat_TakeChanges.l0] at H
      by_cases c2 : i < p1
      · rw [if_pos c2] at H
        have c2b0 : decide (i < p1) = true := decide_eq_true c2
        clear c2
        obtain ⟨⟨t0, t1, t2, t3, t4, t5, s1, bad1⟩, A1, H⟩ := Option.bind_eq_some_iff.mp H
        simp only at H
        have HA1 := Aside0.mk A1
        clear A1
        cases bad1 with
        | true =>
          rw [if_pos rfl] at H
          simp only [Option.some.injEq, Prod.mk.injEq] at H
          obtain ⟨rfl, rfl, rfl⟩ := H
          go_wp2_with (go_at_call 78; (with_reducible refine (flat_TakeChanges_1.calls k1 w.heap.size s bad t0 t1 t2 t3 t4 t5 s1 true w _ HI.out HB.out HA1.out).mono ?_); rintro e w5 ⟨rfl, hI, hB, hK⟩; have HO5 := Aside0.mk (Kd.R_keep HO.out hK (fun _ h => h)); have HI5 := Aside0.mk hI; have HB5 := Aside0.mk hB; have hlt5 := hI.lt; have hle5 := hB.size; have hy0 : w5.cell? ⟨w.heap.size, 0, none⟩ = some (.string s1) := (blk_cell hI.1 0).trans rfl; have hy1 : w5.cell? ⟨w.heap.size, 1, none⟩ = some (.bool true) := (blk_cell hI.1 1).trans rfl; clear hI hB hK)
          go_ret3
          exact ⟨_, rfl, Kd.R_nil _ _ _ _ _, below_alloc HB5.out _⟩
        | false =>
          rw [if_neg (by decide)] at H
          obtain ⟨m, A2, H⟩ := Option.bind_eq_some_iff.mp H
          have HA2 := Aside0.mk A2
          clear A2
          cases m with
          | false =>
            rw [if_neg (by decide)] at H
            simp only [Option.some.injEq, Prod.mk.injEq] at H
            obtain ⟨rfl, rfl, rfl⟩ := H
            go_wp2_with (first | (go_at_call 78; (with_reducible refine (flat_TakeChanges_1.calls k1 w.heap.size s bad t0 t1 t2 t3 t4 t5 s1 false w _ HI.out HB.out HA1.out).mono ?_); rintro e w5 ⟨rfl, hI, hB, hK⟩; have HO5 := Aside0.mk (Kd.R_keep HO.out hK (fun _ h => h)); have HI5 := Aside0.mk hI; have HB5 := Aside0.mk hB; have hlt5 := hI.lt; have hle5 := hB.size; have hy0 : w5.cell? ⟨w.heap.size, 0, none⟩ = some (.string s1) := (blk_cell hI.1 0).trans rfl; have hy1 : w5.cell? ⟨w.heap.size, 1, none⟩ = some (.bool false) := (blk_cell hI.1 1).trans rfl; clear hI hB hK) | (go_at_call 24; (with_reducible refine (flat_May.calls k1 t0 t1 t2 t3 t4 t5 false _ HA2.out).mono ?_); rintro e w6 ⟨rfl, hb⟩; have BK : w6.heap[w5.heap.size]? = some (.cells #[.int .i64 t0, .string t1, .bool t2, .string t3, .bool t4, .string t5] 42 (0, 0)) := (hb.block w5.heap.size (by simp)).trans (heap_alloc_new w5 _); have hc0 := (blk_cell BK 0).trans rfl; have hz0 := blk_frozen BK 0; have hc1 := (blk_cell BK 1).trans rfl; have hz1 := blk_frozen BK 1; have hc2 := (blk_cell BK 2).trans rfl; have hz2 := blk_frozen BK 2; have hc3 := (blk_cell BK 3).trans rfl; have hz3 := blk_frozen BK 3; have hc4 := (blk_cell BK 4).trans rfl; have hz4 := blk_frozen BK 4; have hc5 := (blk_cell BK 5).trans rfl; have hz5 := blk_frozen BK 5; have HO6 := Aside0.mk (Kd.R_below (Kd.R_alloc HO5.out _) hb); have HI6 := Aside0.mk ((HI5.out.alloc _).below hb); have HB6 := Aside0.mk (below_step (below_alloc HB5.out _) hb); have hlt6 : w.heap.size < w6.heap.size := HI6.out.lt; clear hb BK))
            go_ret3
            exact ⟨_, rfl, Kd.R_nil _ _ _ _ _, HB6.out⟩
          | true =>
            rw [if_pos rfl] at H
            by_cases c3 : out.length < 1954687338268
            · rw [if_pos c3] at H
              have HL := Aside0.mk c3
              have H' := Aside0.mk H
              clear c3 H
              go_wp2_with (first | (go_at_call 78; (with_reducible refine (flat_TakeChanges_1.calls k1 w.heap.size s bad t0 t1 t2 t3 t4 t5 s1 false w _ HI.out HB.out HA1.out).mono ?_); rintro e w5 ⟨rfl, hI, hB, hK⟩; have HO5 := Aside0.mk (Kd.R_keep HO.out hK (fun _ h => h)); have HI5 := Aside0.mk hI; have HB5 := Aside0.mk hB; have hlt5 := hI.lt; have hle5 := hB.size; have hy0 : w5.cell? ⟨w.heap.size, 0, none⟩ = some (.string s1) := (blk_cell hI.1 0).trans rfl; have hy1 : w5.cell? ⟨w.heap.size, 1, none⟩ = some (.bool false) := (blk_cell hI.1 1).trans rfl; clear hI hB hK) | (go_at_call 24; (with_reducible refine (flat_May.calls k1 t0 t1 t2 t3 t4 t5 true _ HA2.out).mono ?_); rintro e w6 ⟨rfl, hb⟩; have BK : w6.heap[w5.heap.size]? = some (.cells #[.int .i64 t0, .string t1, .bool t2, .string t3, .bool t4, .string t5] 42 (0, 0)) := (hb.block w5.heap.size (by simp)).trans (heap_alloc_new w5 _); have hc0 := (blk_cell BK 0).trans rfl; have hz0 := blk_frozen BK 0; have hc1 := (blk_cell BK 1).trans rfl; have hz1 := blk_frozen BK 1; have hc2 := (blk_cell BK 2).trans rfl; have hz2 := blk_frozen BK 2; have hc3 := (blk_cell BK 3).trans rfl; have hz3 := blk_frozen BK 3; have hc4 := (blk_cell BK 4).trans rfl; have hz4 := blk_frozen BK 4; have hc5 := (blk_cell BK 5).trans rfl; have hz5 := blk_frozen BK 5; have HO6 := Aside0.mk (Kd.R_below (Kd.R_alloc HO5.out _) hb); have HI6 := Aside0.mk ((HI5.out.alloc _).below hb); have HB6 := Aside0.mk (below_step (below_alloc HB5.out _) hb); have hlt6 : w.heap.size < w6.heap.size := HI6.out.lt; clear hb BK) | (at_builtin; refine Kd.R_append k42 (w0 := w) w.heap.size rfl (.tmp 32) (.tmp 34) 24 42 (.agg #[(.int .i64 0), (.string ⟨#[]⟩), (.bool false), (.string ⟨#[]⟩), (.bool false), (.string ⟨#[]⟩)]) 72 rfl Try.underlying24 info42 rfl (by decide) (by omega) u10 out ⟨t0, t1, t2, t3, t4, t5⟩ [.int .i64 t0, .string t1, .bool t2, .string t3, .bool t4, .string t5] (fun k_ => k_ ≠ w.heap.size) (fun _ => False) rfl rfl (k42_mkM _ _ _ ⟨t0, t1, t2, t3, t4, t5⟩) (fun _ hk => hk.elim) (fun k_ hk he => absurd hk (by rw [he]; exact Nat.not_le.mpr hlt6)) HO6.out HB6.out (Nat.le_of_lt hlt6) (by have := HL.out; omega) ?_; intro v1 w7 ho hb hg hat; have HI7 := Aside0.mk (HI6.out.grown hg (HI6.out.own_ne HO6.out (by decide))); have HO7 := Aside0.mk ho; have HB7 := Aside0.mk hb; clear ho hb hg hat))
              go_roundg k1
              case measure => have := HK1.out; omega
              case rel => exact ⟨(IntKind.u64.wrap (i + 1)), s1, false, out ++ [⟨t0, t1, t2, t3, t4, t5⟩], (by first | rfl | (simp; done) | (simp [*]; done)), H', ⟨by have := HK1.out; omega⟩, HI7, HB7, HO7⟩
            · rw [if_neg c3] at H
              exact absurd H (by simp)
      · rw [if_neg c2] at H
        have c2b0 : decide (i < p1) = false := decide_eq_false c2
        clear c2
        have BK : wr.heap[w.heap.size]? = some (.cells #[.string s, .bool bad] 136 (0, 0)) := HI.out.1
        have hy0 : wr.cell? ⟨w.heap.size, 0, none⟩ = some (.string s) := (blk_cell BK 0).trans rfl
        have hy1 : wr.cell? ⟨w.heap.size, 1, none⟩ = some (.bool bad) := (blk_cell BK 1).trans rfl
        clear BK
        cases bad with
        | true =>
          rw [if_pos rfl] at H
          simp only [Option.some.injEq, Prod.mk.injEq] at H
          obtain ⟨rfl, rfl, rfl⟩ := H
          go_wp2
          go_ret3
          exact ⟨_, rfl, Kd.R_nil _ _ _ _ _, HB.out⟩
        | false =>
          rw [if_neg (by decide)] at H
          simp only [Option.some.injEq, Prod.mk.injEq] at H
          obtain ⟨rfl, rfl, rfl⟩ := H
          go_wp2
          go_quiet (fail)
          go_wp2
          go_ret3
          exact ⟨_, rfl, Kd.R_mono (Kd.R_drewN HO.out _) (fun _ _ => trivial), pw_below_drewN HB.out _⟩
set_option maxHeartbeats 8000000 in
theorem flat_TakeChanges.calls (k : Nat) (a0 : ByteArray) (r1 : List (S42)) (r2 : ByteArray) (r3 : Int) (w : World) (h : flat_TakeChanges.f k a0 = some (r1, r2, r3)) :
    Calls Try.prog 29 #[.string a0] w fun e w' => ∃ v0_ : Value, e = .returned (.tuple #[v0_, .string r2, .int .i64 r3]) ∧ Kd.R k42 42 w' w.heap.size (fun _ => True) v0_ r1 ∧ Below w.heap.size w w' := by
  have HL := Aside0.mk (flat_TakeChanges.take k a0 r1 r2 r3 w h)
  clear h
  go_enter Try.func29, Try.ntmps29
  go_wp2_with (go_at_call 77; (with_reducible refine HL.out.mono ?_); rintro e w5 ⟨v0, rfl, hR, hb⟩)
  go_ret3
  exact ⟨v0, rfl, hR, hb⟩


/-! ### flat_TakeRange: function 30 -/


def flat_TakeRange.f (k : Nat) (a0 : ByteArray) : Option (ByteArray × ByteArray × Bool × ByteArray × Int) :=
  (flat_reader_text.f k a0 false).bind fun p => (flat_reader_text.f k p.2.1 p.2.2).bind fun q => (flat_reader_flag.f k q.2.1 q.2.2).bind fun r =>
    if r.2.2 = true then some ((⟨#[]⟩ : ByteArray), (⟨#[]⟩ : ByteArray), false, (⟨#[]⟩ : ByteArray), 2) else (stretch_Right.f p.1 q.1 r.1).bind fun m => if m = true then some (p.1, q.1, r.1, r.2.1, 0) else some ((⟨#[]⟩ : ByteArray), (⟨#[]⟩ : ByteArray), false, (⟨#[]⟩ : ByteArray), 2)
theorem flat_TakeRange.mono : ∀ a0 k, LeO (flat_TakeRange.f k a0) (flat_TakeRange.f (k + 1) a0) := by
  intro a0 k
  unfold flat_TakeRange.f
  exact LeO.bind (flat_reader_text.mono _ _ _) fun _ => LeO.bind (flat_reader_text.mono _ _ _) fun _ => LeO.bind (flat_reader_flag.mono _ _ _) fun _ => LeO.refl _
set_option maxHeartbeats 8000000 in
set_option maxRecDepth 100000 in
theorem flat_TakeRange.calls (k : Nat) (a0 : ByteArray) (r1 : ByteArray) (r2 : ByteArray) (r3 : Bool) (r4 : ByteArray) (r5 : Int) (w : World) (h : flat_TakeRange.f k a0 = some (r1, r2, r3, r4, r5)) :
    Calls Try.prog 30 #[.string a0] w fun e w' => e = .returned (.tuple #[.agg #[.string r1, .string r2, .bool r3], .string r4, .int .i64 r5]) ∧ Below w.heap.size w w' := by
  have hu1 := Try.underlying26
  have hu2 := Try.underlying136
  unfold flat_TakeRange.f at h
  obtain ⟨⟨p1, p2, p3⟩, A, h⟩ := Option.bind_eq_some_iff.mp h
  simp only at h
  obtain ⟨⟨q1, q2, q3⟩, A1, h⟩ := Option.bind_eq_some_iff.mp h
  simp only at h
  obtain ⟨⟨s1, s2, s3⟩, A2, h⟩ := Option.bind_eq_some_iff.mp h
  simp only at h
  have HA0 := Aside0.mk A
  have HA1 := Aside0.mk A1
  have HA2 := Aside0.mk A2
  have H := Aside0.mk h
  clear A A1 A2 h
  have HB0 := Aside0.mk (show Below w.heap.size w (((w.alloc (.cells #[.string (⟨#[]⟩ : ByteArray), .string (⟨#[]⟩ : ByteArray), .bool false] 26)).alloc (.cells #[.string a0, .bool false] 136)).alloc (.cells #[.string (⟨#[]⟩ : ByteArray), .string (⟨#[]⟩ : ByteArray), .bool false] 26)) from below_alloc (below_alloc (below_alloc (Below.refl _ _) _) _) _)
  have hI0 : IsS136 w (((w.alloc (.cells #[.string (⟨#[]⟩ : ByteArray), .string (⟨#[]⟩ : ByteArray), .bool false] 26)).alloc (.cells #[.string a0, .bool false] 136)).alloc (.cells #[.string (⟨#[]⟩ : ByteArray), .string (⟨#[]⟩ : ByteArray), .bool false] 26)) (w.heap.size + 1) a0 false := by
    have := (IsS136.new w (w.alloc (.cells #[.string (⟨#[]⟩ : ByteArray), .string (⟨#[]⟩ : ByteArray), .bool false] 26)) a0 false (below_alloc (Below.refl _ _) _)).alloc (.cells #[.string (⟨#[]⟩ : ByteArray), .string (⟨#[]⟩ : ByteArray), .bool false] 26)
    simpa using this
  have HI0 := Aside0.mk hI0
  clear hI0
  have HR0 := Aside0.mk (show (((w.alloc (.cells #[.string (⟨#[]⟩ : ByteArray), .string (⟨#[]⟩ : ByteArray), .bool false] 26)).alloc (.cells #[.string a0, .bool false] 136)).alloc (.cells #[.string (⟨#[]⟩ : ByteArray), .string (⟨#[]⟩ : ByteArray), .bool false] 26)).heap[w.heap.size]? = some (.cells #[.string (⟨#[]⟩ : ByteArray), .string (⟨#[]⟩ : ByteArray), .bool false] 26 (0, 0)) from
    ((Below.heap_alloc _ _ _ (by simp; omega)).trans (Below.heap_alloc _ _ _ (by simp))).trans (heap_alloc_new w _))
  have hX0 : (((w.alloc (.cells #[.string (⟨#[]⟩ : ByteArray), .string (⟨#[]⟩ : ByteArray), .bool false] 26)).alloc (.cells #[.string a0, .bool false] 136)).alloc (.cells #[.string (⟨#[]⟩ : ByteArray), .string (⟨#[]⟩ : ByteArray), .bool false] 26)).heap[w.heap.size + 2]? = some (.cells #[.string (⟨#[]⟩ : ByteArray), .string (⟨#[]⟩ : ByteArray), .bool false] 26 (0, 0)) := by
    have := heap_alloc_new ((w.alloc (.cells #[.string (⟨#[]⟩ : ByteArray), .string (⟨#[]⟩ : ByteArray), .bool false] 26)).alloc (.cells #[.string a0, .bool false] 136)) (.cells #[.string (⟨#[]⟩ : ByteArray), .string (⟨#[]⟩ : ByteArray), .bool false] 26)
    simpa using this
  have HX0 := Aside0.mk hX0
  clear hX0
  have Hne0 := Aside0.mk (show w.heap.size ≠ w.heap.size + 1 by omega)
  have Hne1 := Aside0.mk (show w.heap.size + 1 ≠ w.heap.size + 2 by omega)
  have Hne2 := Aside0.mk (show w.heap.size + 2 ≠ w.heap.size + 1 by omega)
  have Hne3 := Aside0.mk (show w.heap.size ≠ w.heap.size + 2 by omega)
  go_enter Try.func30, Try.ntmps30

  go_wp2_with fail
  (with_reducible refine (flat_reader_text.calls k (w.heap.size + 1) a0 false p1 p2 p3 w _ HI0.out HB0.out HA0.out).mono ?_)
  rintro e w1 ⟨rfl, hI, hB, hK⟩
  have br := hK.blk HR0.out Hne0.out (by simp)
  have bx := hK.blk HX0.out Hne2.out (by simp)
  have hx0 := (blk_cell bx 0).trans rfl
  have hx1 := (blk_cell bx 1).trans rfl
  have hx2 := (blk_cell bx 2).trans rfl
  have hz0 := blk_frozen bx 0
  have hz1 := blk_frozen bx 1
  have hz2 := blk_frozen bx 2
  have HI1 := Aside0.mk (hI.far (p := ⟨w.heap.size + 2, 0, none⟩) Hne1.out (.string p1))
  have HB1 := Aside0.mk (Below.setCell (p := ⟨w.heap.size + 2, 0, none⟩) hB (by simp) (.string p1))
  have HR1 := Aside0.mk (blk_far br (p := ⟨w.heap.size + 2, 0, none⟩) Hne3.out (.string p1))
  have HX1 := Aside0.mk (show (w1.setCell ⟨w.heap.size + 2, 0, none⟩ (.string p1)).heap[w.heap.size + 2]? = some (.cells #[.string p1, .string (⟨#[]⟩ : ByteArray), .bool false] 26 (0, 0)) from by simpa using blk_set bx 0 (.string p1))
  clear hI hB hK br bx
  go_wp2_with fail
  (with_reducible refine (flat_reader_text.calls k (w.heap.size + 1) p2 p3 q1 q2 q3 w _ HI1.out HB1.out HA1.out).mono ?_)
  rintro e w2 ⟨rfl, hI, hB, hK⟩
  have br := hK.blk HR1.out Hne0.out (by simp)
  have bx := hK.blk HX1.out Hne2.out (by simp)
  have hx0 := (blk_cell bx 0).trans rfl
  have hx1 := (blk_cell bx 1).trans rfl
  have hx2 := (blk_cell bx 2).trans rfl
  have hz0 := blk_frozen bx 0
  have hz1 := blk_frozen bx 1
  have hz2 := blk_frozen bx 2
  have HI2 := Aside0.mk (hI.far (p := ⟨w.heap.size + 2, 1, none⟩) Hne1.out (.string q1))
  have HB2 := Aside0.mk (Below.setCell (p := ⟨w.heap.size + 2, 1, none⟩) hB (by simp) (.string q1))
  have HR2 := Aside0.mk (blk_far br (p := ⟨w.heap.size + 2, 1, none⟩) Hne3.out (.string q1))
  have HX2 := Aside0.mk (show (w2.setCell ⟨w.heap.size + 2, 1, none⟩ (.string q1)).heap[w.heap.size + 2]? = some (.cells #[.string p1, .string q1, .bool false] 26 (0, 0)) from by simpa using blk_set bx 1 (.string q1))
  clear hI hB hK br bx
  go_wp2_with fail
  (with_reducible refine (flat_reader_flag.calls k (w.heap.size + 1) q2 q3 s1 s2 s3 w _ HI2.out HB2.out HA2.out).mono ?_)
  rintro e w3 ⟨rfl, hI, hB, hK⟩
  have br := hK.blk HR2.out Hne0.out (by simp)
  have bx := hK.blk HX2.out Hne2.out (by simp)
  have hx0 := (blk_cell bx 0).trans rfl
  have hx1 := (blk_cell bx 1).trans rfl
  have hx2 := (blk_cell bx 2).trans rfl
  have hz0 := blk_frozen bx 0
  have hz1 := blk_frozen bx 1
  have hz2 := blk_frozen bx 2
  have HI3 := Aside0.mk (hI.far (p := ⟨w.heap.size + 2, 2, none⟩) Hne1.out (.bool s1))
  have HB3 := Aside0.mk (Below.setCell (p := ⟨w.heap.size + 2, 2, none⟩) hB (by simp) (.bool s1))
  have HR3 := Aside0.mk (blk_far br (p := ⟨w.heap.size + 2, 2, none⟩) Hne3.out (.bool s1))
  have HX3 := Aside0.mk (show (w3.setCell ⟨w.heap.size + 2, 2, none⟩ (.bool s1)).heap[w.heap.size + 2]? = some (.cells #[.string p1, .string q1, .bool s1] 26 (0, 0)) from by simpa using blk_set bx 2 (.bool s1))
  clear hI hB hK br bx
  have h := H.out
  clear H
  have hs := HI3.out.1
  have hy0 := (blk_cell hs 0).trans rfl
  have hy1 := (blk_cell hs 1).trans rfl
  clear hs
  have hx0 := (blk_cell HX3.out 0).trans rfl
  have hx1 := (blk_cell HX3.out 1).trans rfl
  have hx2 := (blk_cell HX3.out 2).trans rfl
  have hr0 := (blk_cell HR3.out 0).trans rfl
  have hr1 := (blk_cell HR3.out 1).trans rfl
  have hr2 := (blk_cell HR3.out 2).trans rfl
  have hg0 := blk_frozen HR3.out 0
  have hg1 := blk_frozen HR3.out 1
  have hg2 := blk_frozen HR3.out 2
  have set3 : ∀ (W : World) (c0 c1 c2 x y z : Value), W.heap[w.heap.size]? = some (.cells #[c0, c1, c2] 26 (0, 0)) →
      (((W.setCell ⟨w.heap.size, 0, none⟩ x).setCell ⟨w.heap.size, 1, none⟩ y).setCell ⟨w.heap.size, 2, none⟩ z).heap[w.heap.size]? = some (.cells #[x, y, z] 26 (0, 0)) := by
    intro W c0 c1 c2 x y z hb
    simpa using blk_set (blk_set (blk_set hb 0 x) 1 y) 2 z
  have Set3 := Aside0.mk set3
  have bel3 : ∀ (W : World) (x y z : Value), Below w.heap.size w W → Below w.heap.size w (((W.setCell ⟨w.heap.size, 0, none⟩ x).setCell ⟨w.heap.size, 1, none⟩ y).setCell ⟨w.heap.size, 2, none⟩ z) :=
    fun W x y z hb => ((hb.setCell (p := ⟨w.heap.size, 0, none⟩) (Nat.le_refl _) _).setCell (p := ⟨w.heap.size, 1, none⟩) (Nat.le_refl _) _).setCell (p := ⟨w.heap.size, 2, none⟩) (Nat.le_refl _) _
  have Bel3 := Aside0.mk bel3
  clear set3 bel3
  cases s3 with
  | true =>
    rw [if_pos rfl] at h
    simp only [Option.some.injEq, Prod.mk.injEq] at h
    obtain ⟨rfl, rfl, rfl, rfl, rfl⟩ := h
    go_wp2
    refine bodyPost_ret (results_ctt rfl _ _ w.heap.size 26 #[.string (⟨#[]⟩ : ByteArray), .string (⟨#[]⟩ : ByteArray), .bool false] (0, 0) _ rfl (Set3.out _ _ _ _ _ _ _ HR3.out) Try.underlying26 rfl (by kernel_rfl)) rfl ?_
    exact ⟨rfl, Bel3.out _ _ _ _ HB3.out⟩
  | false =>
    rw [if_neg (by decide)] at h
    obtain ⟨m, A3, h⟩ := Option.bind_eq_some_iff.mp h
    have HA3 := Aside0.mk A3
    clear A3
    go_wp2_with fail
    (with_reducible refine (stretch_Right.calls p1 q1 s1 m _ HA3.out).mono ?_)
    rintro e w4 ⟨rfl, hb⟩
    have HR4 := Aside0.mk (show w4.heap[w.heap.size]? = some (.cells #[.string (⟨#[]⟩ : ByteArray), .string (⟨#[]⟩ : ByteArray), .bool false] 26 (0, 0)) from (hb.block w.heap.size (by have := HB3.out.size; have := blk_lt HR3.out; simpa using this)).trans HR3.out)
    have HX4 := Aside0.mk (show w4.heap[w.heap.size + 2]? = some (.cells #[.string p1, .string q1, .bool s1] 26 (0, 0)) from (hb.block (w.heap.size + 2) (by have := blk_lt HX3.out; simpa using this)).trans HX3.out)
    have HI4 := Aside0.mk (HI3.out.below hb)
    have HB4 := Aside0.mk (below_step HB3.out hb)
    clear hb hx0 hx1 hx2 hr0 hr1 hr2 hg0 hg1 hg2 hy0 hy1
    have hs := HI4.out.1
    have hy0 := (blk_cell hs 0).trans rfl
    have hy1 := (blk_cell hs 1).trans rfl
    clear hs
    have hx0 := (blk_cell HX4.out 0).trans rfl
    have hx1 := (blk_cell HX4.out 1).trans rfl
    have hx2 := (blk_cell HX4.out 2).trans rfl
    have hr0 := (blk_cell HR4.out 0).trans rfl
    have hr1 := (blk_cell HR4.out 1).trans rfl
    have hr2 := (blk_cell HR4.out 2).trans rfl
    have hg0 := blk_frozen HR4.out 0
    have hg1 := blk_frozen HR4.out 1
    have hg2 := blk_frozen HR4.out 2
    cases m with
    | false =>
      rw [if_neg (by decide)] at h
      simp only [Option.some.injEq, Prod.mk.injEq] at h
      obtain ⟨rfl, rfl, rfl, rfl, rfl⟩ := h
      go_wp2
      refine bodyPost_ret (results_ctt rfl _ _ w.heap.size 26 #[.string (⟨#[]⟩ : ByteArray), .string (⟨#[]⟩ : ByteArray), .bool false] (0, 0) _ rfl (Set3.out _ _ _ _ _ _ _ HR4.out) Try.underlying26 rfl (by kernel_rfl)) rfl ?_
      exact ⟨rfl, Bel3.out _ _ _ _ HB4.out⟩
    | true =>
      rw [if_pos rfl] at h
      simp only [Option.some.injEq, Prod.mk.injEq] at h
      obtain ⟨rfl, rfl, rfl, rfl, rfl⟩ := h
      go_wp2
      go_region
      all_goals go_wp2
      all_goals refine bodyPost_ret (results_ctt rfl _ _ w.heap.size 26 #[.string p1, .string q1, .bool s1] (0, 0) _ rfl (Set3.out _ _ _ _ _ _ _ HR4.out) Try.underlying26 rfl (by kernel_rfl)) rfl ?_
      all_goals exact ⟨rfl, below_drew (Bel3.out _ _ _ _ HB4.out)⟩


end Go.Proofs.Ythidkdlmpkeogaa.F

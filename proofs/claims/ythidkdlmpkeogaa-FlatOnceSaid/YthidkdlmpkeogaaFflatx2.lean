/- Contracts of Go functions of the seat Ythidkdlmpkeogaa: what a call comes to; no condition but those that each theorem names. -/
import Derived.Test.YthidkdlmpkeogaaFPre
import Derived.Test.YthidkdlmpkeogaaFflatx1
import Derived.Test.YthidkdlmpkeogaaFflatx0
import Derived.Test.YthidkdlmpkeogaaFnote
import Derived.Test.YthidkdlmpkeogaaFpack
import Derived.Test.YthidkdlmpkeogaaFstretch
namespace Go.Proofs.Ythidkdlmpkeogaa.F
open Go.RowKit Go.Proofs.YthidkdlmpkeogaaW.PrintWords Go.Proofs.YthidkdlmpkeogaaW.PrintLast Go.Proofs.YthidkdlmpkeogaaW.PrintMore
attribute [local go_sem] max2_int min2_int max_two min_two max_three min_three max_four min_four   -- for this text's walks alone
set_option linter.unusedVariables false
set_option linter.unusedSimpArgs false

/-! ### flat_writer_flag: function 62 -/
def flat_writer_flag.f (k : Nat) (s0_0 : ByteArray) (s0_1 : Bool) (a1 : Bool) : Option (ByteArray × Bool) := if a1 = true then ((flat_writer_num.f k s0_0 s0_1 1 1).bind fun bt159 => (some (bt159.1, bt159.2))) else ((flat_writer_num.f k s0_0 s0_1 0 1).bind fun bt161 => (some (bt161.1, bt161.2)))
theorem flat_writer_flag.mono : ∀ a0 a1 a2 k, LeO (flat_writer_flag.f k a0 a1 a2) (flat_writer_flag.f (k + 1) a0 a1 a2) := by
  intro a0 a1 a2 k
  unfold flat_writer_flag.f
  repeat' first
      | (with_reducible exact flat_writer_num.mono _ _ _ _ _)
      | (with_reducible exact LeO.refl _)
      | (with_reducible exact LeO.none _)
      | (with_reducible refine LeO.ite ?_ ?_)
      | (with_reducible refine LeO.bind ?_ (fun _ => ?_))
      | exact flat_writer_num.mono _ _ _ _ _
      | exact LeO.none _
      | refine LeO.ite ?_ ?_
      | refine LeO.bind ?_ (fun _ => ?_)
set_option maxHeartbeats 8000000 in
set_option maxRecDepth 100000 in
theorem flat_writer_flag.calls (k : Nat) (g : Nat) (s0_0 : ByteArray) (s0_1 : Bool) (a1 : Bool) (r1 : ByteArray) (r2 : Bool) (w0 w : World) (hI : IsS120 w0 w g s0_0 s0_1) (hB : Below w0.heap.size w0 w) (h : flat_writer_flag.f k s0_0 s0_1 a1 = some (r1, r2)) :
    Calls Try.prog 62 #[.pointer (some ⟨g, 0, none⟩), .bool a1] w fun e w' => e = .returned (.tuple #[]) ∧ IsS120 w0 w' g r1 r2 ∧ Below w0.heap.size w0 w' ∧ KeepBut w w' g none := by
  have HI0 := Aside0.mk hI
  have HK := Aside0.mk (KeepBut.refl w g none)
  have HL := Aside0.mk hB.size
  clear hI
  have HW0 := Aside0.mk hB.size
  have HB := Aside0.mk hB
  clear hB
  have H : (if a1 = true then ((flat_writer_num.f k s0_0 s0_1 1 1).bind fun bt159 => (some (bt159.1, bt159.2))) else ((flat_writer_num.f k s0_0 s0_1 0 1).bind fun bt161 => (some (bt161.1, bt161.2)))) = some (r1, r2) := h
  clear h
  by_cases c3 : a1 = true
  · subst c3
    have H1 : ((flat_writer_num.f k s0_0 s0_1 1 1).bind fun bt159 => (some (bt159.1, bt159.2))) = some (r1, r2) := by rw [if_pos rfl] at H; exact H
    clear H
    have H := H1
    clear H1
    replace H := Option.bind_eq_some_iff.mp H
    obtain ⟨⟨t159, t160⟩, A40, H⟩ := H
    replace H : (some (t159, t160)) = some (r1, r2) := H
    have A4 := Aside0.mk A40
    clear A40
    simp only [Option.some.injEq, Prod.mk.injEq] at H
    obtain ⟨rfl, rfl⟩ := H
    go_enter Try.func62, Try.ntmps62
    go_wp2_with (first | ((with_reducible refine gate_callee (f := 55) rfl ?_); refine goesL_ (some 8) rfl rfl Try.func55 (by kernel_rfl) rfl #[.pointer (some ⟨g, 0, none⟩), .int .u64 1, .int .i64 1] rfl (by (try simp only [List.map_toArray, List.map_cons, List.map_nil]); first | done | rfl | (simp only [List.length_drop, List.length_take]; rfl)) ?_; (with_reducible refine (flat_writer_num.calls k g s0_0 s0_1 1 1 t159 t160 w0 _ ?side1 ?side2 A4.out).mono ?_); (case side1 => repeat (first | (with_reducible first | exact HI0.out | apply IsS120.alloc | apply IsS120.drewN | apply IsS120.drew | apply IsS120.set_0 | apply IsS120.set_1) | exact HI0.out)); (case side2 => repeat (first | (with_reducible first | exact HB.out | apply below_alloc | apply pw_below_drewN | apply below_drew1 | refine below_set ?_ (IsS120.ge HI0.out)) | exact HB.out)); rintro e w5 ⟨rfl, hi, hb, hk⟩; refine ⟨_, rfl, ?_⟩; have n0_ := Aside0.mk (KeepBut.trans (by repeat (first | (with_reducible first | exact HK.out | apply KeepBut.set_ | apply keep_drewN | apply keep_drew | apply keep_alloc) | exact HK.out)) hk (.inl rfl)); have n1_ := Aside0.mk (hb); have n2_ := Aside0.mk (hi); clear HK; clear HB; clear HI0; have HK := n0_; have HB := n1_; have HI0 := n2_; clear n0_ n1_ n2_; (try clear hb); (try clear hb2); (try clear hk); (try clear hi)))
    first | go_end0 | ((try simp only [Exit.inBlock, Exit.then]); refine bodyPost_ret (results_none rfl _ _ _) rfl ?_)
    exact ⟨by first | rfl | (simp [errW_none, errW_some] <;> rfl) | (simp [*, errW_none, errW_some] <;> rfl), by repeat (first | (with_reducible first | exact HI0.out | apply IsS120.alloc | apply IsS120.drewN | apply IsS120.drew | apply IsS120.set_0 | apply IsS120.set_1) | exact HI0.out), by repeat (first | (with_reducible first | exact HB.out | apply below_alloc | apply pw_below_drewN | apply below_drew1 | refine below_set ?_ (IsS120.ge HI0.out)) | exact HB.out), by repeat (first | (with_reducible first | exact HK.out | apply KeepBut.set_ | apply keep_drewN | apply keep_drew | apply keep_alloc) | exact HK.out)⟩
  · replace c3 := Bool.eq_false_iff.mpr c3
    subst c3
    have H1 : ((flat_writer_num.f k s0_0 s0_1 0 1).bind fun bt161 => (some (bt161.1, bt161.2))) = some (r1, r2) := by rw [if_neg (show ¬ (false = true) by decide)] at H; exact H
    clear H
    have H := H1
    clear H1
    replace H := Option.bind_eq_some_iff.mp H
    obtain ⟨⟨t161, t162⟩, A60, H⟩ := H
    replace H : (some (t161, t162)) = some (r1, r2) := H
    have A6 := Aside0.mk A60
    clear A60
    simp only [Option.some.injEq, Prod.mk.injEq] at H
    obtain ⟨rfl, rfl⟩ := H
    go_enter Try.func62, Try.ntmps62
    go_wp2_with (first | ((with_reducible refine gate_callee (f := 55) rfl ?_); refine goesL_ (some 8) rfl rfl Try.func55 (by kernel_rfl) rfl #[.pointer (some ⟨g, 0, none⟩), .int .u64 0, .int .i64 1] rfl (by (try simp only [List.map_toArray, List.map_cons, List.map_nil]); first | done | rfl | (simp only [List.length_drop, List.length_take]; rfl)) ?_; (with_reducible refine (flat_writer_num.calls k g s0_0 s0_1 0 1 t161 t162 w0 _ ?side1 ?side2 A6.out).mono ?_); (case side1 => repeat (first | (with_reducible first | exact HI0.out | apply IsS120.alloc | apply IsS120.drewN | apply IsS120.drew | apply IsS120.set_0 | apply IsS120.set_1) | exact HI0.out)); (case side2 => repeat (first | (with_reducible first | exact HB.out | apply below_alloc | apply pw_below_drewN | apply below_drew1 | refine below_set ?_ (IsS120.ge HI0.out)) | exact HB.out)); rintro e w7 ⟨rfl, hi, hb, hk⟩; refine ⟨_, rfl, ?_⟩; have n0_ := Aside0.mk (KeepBut.trans (by repeat (first | (with_reducible first | exact HK.out | apply KeepBut.set_ | apply keep_drewN | apply keep_drew | apply keep_alloc) | exact HK.out)) hk (.inl rfl)); have n1_ := Aside0.mk (hb); have n2_ := Aside0.mk (hi); clear HK; clear HB; clear HI0; have HK := n0_; have HB := n1_; have HI0 := n2_; clear n0_ n1_ n2_; (try clear hb); (try clear hb2); (try clear hk); (try clear hi)))
    first | go_end0 | ((try simp only [Exit.inBlock, Exit.then]); refine bodyPost_ret (results_none rfl _ _ _) rfl ?_)
    exact ⟨by first | rfl | (simp [errW_none, errW_some] <;> rfl) | (simp [*, errW_none, errW_some] <;> rfl), by repeat (first | (with_reducible first | exact HI0.out | apply IsS120.alloc | apply IsS120.drewN | apply IsS120.drew | apply IsS120.set_0 | apply IsS120.set_1) | exact HI0.out), by repeat (first | (with_reducible first | exact HB.out | apply below_alloc | apply pw_below_drewN | apply below_drew1 | refine below_set ?_ (IsS120.ge HI0.out)) | exact HB.out), by repeat (first | (with_reducible first | exact HK.out | apply KeepBut.set_ | apply keep_drewN | apply keep_drew | apply keep_alloc) | exact HK.out)⟩

/-! ### flat_Changes_1: function 61 -/
def flat_Changes_1.f (k : Nat) (s0_0 : ByteArray) (s0_1 : Bool) (a1_0 : Int) (a1_1 : ByteArray) (a1_2 : Bool) (a1_3 : ByteArray) (a1_4 : Bool) (a1_5 : ByteArray) : Option (ByteArray × Bool) := (flat_writer_num.f k s0_0 s0_1 (IntKind.u64.wrap (a1_0)) 4).bind fun bt164 => ((flat_writer_text.f k bt164.1 bt164.2 a1_1).bind fun bt166 => ((flat_writer_flag.f k bt166.1 bt166.2 a1_2).bind fun bt168 => ((flat_writer_text.f k bt168.1 bt168.2 a1_3).bind fun bt170 => ((flat_writer_flag.f k bt170.1 bt170.2 a1_4).bind fun bt172 => ((flat_writer_text.f k bt172.1 bt172.2 a1_5).bind fun bt174 => (some (bt174.1, bt174.2)))))))
theorem flat_Changes_1.mono : ∀ a0 a1 a2 a3 a4 a5 a6 a7 k, LeO (flat_Changes_1.f k a0 a1 a2 a3 a4 a5 a6 a7) (flat_Changes_1.f (k + 1) a0 a1 a2 a3 a4 a5 a6 a7) := by
  intro a0 a1 a2 a3 a4 a5 a6 a7 k
  unfold flat_Changes_1.f
  repeat' first
      | (with_reducible exact flat_writer_flag.mono _ _ _ _)
      | (with_reducible exact flat_writer_num.mono _ _ _ _ _)
      | (with_reducible exact flat_writer_text.mono _ _ _ _)
      | (with_reducible exact LeO.refl _)
      | (with_reducible exact LeO.none _)
      | (with_reducible refine LeO.ite ?_ ?_)
      | (with_reducible refine LeO.bind ?_ (fun _ => ?_))
      | exact flat_writer_flag.mono _ _ _ _
      | exact flat_writer_num.mono _ _ _ _ _
      | exact flat_writer_text.mono _ _ _ _
      | exact LeO.none _
      | refine LeO.ite ?_ ?_
      | refine LeO.bind ?_ (fun _ => ?_)
set_option maxHeartbeats 8000000 in
set_option maxRecDepth 100000 in
theorem flat_Changes_1.calls (k : Nat) (g : Nat) (s0_0 : ByteArray) (s0_1 : Bool) (a1_0 : Int) (a1_1 : ByteArray) (a1_2 : Bool) (a1_3 : ByteArray) (a1_4 : Bool) (a1_5 : ByteArray) (r1 : ByteArray) (r2 : Bool) (w0 w : World) (hI : IsS120 w0 w g s0_0 s0_1) (hB : Below w0.heap.size w0 w) (h : flat_Changes_1.f k s0_0 s0_1 a1_0 a1_1 a1_2 a1_3 a1_4 a1_5 = some (r1, r2)) :
    Calls Try.prog 61 #[.pointer (some ⟨g, 0, none⟩), .agg #[.int .i64 a1_0, .string a1_1, .bool a1_2, .string a1_3, .bool a1_4, .string a1_5]] w fun e w' => e = .returned (.tuple #[]) ∧ IsS120 w0 w' g r1 r2 ∧ Below w0.heap.size w0 w' ∧ KeepBut w w' g none := by
  have hu42 := Try.underlying42
  have HI0 := Aside0.mk hI
  have HK := Aside0.mk (KeepBut.refl w g none)
  have HL := Aside0.mk hB.size
  clear hI
  have HW0 := Aside0.mk hB.size
  have HB := Aside0.mk hB
  clear hB
  have H : ((flat_writer_num.f k s0_0 s0_1 (IntKind.u64.wrap (a1_0)) 4).bind fun bt164 => ((flat_writer_text.f k bt164.1 bt164.2 a1_1).bind fun bt166 => ((flat_writer_flag.f k bt166.1 bt166.2 a1_2).bind fun bt168 => ((flat_writer_text.f k bt168.1 bt168.2 a1_3).bind fun bt170 => ((flat_writer_flag.f k bt170.1 bt170.2 a1_4).bind fun bt172 => ((flat_writer_text.f k bt172.1 bt172.2 a1_5).bind fun bt174 => (some (bt174.1, bt174.2)))))))) = some (r1, r2) := h
  clear h
  replace H := Option.bind_eq_some_iff.mp H
  obtain ⟨⟨t164, t165⟩, A30, H⟩ := H
  replace H : ((flat_writer_text.f k t164 t165 a1_1).bind fun bt166 => ((flat_writer_flag.f k bt166.1 bt166.2 a1_2).bind fun bt168 => ((flat_writer_text.f k bt168.1 bt168.2 a1_3).bind fun bt170 => ((flat_writer_flag.f k bt170.1 bt170.2 a1_4).bind fun bt172 => ((flat_writer_text.f k bt172.1 bt172.2 a1_5).bind fun bt174 => (some (bt174.1, bt174.2))))))) = some (r1, r2) := H
  have A3 := Aside0.mk A30
  clear A30
  replace H := Option.bind_eq_some_iff.mp H
  obtain ⟨⟨t166, t167⟩, A40, H⟩ := H
  replace H : ((flat_writer_flag.f k t166 t167 a1_2).bind fun bt168 => ((flat_writer_text.f k bt168.1 bt168.2 a1_3).bind fun bt170 => ((flat_writer_flag.f k bt170.1 bt170.2 a1_4).bind fun bt172 => ((flat_writer_text.f k bt172.1 bt172.2 a1_5).bind fun bt174 => (some (bt174.1, bt174.2)))))) = some (r1, r2) := H
  have A4 := Aside0.mk A40
  clear A40
  replace H := Option.bind_eq_some_iff.mp H
  obtain ⟨⟨t168, t169⟩, A50, H⟩ := H
  replace H : ((flat_writer_text.f k t168 t169 a1_3).bind fun bt170 => ((flat_writer_flag.f k bt170.1 bt170.2 a1_4).bind fun bt172 => ((flat_writer_text.f k bt172.1 bt172.2 a1_5).bind fun bt174 => (some (bt174.1, bt174.2))))) = some (r1, r2) := H
  have A5 := Aside0.mk A50
  clear A50
  replace H := Option.bind_eq_some_iff.mp H
  obtain ⟨⟨t170, t171⟩, A60, H⟩ := H
  replace H : ((flat_writer_flag.f k t170 t171 a1_4).bind fun bt172 => ((flat_writer_text.f k bt172.1 bt172.2 a1_5).bind fun bt174 => (some (bt174.1, bt174.2)))) = some (r1, r2) := H
  have A6 := Aside0.mk A60
  clear A60
  replace H := Option.bind_eq_some_iff.mp H
  obtain ⟨⟨t172, t173⟩, A70, H⟩ := H
  replace H : ((flat_writer_text.f k t172 t173 a1_5).bind fun bt174 => (some (bt174.1, bt174.2))) = some (r1, r2) := H
  have A7 := Aside0.mk A70
  clear A70
  replace H := Option.bind_eq_some_iff.mp H
  obtain ⟨⟨t174, t175⟩, A80, H⟩ := H
  replace H : (some (t174, t175)) = some (r1, r2) := H
  have A8 := Aside0.mk A80
  clear A80
  simp only [Option.some.injEq, Prod.mk.injEq] at H
  obtain ⟨rfl, rfl⟩ := H
  go_enter Try.func61, Try.ntmps61
  go_wp2_with (first | ((with_reducible refine gate_dst (N := 3) rfl ?_); refine box_event ?hg (N := 3) ?hd (cs := #[.int .i64 a1_0, .string a1_1, .bool a1_2, .string a1_3, .bool a1_4, .string a1_5]) (t := 42) ?hr ?_; (case hd => rfl); (case hg => rfl); (case hr => first | (go_simp; done) | (go_simp; rfl)); intro gb163 hg w9 hbox hb; have n0_ := Aside0.mk (IsS120.below (by repeat (first | (with_reducible first | exact HI0.out | apply IsS120.alloc | apply IsS120.drewN | apply IsS120.drew | apply IsS120.set_0 | apply IsS120.set_1) | exact HI0.out)) hb); have n1_ := Aside0.mk (KeepBut.trans (by repeat (first | (with_reducible first | exact HK.out | apply KeepBut.set_ | apply keep_drewN | apply keep_drew | apply keep_alloc) | exact HK.out)) (KeepBut.of_below hb g none) (.inl rfl)); have n2_ := Aside0.mk (below_step (by repeat (first | (with_reducible first | exact HB.out | apply below_alloc | apply pw_below_drewN | apply below_drew1 | refine below_set ?_ (IsS120.ge HI0.out)) | exact HB.out)) hb); have n3_ := Aside0.mk (hbox); have n4_ := Aside0.mk ((by rw [hg]; exact (keep_size (w := w) (g := g) (row := none) (by repeat (first | (with_reducible first | exact HK.out | apply KeepBut.set_ | apply keep_drewN | apply keep_drew | apply keep_alloc) | exact HK.out))) : w.heap.size ≤ gb163)); have n5_ := Aside0.mk ((Nat.le_trans HW0.out (by rw [hg]; exact (keep_size (w := w) (g := g) (row := none) (by repeat (first | (with_reducible first | exact HK.out | apply KeepBut.set_ | apply keep_drewN | apply keep_drew | apply keep_alloc) | exact HK.out))) : w.heap.size ≤ gb163) : w0.heap.size ≤ gb163)); have n6_ := Aside0.mk ((by rw [hg]; exact Nat.ne_of_lt (IsS120.lt (show IsS120 w0 _ g s0_0 s0_1 from by repeat (first | (with_reducible first | exact HI0.out | apply IsS120.alloc | apply IsS120.drewN | apply IsS120.drew | apply IsS120.set_0 | apply IsS120.set_1) | exact HI0.out))) : g ≠ gb163)); have n7_ := Aside0.mk ((by rw [hg]; exact Nat.ne_of_gt (IsS120.lt (show IsS120 w0 _ g s0_0 s0_1 from by repeat (first | (with_reducible first | exact HI0.out | apply IsS120.alloc | apply IsS120.drewN | apply IsS120.drew | apply IsS120.set_0 | apply IsS120.set_1) | exact HI0.out))) : gb163 ≠ g)); clear HI0; clear HK; clear HB; have HI0 := n0_; have HK := n1_; have HB := n2_; have BK163 := n3_; have GW163 := n4_; have GE163 := n5_; have NB0_163 := n6_; have NB163_0 := n7_; clear n0_ n1_ n2_ n3_ n4_ n5_ n6_ n7_; clear hb hbox hg; have hnb10 := NB163_0.out; have hnc10 := NB0_163.out; have hcz11_0 : w9.cell? ⟨gb163, 0, none⟩ = some (.int .i64 a1_0) := (blk_cell BK163.out 0).trans rfl; have hcz11_1 : w9.cell? ⟨gb163, 1, none⟩ = some (.string a1_1) := (blk_cell BK163.out 1).trans rfl; have hcz11_2 : w9.cell? ⟨gb163, 2, none⟩ = some (.bool a1_2) := (blk_cell BK163.out 2).trans rfl; have hcz11_3 : w9.cell? ⟨gb163, 3, none⟩ = some (.string a1_3) := (blk_cell BK163.out 3).trans rfl; have hcz11_4 : w9.cell? ⟨gb163, 4, none⟩ = some (.bool a1_4) := (blk_cell BK163.out 4).trans rfl; have hcz11_5 : w9.cell? ⟨gb163, 5, none⟩ = some (.string a1_5) := (blk_cell BK163.out 5).trans rfl; have hfz11_0 := blk_frozen BK163.out 0; have hfz11_1 := blk_frozen BK163.out 1; have hfz11_2 := blk_frozen BK163.out 2; have hfz11_3 := blk_frozen BK163.out 3; have hfz11_4 := blk_frozen BK163.out 4; have hfz11_5 := blk_frozen BK163.out 5) | ((with_reducible refine gate_callee (f := 55) rfl ?_); refine goesL_ (some 8) rfl rfl Try.func55 (by kernel_rfl) rfl #[.pointer (some ⟨g, 0, none⟩), .int .u64 (IntKind.u64.wrap (a1_0)), .int .i64 4] rfl (by (try simp only [List.map_toArray, List.map_cons, List.map_nil]); first | done | rfl | (simp only [List.length_drop, List.length_take]; rfl)) ?_; (with_reducible refine (flat_writer_num.calls k g s0_0 s0_1 (IntKind.u64.wrap (a1_0)) 4 t164 t165 w0 _ ?side1 ?side2 A3.out).mono ?_); (case side1 => repeat (first | (with_reducible first | exact HI0.out | apply IsS120.alloc | apply IsS120.drewN | apply IsS120.drew | apply IsS120.set_0 | apply IsS120.set_1 | refine IsS120.far ?_ NB0_163.out _) | exact HI0.out)); (case side2 => repeat (first | (with_reducible first | exact HB.out | apply below_alloc | apply pw_below_drewN | apply below_drew1 | refine below_set ?_ (IsS120.ge HI0.out) | refine below_set ?_ GE163.out) | exact HB.out)); rintro e w12 ⟨rfl, hi, hb, hk⟩; refine ⟨_, rfl, ?_⟩; have n0_ := Aside0.mk (KeepBut.blk hk (g' := gb163) (o := .cells #[.int .i64 a1_0, .string a1_1, .bool a1_2, .string a1_3, .bool a1_4, .string a1_5] 42 (0, 0)) (by (with_reducible repeat (first | refine blk_drewN ?_ _ | refine blk_drew ?_ | refine blk_alloc ?_ _)); exact BK163.out) NB163_0.out (by simp)); have n1_ := Aside0.mk (KeepBut.trans (by repeat (first | (with_reducible first | exact HK.out | apply KeepBut.set_ | apply keep_drewN | apply keep_drew | apply keep_alloc | refine keep_far ?_ GW163.out _) | exact HK.out)) hk (.inl rfl)); have n2_ := Aside0.mk (hb); have n3_ := Aside0.mk (hi); clear BK163; clear HK; clear HB; clear HI0; have BK163 := n0_; have HK := n1_; have HB := n2_; have HI0 := n3_; clear n0_ n1_ n2_ n3_; (try clear hb); (try clear hb2); (try clear hk); (try clear hi); have hcz13_0 : w12.cell? ⟨gb163, 0, none⟩ = some (.int .i64 a1_0) := (blk_cell BK163.out 0).trans rfl; have hcz13_1 : w12.cell? ⟨gb163, 1, none⟩ = some (.string a1_1) := (blk_cell BK163.out 1).trans rfl; have hcz13_2 : w12.cell? ⟨gb163, 2, none⟩ = some (.bool a1_2) := (blk_cell BK163.out 2).trans rfl; have hcz13_3 : w12.cell? ⟨gb163, 3, none⟩ = some (.string a1_3) := (blk_cell BK163.out 3).trans rfl; have hcz13_4 : w12.cell? ⟨gb163, 4, none⟩ = some (.bool a1_4) := (blk_cell BK163.out 4).trans rfl; have hcz13_5 : w12.cell? ⟨gb163, 5, none⟩ = some (.string a1_5) := (blk_cell BK163.out 5).trans rfl; have hfz13_0 := blk_frozen BK163.out 0; have hfz13_1 := blk_frozen BK163.out 1; have hfz13_2 := blk_frozen BK163.out 2; have hfz13_3 := blk_frozen BK163.out 3; have hfz13_4 := blk_frozen BK163.out 4; have hfz13_5 := blk_frozen BK163.out 5) | ((with_reducible refine gate_callee (f := 56) rfl ?_); refine goesL_ (some 12) rfl rfl Try.func56 (by kernel_rfl) rfl #[.pointer (some ⟨g, 0, none⟩), .string a1_1] rfl (by (try simp only [List.map_toArray, List.map_cons, List.map_nil]); first | done | rfl | (simp only [List.length_drop, List.length_take]; rfl)) ?_; (with_reducible refine (flat_writer_text.calls k g t164 t165 a1_1 t166 t167 w0 _ ?side1 ?side2 A4.out).mono ?_); (case side1 => repeat (first | (with_reducible first | exact HI0.out | apply IsS120.alloc | apply IsS120.drewN | apply IsS120.drew | apply IsS120.set_0 | apply IsS120.set_1 | refine IsS120.far ?_ NB0_163.out _) | exact HI0.out)); (case side2 => repeat (first | (with_reducible first | exact HB.out | apply below_alloc | apply pw_below_drewN | apply below_drew1 | refine below_set ?_ (IsS120.ge HI0.out) | refine below_set ?_ GE163.out) | exact HB.out)); rintro e w14 ⟨rfl, hi, hb, hk⟩; refine ⟨_, rfl, ?_⟩; have n0_ := Aside0.mk (KeepBut.blk hk (g' := gb163) (o := .cells #[.int .i64 a1_0, .string a1_1, .bool a1_2, .string a1_3, .bool a1_4, .string a1_5] 42 (0, 0)) (by (with_reducible repeat (first | refine blk_drewN ?_ _ | refine blk_drew ?_ | refine blk_alloc ?_ _)); exact BK163.out) NB163_0.out (by simp)); have n1_ := Aside0.mk (KeepBut.trans (by repeat (first | (with_reducible first | exact HK.out | apply KeepBut.set_ | apply keep_drewN | apply keep_drew | apply keep_alloc | refine keep_far ?_ GW163.out _) | exact HK.out)) hk (.inl rfl)); have n2_ := Aside0.mk (hb); have n3_ := Aside0.mk (hi); clear BK163; clear HK; clear HB; clear HI0; have BK163 := n0_; have HK := n1_; have HB := n2_; have HI0 := n3_; clear n0_ n1_ n2_ n3_; (try clear hb); (try clear hb2); (try clear hk); (try clear hi); have hcz15_0 : w14.cell? ⟨gb163, 0, none⟩ = some (.int .i64 a1_0) := (blk_cell BK163.out 0).trans rfl; have hcz15_1 : w14.cell? ⟨gb163, 1, none⟩ = some (.string a1_1) := (blk_cell BK163.out 1).trans rfl; have hcz15_2 : w14.cell? ⟨gb163, 2, none⟩ = some (.bool a1_2) := (blk_cell BK163.out 2).trans rfl; have hcz15_3 : w14.cell? ⟨gb163, 3, none⟩ = some (.string a1_3) := (blk_cell BK163.out 3).trans rfl; have hcz15_4 : w14.cell? ⟨gb163, 4, none⟩ = some (.bool a1_4) := (blk_cell BK163.out 4).trans rfl; have hcz15_5 : w14.cell? ⟨gb163, 5, none⟩ = some (.string a1_5) := (blk_cell BK163.out 5).trans rfl; have hfz15_0 := blk_frozen BK163.out 0; have hfz15_1 := blk_frozen BK163.out 1; have hfz15_2 := blk_frozen BK163.out 2; have hfz15_3 := blk_frozen BK163.out 3; have hfz15_4 := blk_frozen BK163.out 4; have hfz15_5 := blk_frozen BK163.out 5) | ((with_reducible refine gate_callee (f := 62) rfl ?_); refine goesL_ (some 16) rfl rfl Try.func62 (by kernel_rfl) rfl #[.pointer (some ⟨g, 0, none⟩), .bool a1_2] rfl (by (try simp only [List.map_toArray, List.map_cons, List.map_nil]); first | done | rfl | (simp only [List.length_drop, List.length_take]; rfl)) ?_; (with_reducible refine (flat_writer_flag.calls k g t166 t167 a1_2 t168 t169 w0 _ ?side1 ?side2 A5.out).mono ?_); (case side1 => repeat (first | (with_reducible first | exact HI0.out | apply IsS120.alloc | apply IsS120.drewN | apply IsS120.drew | apply IsS120.set_0 | apply IsS120.set_1 | refine IsS120.far ?_ NB0_163.out _) | exact HI0.out)); (case side2 => repeat (first | (with_reducible first | exact HB.out | apply below_alloc | apply pw_below_drewN | apply below_drew1 | refine below_set ?_ (IsS120.ge HI0.out) | refine below_set ?_ GE163.out) | exact HB.out)); rintro e w16 ⟨rfl, hi, hb, hk⟩; refine ⟨_, rfl, ?_⟩; have n0_ := Aside0.mk (KeepBut.blk hk (g' := gb163) (o := .cells #[.int .i64 a1_0, .string a1_1, .bool a1_2, .string a1_3, .bool a1_4, .string a1_5] 42 (0, 0)) (by (with_reducible repeat (first | refine blk_drewN ?_ _ | refine blk_drew ?_ | refine blk_alloc ?_ _)); exact BK163.out) NB163_0.out (by simp)); have n1_ := Aside0.mk (KeepBut.trans (by repeat (first | (with_reducible first | exact HK.out | apply KeepBut.set_ | apply keep_drewN | apply keep_drew | apply keep_alloc | refine keep_far ?_ GW163.out _) | exact HK.out)) hk (.inl rfl)); have n2_ := Aside0.mk (hb); have n3_ := Aside0.mk (hi); clear BK163; clear HK; clear HB; clear HI0; have BK163 := n0_; have HK := n1_; have HB := n2_; have HI0 := n3_; clear n0_ n1_ n2_ n3_; (try clear hb); (try clear hb2); (try clear hk); (try clear hi); have hcz17_0 : w16.cell? ⟨gb163, 0, none⟩ = some (.int .i64 a1_0) := (blk_cell BK163.out 0).trans rfl; have hcz17_1 : w16.cell? ⟨gb163, 1, none⟩ = some (.string a1_1) := (blk_cell BK163.out 1).trans rfl; have hcz17_2 : w16.cell? ⟨gb163, 2, none⟩ = some (.bool a1_2) := (blk_cell BK163.out 2).trans rfl; have hcz17_3 : w16.cell? ⟨gb163, 3, none⟩ = some (.string a1_3) := (blk_cell BK163.out 3).trans rfl; have hcz17_4 : w16.cell? ⟨gb163, 4, none⟩ = some (.bool a1_4) := (blk_cell BK163.out 4).trans rfl; have hcz17_5 : w16.cell? ⟨gb163, 5, none⟩ = some (.string a1_5) := (blk_cell BK163.out 5).trans rfl; have hfz17_0 := blk_frozen BK163.out 0; have hfz17_1 := blk_frozen BK163.out 1; have hfz17_2 := blk_frozen BK163.out 2; have hfz17_3 := blk_frozen BK163.out 3; have hfz17_4 := blk_frozen BK163.out 4; have hfz17_5 := blk_frozen BK163.out 5) | ((with_reducible refine gate_callee (f := 56) rfl ?_); refine goesL_ (some 20) rfl rfl Try.func56 (by kernel_rfl) rfl #[.pointer (some ⟨g, 0, none⟩), .string a1_3] rfl (by (try simp only [List.map_toArray, List.map_cons, List.map_nil]); first | done | rfl | (simp only [List.length_drop, List.length_take]; rfl)) ?_; (with_reducible refine (flat_writer_text.calls k g t168 t169 a1_3 t170 t171 w0 _ ?side1 ?side2 A6.out).mono ?_); (case side1 => repeat (first | (with_reducible first | exact HI0.out | apply IsS120.alloc | apply IsS120.drewN | apply IsS120.drew | apply IsS120.set_0 | apply IsS120.set_1 | refine IsS120.far ?_ NB0_163.out _) | exact HI0.out)); (case side2 => repeat (first | (with_reducible first | exact HB.out | apply below_alloc | apply pw_below_drewN | apply below_drew1 | refine below_set ?_ (IsS120.ge HI0.out) | refine below_set ?_ GE163.out) | exact HB.out)); rintro e w18 ⟨rfl, hi, hb, hk⟩; refine ⟨_, rfl, ?_⟩; have n0_ := Aside0.mk (KeepBut.blk hk (g' := gb163) (o := .cells #[.int .i64 a1_0, .string a1_1, .bool a1_2, .string a1_3, .bool a1_4, .string a1_5] 42 (0, 0)) (by (with_reducible repeat (first | refine blk_drewN ?_ _ | refine blk_drew ?_ | refine blk_alloc ?_ _)); exact BK163.out) NB163_0.out (by simp)); have n1_ := Aside0.mk (KeepBut.trans (by repeat (first | (with_reducible first | exact HK.out | apply KeepBut.set_ | apply keep_drewN | apply keep_drew | apply keep_alloc | refine keep_far ?_ GW163.out _) | exact HK.out)) hk (.inl rfl)); have n2_ := Aside0.mk (hb); have n3_ := Aside0.mk (hi); clear BK163; clear HK; clear HB; clear HI0; have BK163 := n0_; have HK := n1_; have HB := n2_; have HI0 := n3_; clear n0_ n1_ n2_ n3_; (try clear hb); (try clear hb2); (try clear hk); (try clear hi); have hcz19_0 : w18.cell? ⟨gb163, 0, none⟩ = some (.int .i64 a1_0) := (blk_cell BK163.out 0).trans rfl; have hcz19_1 : w18.cell? ⟨gb163, 1, none⟩ = some (.string a1_1) := (blk_cell BK163.out 1).trans rfl; have hcz19_2 : w18.cell? ⟨gb163, 2, none⟩ = some (.bool a1_2) := (blk_cell BK163.out 2).trans rfl; have hcz19_3 : w18.cell? ⟨gb163, 3, none⟩ = some (.string a1_3) := (blk_cell BK163.out 3).trans rfl; have hcz19_4 : w18.cell? ⟨gb163, 4, none⟩ = some (.bool a1_4) := (blk_cell BK163.out 4).trans rfl; have hcz19_5 : w18.cell? ⟨gb163, 5, none⟩ = some (.string a1_5) := (blk_cell BK163.out 5).trans rfl; have hfz19_0 := blk_frozen BK163.out 0; have hfz19_1 := blk_frozen BK163.out 1; have hfz19_2 := blk_frozen BK163.out 2; have hfz19_3 := blk_frozen BK163.out 3; have hfz19_4 := blk_frozen BK163.out 4; have hfz19_5 := blk_frozen BK163.out 5) | ((with_reducible refine gate_callee (f := 62) rfl ?_); refine goesL_ (some 24) rfl rfl Try.func62 (by kernel_rfl) rfl #[.pointer (some ⟨g, 0, none⟩), .bool a1_4] rfl (by (try simp only [List.map_toArray, List.map_cons, List.map_nil]); first | done | rfl | (simp only [List.length_drop, List.length_take]; rfl)) ?_; (with_reducible refine (flat_writer_flag.calls k g t170 t171 a1_4 t172 t173 w0 _ ?side1 ?side2 A7.out).mono ?_); (case side1 => repeat (first | (with_reducible first | exact HI0.out | apply IsS120.alloc | apply IsS120.drewN | apply IsS120.drew | apply IsS120.set_0 | apply IsS120.set_1 | refine IsS120.far ?_ NB0_163.out _) | exact HI0.out)); (case side2 => repeat (first | (with_reducible first | exact HB.out | apply below_alloc | apply pw_below_drewN | apply below_drew1 | refine below_set ?_ (IsS120.ge HI0.out) | refine below_set ?_ GE163.out) | exact HB.out)); rintro e w20 ⟨rfl, hi, hb, hk⟩; refine ⟨_, rfl, ?_⟩; have n0_ := Aside0.mk (KeepBut.blk hk (g' := gb163) (o := .cells #[.int .i64 a1_0, .string a1_1, .bool a1_2, .string a1_3, .bool a1_4, .string a1_5] 42 (0, 0)) (by (with_reducible repeat (first | refine blk_drewN ?_ _ | refine blk_drew ?_ | refine blk_alloc ?_ _)); exact BK163.out) NB163_0.out (by simp)); have n1_ := Aside0.mk (KeepBut.trans (by repeat (first | (with_reducible first | exact HK.out | apply KeepBut.set_ | apply keep_drewN | apply keep_drew | apply keep_alloc | refine keep_far ?_ GW163.out _) | exact HK.out)) hk (.inl rfl)); have n2_ := Aside0.mk (hb); have n3_ := Aside0.mk (hi); clear BK163; clear HK; clear HB; clear HI0; have BK163 := n0_; have HK := n1_; have HB := n2_; have HI0 := n3_; clear n0_ n1_ n2_ n3_; (try clear hb); (try clear hb2); (try clear hk); (try clear hi); have hcz21_0 : w20.cell? ⟨gb163, 0, none⟩ = some (.int .i64 a1_0) := (blk_cell BK163.out 0).trans rfl; have hcz21_1 : w20.cell? ⟨gb163, 1, none⟩ = some (.string a1_1) := (blk_cell BK163.out 1).trans rfl; have hcz21_2 : w20.cell? ⟨gb163, 2, none⟩ = some (.bool a1_2) := (blk_cell BK163.out 2).trans rfl; have hcz21_3 : w20.cell? ⟨gb163, 3, none⟩ = some (.string a1_3) := (blk_cell BK163.out 3).trans rfl; have hcz21_4 : w20.cell? ⟨gb163, 4, none⟩ = some (.bool a1_4) := (blk_cell BK163.out 4).trans rfl; have hcz21_5 : w20.cell? ⟨gb163, 5, none⟩ = some (.string a1_5) := (blk_cell BK163.out 5).trans rfl; have hfz21_0 := blk_frozen BK163.out 0; have hfz21_1 := blk_frozen BK163.out 1; have hfz21_2 := blk_frozen BK163.out 2; have hfz21_3 := blk_frozen BK163.out 3; have hfz21_4 := blk_frozen BK163.out 4; have hfz21_5 := blk_frozen BK163.out 5) | ((with_reducible refine gate_callee (f := 56) rfl ?_); refine goesL_ (some 28) rfl rfl Try.func56 (by kernel_rfl) rfl #[.pointer (some ⟨g, 0, none⟩), .string a1_5] rfl (by (try simp only [List.map_toArray, List.map_cons, List.map_nil]); first | done | rfl | (simp only [List.length_drop, List.length_take]; rfl)) ?_; (with_reducible refine (flat_writer_text.calls k g t172 t173 a1_5 t174 t175 w0 _ ?side1 ?side2 A8.out).mono ?_); (case side1 => repeat (first | (with_reducible first | exact HI0.out | apply IsS120.alloc | apply IsS120.drewN | apply IsS120.drew | apply IsS120.set_0 | apply IsS120.set_1 | refine IsS120.far ?_ NB0_163.out _) | exact HI0.out)); (case side2 => repeat (first | (with_reducible first | exact HB.out | apply below_alloc | apply pw_below_drewN | apply below_drew1 | refine below_set ?_ (IsS120.ge HI0.out) | refine below_set ?_ GE163.out) | exact HB.out)); rintro e w22 ⟨rfl, hi, hb, hk⟩; refine ⟨_, rfl, ?_⟩; have n0_ := Aside0.mk (KeepBut.blk hk (g' := gb163) (o := .cells #[.int .i64 a1_0, .string a1_1, .bool a1_2, .string a1_3, .bool a1_4, .string a1_5] 42 (0, 0)) (by (with_reducible repeat (first | refine blk_drewN ?_ _ | refine blk_drew ?_ | refine blk_alloc ?_ _)); exact BK163.out) NB163_0.out (by simp)); have n1_ := Aside0.mk (KeepBut.trans (by repeat (first | (with_reducible first | exact HK.out | apply KeepBut.set_ | apply keep_drewN | apply keep_drew | apply keep_alloc | refine keep_far ?_ GW163.out _) | exact HK.out)) hk (.inl rfl)); have n2_ := Aside0.mk (hb); have n3_ := Aside0.mk (hi); clear BK163; clear HK; clear HB; clear HI0; have BK163 := n0_; have HK := n1_; have HB := n2_; have HI0 := n3_; clear n0_ n1_ n2_ n3_; (try clear hb); (try clear hb2); (try clear hk); (try clear hi)))
  first | go_end0 | ((try simp only [Exit.inBlock, Exit.then]); refine bodyPost_ret (results_none rfl _ _ _) rfl ?_)
  exact ⟨by first | rfl | (simp [errW_none, errW_some] <;> rfl) | (simp [*, errW_none, errW_some] <;> rfl), by repeat (first | (with_reducible first | exact HI0.out | apply IsS120.alloc | apply IsS120.drewN | apply IsS120.drew | apply IsS120.set_0 | apply IsS120.set_1 | refine IsS120.far ?_ NB0_163.out _) | exact HI0.out), by repeat (first | (with_reducible first | exact HB.out | apply below_alloc | apply pw_below_drewN | apply below_drew1 | refine below_set ?_ (IsS120.ge HI0.out) | refine below_set ?_ GE163.out) | exact HB.out), by repeat (first | (with_reducible first | exact HK.out | apply KeepBut.set_ | apply keep_drewN | apply keep_drew | apply keep_alloc | refine keep_far ?_ GW163.out _) | exact HK.out)⟩

/-! ### flat_Changes: function 18 -/


def flat_Changes.l0 : Nat → List S42 → ByteArray → Bool → Int → Option (ByteArray × Int)
  | 0, _, _, _, _ => none
  | k + 1, l, s, bad, i => if i < (l.length : Int) then (if 0 ≤ i then ((flat_May.f k (rd_T42 l i).f0 (rd_T42 l i).f1 (rd_T42 l i).f2 (rd_T42 l i).f3 (rd_T42 l i).f4 (rd_T42 l i).f5).bind fun m => (if m = true then ((flat_Changes_1.f k s bad (rd_T42 l i).f0 (rd_T42 l i).f1 (rd_T42 l i).f2 (rd_T42 l i).f3 (rd_T42 l i).f4 (rd_T42 l i).f5).bind fun p => (flat_Changes.l0 k l p.1 p.2 (wrap64 (i + 1)))) else (some ((⟨#[]⟩ : ByteArray), 1)))) else (none)) else (if bad = true then (some ((⟨#[]⟩ : ByteArray), 1)) else (some (s, 0)))
def flat_Changes.f (k : Nat) (l0 : List S42) : Option (ByteArray × Int) := if (l0.length : Int) > 65535 then (some ((⟨#[]⟩ : ByteArray), 1)) else ((flat_writer_num.f k (⟨#[]⟩ : ByteArray) false (IntKind.u64.wrap (l0.length : Int)) 2).bind fun p => flat_Changes.l0 k l0 p.1 p.2 0)
theorem flat_Changes.mono_l : ∀ k, (∀ y0 y1 y2 y3, LeO (flat_Changes.l0 k y0 y1 y2 y3) (flat_Changes.l0 (k + 1) y0 y1 y2 y3))
  | 0 => fun _ _ _ _ r h => by simp [flat_Changes.l0] at h
  | k + 1 => by
    have ih := flat_Changes.mono_l k
    intro y0 y1 y2 y3
    unfold flat_Changes.l0
    refine LeO.ite (LeO.ite (LeO.bind (flat_May.mono _ _ _ _ _ _ _) fun _ => LeO.ite (LeO.bind (flat_Changes_1.mono _ _ _ _ _ _ _ _ _) fun _ => ih _ _ _ _) (LeO.refl _)) (LeO.none _)) (LeO.refl _)
theorem flat_Changes.mono : ∀ a0 k, LeO (flat_Changes.f k a0) (flat_Changes.f (k + 1) a0) := by
  intro a0 k
  unfold flat_Changes.f
  exact LeO.ite (LeO.refl _) (LeO.bind (flat_writer_num.mono _ _ _ _ _) fun _ => flat_Changes.mono_l k _ _ _ _)
set_option maxHeartbeats 8000000 in
set_option maxRecDepth 100000 in
theorem flat_Changes.list (k : Nat) (A0 : Option Addr) (c0 : Nat) (l0 : List S42) (r1 : ByteArray) (r2 : Int) (w : World) (hr0 : Kd.C k42 w A0 l0.length l0) (hc0 : l0.length ≤ c0) (h : flat_Changes.f k l0 = some (r1, r2)) :
    Calls Try.prog 60 #[.slice A0 l0.length c0, .func (.func 24) #[] #[], .func (.func 61) #[] #[]] w fun e w' => e = .returned (.tuple #[.string r1, .int .i64 r2]) ∧ Below w.heap.size w w' := by
  have hu42 := Try.underlying42
  have HR0 := Aside0.mk hr0
  have HC0 := Aside0.mk hc0
  clear hr0 hc0
  unfold flat_Changes.f at h
  by_cases c1 : (l0.length : Int) > 65535
  · rw [if_pos c1] at h
    have c1b0 : decide (65535 < (l0.length : Int)) = true := decide_eq_true c1
    have c1b1 : decide (65535 < l0.length) = true := decide_eq_true (by omega)
    clear c1
    simp only [Option.some.injEq, Prod.mk.injEq] at h
    obtain ⟨rfl, rfl⟩ := h
    go_enter Try.func60, Try.ntmps60
    go_wp2
    go_ret2
    exact ⟨rfl, below_alloc (Below.refl _ _) _⟩
  · rw [if_neg c1] at h
    have c1b0 : decide (65535 < (l0.length : Int)) = false := decide_eq_false c1
    have c1b1 : decide (65535 < l0.length) = false := decide_eq_false (by omega)
    clear c1
    obtain ⟨⟨p1, p2⟩, A, h⟩ := Option.bind_eq_some_iff.mp h
    have HA := Aside0.mk A
    have H0 := Aside0.mk h
    clear A h
    go_enter Try.func60, Try.ntmps60
    go_wp2_with (go_at_call 55; (with_reducible refine (flat_writer_num.calls k w.heap.size (⟨#[]⟩ : ByteArray) false (IntKind.u64.wrap (l0.length : Int)) 2 p1 p2 w _ (IsS120.new w w (⟨#[]⟩ : ByteArray) false (Below.refl _ _)) (below_alloc (Below.refl _ _) _) HA.out).mono ?_); rintro e w1 ⟨rfl, hI, hB, hK⟩; have HI := Aside0.mk hI; have HB := Aside0.mk hB; clear hI hB hK)
    go_loopg [23] k (fun kq v23 w' => ∃ (i : Int) (s : ByteArray) (bad : Bool), v23 = .int .i64 i ∧ Aside0 (flat_Changes.l0 kq l0 s bad i = some (r1, r2)) ∧ Aside0 (kq ≤ k) ∧ Aside0 (IsS120 w w' w.heap.size s bad) ∧ Aside0 (Below w.heap.size w w'))
    case atStart => exact ⟨0, p1, p2, (by first | rfl | (simp; done)), H0, ⟨Nat.le_refl _⟩, HI, HB⟩
    case round =>
      clear H0 HI HB HA
      obtain ⟨i, s, bad, rfl, HA, HK1, HI, HB⟩ := hrel
      cases gk with
      | zero => exact absurd HA.out (by simp [flat_Changes.l0])
      | succ k1 =>
        have H := HA.out
        clear HA
        simp only [flat_Changes.l0] at H
        by_cases c2 : i < (l0.length : Int)
        · rw [if_pos c2] at H
          have c2b0 : decide (i < (l0.length : Int)) = true := decide_eq_true c2
          by_cases c3 : 0 ≤ i
          · rw [if_pos c3] at H
            have c3b0 : decide (0 ≤ i) = true := decide_eq_true c3
            obtain ⟨m, A1, H⟩ := Option.bind_eq_some_iff.mp H
            have HA1 := Aside0.mk A1
            clear A1
            obtain ⟨ad, ead, hx0, hx1, hx2, hx3, hx4, hx5⟩ := at_T42 HR0.out i c3 c2
            cases ead
            replace hx0 := (HB.out.cell (World.block_lt_of_cell? w _ hx0)).trans hx0; replace hx1 := (HB.out.cell (World.block_lt_of_cell? w _ hx1)).trans hx1; replace hx2 := (HB.out.cell (World.block_lt_of_cell? w _ hx2)).trans hx2; replace hx3 := (HB.out.cell (World.block_lt_of_cell? w _ hx3)).trans hx3; replace hx4 := (HB.out.cell (World.block_lt_of_cell? w _ hx4)).trans hx4; replace hx5 := (HB.out.cell (World.block_lt_of_cell? w _ hx5)).trans hx5
            replace c3 := eq_true c3
            replace c2 := eq_true c2
            cases m with
            | false =>
              rw [if_neg (by decide)] at H
              simp only [Option.some.injEq, Prod.mk.injEq] at H
              obtain ⟨rfl, rfl⟩ := H
              go_wp2_with (go_at_call 24; (with_reducible refine (flat_May.calls k1 (rd_T42 l0 i).f0 (rd_T42 l0 i).f1 (rd_T42 l0 i).f2 (rd_T42 l0 i).f3 (rd_T42 l0 i).f4 (rd_T42 l0 i).f5 false _ HA1.out).mono ?_); rintro e w5 ⟨rfl, hb⟩; have HB5 := Aside0.mk (below_step (below_alloc HB.out _) hb); clear hb)
              go_ret2
              exact ⟨rfl, HB5.out⟩
            | true =>
              rw [if_pos rfl] at H
              obtain ⟨⟨q1, q2⟩, A2, H⟩ := Option.bind_eq_some_iff.mp H
              have HA2 := Aside0.mk A2
              have H' := Aside0.mk H
              clear A2 H
              go_wp2_with (first
                | (go_at_call 24; (with_reducible refine (flat_May.calls k1 (rd_T42 l0 i).f0 (rd_T42 l0 i).f1 (rd_T42 l0 i).f2 (rd_T42 l0 i).f3 (rd_T42 l0 i).f4 (rd_T42 l0 i).f5 true _ HA1.out).mono ?_); rintro e w5 ⟨rfl, hb⟩; have BK : w5.heap[wr.heap.size]? = some (.cells #[.int .i64 (rd_T42 l0 i).f0, .string (rd_T42 l0 i).f1, .bool (rd_T42 l0 i).f2, .string (rd_T42 l0 i).f3, .bool (rd_T42 l0 i).f4, .string (rd_T42 l0 i).f5] 42 (0, 0)) := (hb.block wr.heap.size (by simp)).trans (heap_alloc_new wr _); have hy0 := (blk_cell BK 0).trans rfl; have hz0 := blk_frozen BK 0; have hy1 := (blk_cell BK 1).trans rfl; have hz1 := blk_frozen BK 1; have hy2 := (blk_cell BK 2).trans rfl; have hz2 := blk_frozen BK 2; have hy3 := (blk_cell BK 3).trans rfl; have hz3 := blk_frozen BK 3; have hy4 := (blk_cell BK 4).trans rfl; have hz4 := blk_frozen BK 4; have hy5 := (blk_cell BK 5).trans rfl; have hz5 := blk_frozen BK 5; have HI5 := Aside0.mk ((HI.out.alloc _).below hb); have HB5 := Aside0.mk (below_step (below_alloc HB.out _) hb); clear hb BK)
                | (go_at_call 61; (with_reducible refine (flat_Changes_1.calls k1 w.heap.size s bad (rd_T42 l0 i).f0 (rd_T42 l0 i).f1 (rd_T42 l0 i).f2 (rd_T42 l0 i).f3 (rd_T42 l0 i).f4 (rd_T42 l0 i).f5 q1 q2 w _ HI5.out HB5.out HA2.out).mono ?_); rintro e w6 ⟨rfl, hI, hB, hK⟩; have HI6 := Aside0.mk hI; have HB6 := Aside0.mk hB; clear hI hB hK))
              go_roundg k1
              case measure => have := HK1.out; omega
              case rel => exact ⟨(wrap64 (i + 1)), q1, q2, (by first | rfl | (simp; done) | (simp [*]; done)), H', ⟨by have := HK1.out; omega⟩, HI6, HB6⟩
          · rw [if_neg c3] at H
            exact absurd H (by simp)
        · rw [if_neg c2] at H
          have c2b0 : decide (i < (l0.length : Int)) = false := decide_eq_false c2
          clear c2
          have BK : wr.heap[w.heap.size]? = some (.cells #[.string s, .bool bad] 120 (0, 0)) := HI.out.1
          have hy0 : wr.cell? ⟨w.heap.size, 0, none⟩ = some (.string s) := (blk_cell BK 0).trans rfl
          have hy1 : wr.cell? ⟨w.heap.size, 1, none⟩ = some (.bool bad) := (blk_cell BK 1).trans rfl
          clear BK
          cases bad with
          | true =>
            rw [if_pos rfl] at H
            simp only [Option.some.injEq, Prod.mk.injEq] at H
            obtain ⟨rfl, rfl⟩ := H
            go_wp2
            go_ret2
            exact ⟨rfl, HB.out⟩
          | false =>
            rw [if_neg (by decide)] at H
            simp only [Option.some.injEq, Prod.mk.injEq] at H
            obtain ⟨rfl, rfl⟩ := H
            go_wp2
            go_ret2
            exact ⟨rfl, HB.out⟩
set_option maxHeartbeats 8000000 in
theorem flat_Changes.calls (k : Nat) (A0 : Option Addr) (c0 : Nat) (l0 : List S42) (r1 : ByteArray) (r2 : Int) (w : World) (hr0 : Kd.C k42 w A0 l0.length l0) (hc0 : l0.length ≤ c0) (h : flat_Changes.f k l0 = some (r1, r2)) :
    Calls Try.prog 18 #[.slice A0 l0.length c0] w fun e w' => e = .returned (.tuple #[.string r1, .int .i64 r2]) ∧ Below w.heap.size w w' := by
  have HL := Aside0.mk (flat_Changes.list k A0 c0 l0 r1 r2 w hr0 hc0 h)
  clear hr0 hc0 h
  go_enter Try.func18, Try.ntmps18
  go_wp2_with (go_at_call 60; (with_reducible refine HL.out.mono ?_); rintro e w5 ⟨rfl, hb⟩)
  go_ret2
  exact ⟨rfl, hb⟩


/-! ### flat_Range: function 19 -/

def flat_Range.f (k : Nat) (a0_0 : ByteArray) (a0_1 : ByteArray) (a0_2 : Bool) : Option (ByteArray × Int) :=
  (flat_writer_text.f k (⟨#[]⟩ : ByteArray) false a0_0).bind fun p => (flat_writer_text.f k p.1 p.2 a0_1).bind fun q => (flat_writer_flag.f k q.1 q.2 a0_2).bind fun r =>
    (stretch_Right.f a0_0 a0_1 a0_2).bind fun m => if m = true then (if r.2 = true then some ((⟨#[]⟩ : ByteArray), 1) else some (r.1, 0)) else some ((⟨#[]⟩ : ByteArray), 1)
theorem flat_Range.mono : ∀ a0 a1 a2 k, LeO (flat_Range.f k a0 a1 a2) (flat_Range.f (k + 1) a0 a1 a2) := by
  intro a0 a1 a2 k
  unfold flat_Range.f
  exact LeO.bind (flat_writer_text.mono _ _ _ _) fun _ => LeO.bind (flat_writer_text.mono _ _ _ _) fun _ => LeO.bind (flat_writer_flag.mono _ _ _ _) fun _ => LeO.refl _
set_option maxHeartbeats 8000000 in
set_option maxRecDepth 100000 in
theorem flat_Range.calls (k : Nat) (a0_0 : ByteArray) (a0_1 : ByteArray) (a0_2 : Bool) (r1 : ByteArray) (r2 : Int) (w : World) (h : flat_Range.f k a0_0 a0_1 a0_2 = some (r1, r2)) :
    Calls Try.prog 19 #[.agg #[.string a0_0, .string a0_1, .bool a0_2]] w fun e w' => e = .returned (.tuple #[.string r1, .int .i64 r2]) ∧ Below w.heap.size w w' := by
  have hu1 := Try.underlying26
  have hu2 := Try.underlying120
  unfold flat_Range.f at h
  obtain ⟨⟨p1, p2⟩, A, h⟩ := Option.bind_eq_some_iff.mp h
  simp only at h
  obtain ⟨⟨q1, q2⟩, A1, h⟩ := Option.bind_eq_some_iff.mp h
  simp only at h
  obtain ⟨⟨s1, s2⟩, A2, h⟩ := Option.bind_eq_some_iff.mp h
  simp only at h
  obtain ⟨m, A3, h⟩ := Option.bind_eq_some_iff.mp h
  have HA := Aside0.mk A
  have HA1 := Aside0.mk A1
  have HA2 := Aside0.mk A2
  have HA3 := Aside0.mk A3
  have H := Aside0.mk h
  clear A A1 A2 A3 h
  have hB0 : Below w.heap.size w ((w.alloc (.cells #[.string a0_0, .string a0_1, .bool a0_2] 26)).alloc (.cells #[.string (⟨#[]⟩ : ByteArray), .bool false] 120)) := below_alloc (below_alloc (Below.refl _ _) _) _
  have hI0 : IsS120 w ((w.alloc (.cells #[.string a0_0, .string a0_1, .bool a0_2] 26)).alloc (.cells #[.string (⟨#[]⟩ : ByteArray), .bool false] 120)) (w.heap.size + 1) (⟨#[]⟩ : ByteArray) false := by
    have := IsS120.new w (w.alloc (.cells #[.string a0_0, .string a0_1, .bool a0_2] 26)) (⟨#[]⟩ : ByteArray) false (below_alloc (Below.refl _ _) _)
    simpa using this
  have hb0 : ((w.alloc (.cells #[.string a0_0, .string a0_1, .bool a0_2] 26)).alloc (.cells #[.string (⟨#[]⟩ : ByteArray), .bool false] 120)).heap[w.heap.size]? = some (.cells #[.string a0_0, .string a0_1, .bool a0_2] 26 (0, 0)) :=
    (Below.heap_alloc _ _ _ (by simp)).trans (heap_alloc_new w _)
  have HB0 := Aside0.mk hB0
  have HI0 := Aside0.mk hI0
  have Hb0 := Aside0.mk hb0
  clear hB0 hI0 hb0
  have hne : w.heap.size ≠ w.heap.size + 1 := by omega
  have Hne := Aside0.mk hne
  clear hne
  go_enter Try.func19, Try.ntmps19
  go_wp2_with fail
  (with_reducible refine (flat_writer_text.calls k (w.heap.size + 1) (⟨#[]⟩ : ByteArray) false a0_0 p1 p2 w _ HI0.out HB0.out HA.out).mono ?_)
  rintro e w1 ⟨rfl, hI, hB, hK⟩
  have BK1 := Aside0.mk (hK.blk Hb0.out Hne.out (by simp))
  have HI1 := Aside0.mk hI
  have HB1 := Aside0.mk hB
  clear hI hB hK HI0 HB0 Hb0
  have hx1 := (blk_cell BK1.out 1).trans rfl
  go_wp2_with fail
  (with_reducible refine (flat_writer_text.calls k (w.heap.size + 1) p1 p2 a0_1 q1 q2 w _ HI1.out HB1.out HA1.out).mono ?_)
  rintro e w2 ⟨rfl, hI, hB, hK⟩
  have BK2 := Aside0.mk (hK.blk BK1.out Hne.out (by simp))
  have HI2 := Aside0.mk hI
  have HB2 := Aside0.mk hB
  clear hI hB hK HI1 HB1 BK1 hx1
  have hx2 := (blk_cell BK2.out 2).trans rfl
  go_wp2_with fail
  (with_reducible refine (flat_writer_flag.calls k (w.heap.size + 1) q1 q2 a0_2 s1 s2 w _ HI2.out HB2.out HA2.out).mono ?_)
  rintro e w3 ⟨rfl, hI, hB, hK⟩
  have BK3 := Aside0.mk (hK.blk BK2.out Hne.out (by simp))
  have HI3 := Aside0.mk hI
  have HB3 := Aside0.mk hB
  clear hI hB hK HI2 HB2 BK2 hx2
  have hx0 := (blk_cell BK3.out 0).trans rfl
  have hx1 := (blk_cell BK3.out 1).trans rfl
  have hx2 := (blk_cell BK3.out 2).trans rfl
  go_wp2_with fail
  (with_reducible refine (stretch_Right.calls a0_0 a0_1 a0_2 m _ HA3.out).mono ?_)
  rintro e w4 ⟨rfl, hb⟩
  have hs := (HI3.out.below hb).1
  have hy0 := (blk_cell hs 0).trans rfl
  have hy1 := (blk_cell hs 1).trans rfl
  have HB4 := Aside0.mk (below_step HB3.out hb)
  clear hb hs HI3 HB3 BK3 hx0 hx1 hx2
  have h := H.out
  clear H
  cases m with
  | false =>
    rw [if_neg (by decide)] at h
    simp only [Option.some.injEq, Prod.mk.injEq] at h
    obtain ⟨rfl, rfl⟩ := h
    go_wp2
    go_ret2
    exact ⟨rfl, HB4.out⟩
  | true =>
    rw [if_pos rfl] at h
    cases s2 with
    | true =>
      rw [if_pos rfl] at h
      simp only [Option.some.injEq, Prod.mk.injEq] at h
      obtain ⟨rfl, rfl⟩ := h
      go_wp2
      go_ret2
      exact ⟨rfl, HB4.out⟩
    | false =>
      rw [if_neg (by decide)] at h
      simp only [Option.some.injEq, Prod.mk.injEq] at h
      obtain ⟨rfl, rfl⟩ := h
      go_wp2
      go_ret2
      exact ⟨rfl, HB4.out⟩


/-! ### flat_reader_num: function 73 -/
/-- A state of type 136 at block g of W; what its slices lead to came in by w0. -/
def IsS136 (w0 W : World) (g : Nat) (f0 : ByteArray) (f1 : Bool) : Prop := W.heap[g]? = some (.cells #[.string f0, .bool f1] 136 (0, 0)) ∧ w0.heap.size ≤ g
theorem IsS136.grown {w0 W : World} {g : Nat} {f0 : ByteArray} {f1 : Bool} {W1 : World} {row : Option Nat} (h : IsS136 w0 W g f0 f1) (hw : W.grownBy W1 row) (hne : some g ≠ row) : IsS136 w0 W1 g f0 f1 := by
  obtain ⟨hb, hg⟩ := h
  exact ⟨blk_grown hb hw hne, hg⟩
theorem IsS136.own_neN {w0 W : World} {g : Nat} {f0 : ByteArray} {f1 : Bool} {α : Type} {d : Kd α} {e : Nat} {base : Nat} {ok : Nat → Prop} {v : Value} {xs : List α} (h : IsS136 w0 W g f0 f1) (ho : Kd.N d e W base ok v xs) (ht : e ≠ 136) : some g ≠ v.ownBlock := by
  obtain ⟨hb, hg⟩ := h
  exact Kd.N_ne ho hb ht
theorem IsS136.fresh {w0 W : World} {g : Nat} {f0 : ByteArray} {f1 : Bool} (h : IsS136 w0 W g f0 f1) : ∀ k, W.heap.size ≤ k → k ≠ g := by
  obtain ⟨hb, hg⟩ := h
  exact Kd.freshB hb
theorem IsS136.kept {w0 W : World} {g : Nat} {f0 : ByteArray} {f1 : Bool} {W1 : World} {S : Nat → Prop} (h : IsS136 w0 W g f0 f1) (hk : Kept W W1 S) (hne : ¬ S g) : IsS136 w0 W1 g f0 f1 := by
  obtain ⟨hb, hg⟩ := h
  exact ⟨blk_kept hb hk hne, hg⟩
theorem IsS136.below {w0 W : World} {g : Nat} {f0 : ByteArray} {f1 : Bool} {W1 : World} (h : IsS136 w0 W g f0 f1) (hw : Below W.heap.size W W1) : IsS136 w0 W1 g f0 f1 := h.grown (grown_of_below hw none) (by simp)
theorem IsS136.alloc {w0 W : World} {g : Nat} {f0 : ByteArray} {f1 : Bool} (h : IsS136 w0 W g f0 f1) (o : Obj) : IsS136 w0 (W.alloc o) g f0 f1 := h.below (below_alloc (Below.refl _ _) o)
theorem IsS136.drewN {w0 W : World} {g : Nat} {f0 : ByteArray} {f1 : Bool} (h : IsS136 w0 W g f0 f1) (m : Nat) : IsS136 w0 (W.drewN m) g f0 f1 := h
theorem IsS136.drew {w0 W : World} {g : Nat} {f0 : ByteArray} {f1 : Bool} (h : IsS136 w0 W g f0 f1) : IsS136 w0 W.drew g f0 f1 := h
theorem IsS136.at_ {w0 W : World} {g : Nat} {f0 : ByteArray} {f1 : Bool} {w' : World} {m : Nat} (hq : W.drewN m = w') (h : IsS136 w0 W g f0 f1) : IsS136 w0 w' g f0 f1 := by subst hq; exact IsS136.drewN h m
theorem IsS136.apart {w0 W : World} {g : Nat} {f0 : ByteArray} {f1 : Bool} {α : Type} {d : Kd α} {e : Nat} {base : Nat} {ok : Nat → Prop} {v : Value} {xs : List α} (h : IsS136 w0 W g f0 f1) (ho : d.R e W base ok v xs) (ht : ∀ q, q ∈ e :: d.E → q ≠ 136) : d.R e W base (fun k => ok k ∧ k ≠ g) v xs := by
  obtain ⟨hb, hg⟩ := h
  exact Kd.R_types ho hb ht
theorem IsS136.own_ne {w0 W : World} {g : Nat} {f0 : ByteArray} {f1 : Bool} {α : Type} {d : Kd α} {e : Nat} {base : Nat} {ok : Nat → Prop} {v : Value} {xs : List α} (h : IsS136 w0 W g f0 f1) (ho : d.R e W base ok v xs) (ht : e ≠ 136) : some g ≠ v.ownBlock := by
  obtain ⟨hb, hg⟩ := h
  exact Kd.R_ne ho hb ht
theorem IsS136.apartQ {w0 W : World} {g : Nat} {f0 : ByteArray} {f1 : Bool} {α : Type} {d : Kd α} {e : Nat} {base : Nat} {ok : Nat → Prop} {v : Value} {xs : List α} (h : IsS136 w0 W g f0 f1) (ho : d.Q e W base ok v xs) (ht : ∀ q, q ∈ e :: d.E → q ≠ 136) : d.Q e W base (fun k => ok k ∧ k ≠ g) v xs := by
  obtain ⟨hb, hg⟩ := h
  exact Kd.Q_types ho hb ht
theorem IsS136.own_neQ {w0 W : World} {g : Nat} {f0 : ByteArray} {f1 : Bool} {α : Type} {d : Kd α} {e : Nat} {base : Nat} {ok : Nat → Prop} {v : Value} {xs : List α} (h : IsS136 w0 W g f0 f1) (ho : d.Q e W base ok v xs) (ht : e ≠ 136) : some g ≠ v.ownBlock := by
  obtain ⟨hb, hg⟩ := h
  exact Kd.Q_ne ho hb ht
theorem IsS136.apartS {w0 W : World} {g : Nat} {f0 : ByteArray} {f1 : Bool} {α : Type} {d : Kd α} {e : Nat} {base : Nat} {ok : Nat → Prop} {v : Value} {xs : List α} (h : IsS136 w0 W g f0 f1) (ho : d.S e W base ok v xs) (ht : ∀ q, q ∈ e :: d.E → q ≠ 136) : d.S e W base (fun k => ok k ∧ k ≠ g) v xs := by
  obtain ⟨hb, hg⟩ := h
  exact Kd.S_types ho hb ht
theorem IsS136.own_neS {w0 W : World} {g : Nat} {f0 : ByteArray} {f1 : Bool} {α : Type} {d : Kd α} {e : Nat} {base : Nat} {ok : Nat → Prop} {v : Value} {xs : List α} (h : IsS136 w0 W g f0 f1) (ho : d.S e W base ok v xs) (ht : e ≠ 136) : some g ≠ v.ownBlock := by
  obtain ⟨hb, hg⟩ := h
  exact Kd.S_ne ho hb ht
theorem IsS136.lt {w0 W : World} {g : Nat} {f0 : ByteArray} {f1 : Bool} (h : IsS136 w0 W g f0 f1) : g < W.heap.size := by
  obtain ⟨hb, hg⟩ := h
  exact blk_lt hb
theorem IsS136.ge {w0 W : World} {g : Nat} {f0 : ByteArray} {f1 : Bool} (h : IsS136 w0 W g f0 f1) : w0.heap.size ≤ g := by
  obtain ⟨hb, hg⟩ := h
  exact hg
theorem IsS136.ne_blk {w0 W : World} {g : Nat} {f0 : ByteArray} {f1 : Bool} {a : Nat} {cs : Array Value} {t : TypeId} {fr : Nat × Nat} (h : IsS136 w0 W g f0 f1) (hb2 : W.heap[a]? = some (.cells cs t fr)) (ht : t ≠ 136) : g ≠ a := by
  obtain ⟨hb, hg⟩ := h
  rintro rfl
  rw [hb] at hb2
  injection hb2 with hb2
  injection hb2 with _ ht2
  exact ht ht2.symm
theorem IsS136.far {w0 W : World} {g : Nat} {f0 : ByteArray} {f1 : Bool} {p : Addr} (h : IsS136 w0 W g f0 f1) (hne : g ≠ p.block) (u : Value) : IsS136 w0 (W.setCell p u) g f0 f1 := by
  obtain ⟨hb, hg⟩ := h
  exact ⟨blk_far hb hne u, hg⟩
theorem cellS136_0 {W : World} {g : Nat} {f0 : ByteArray} {f1 : Bool} (h : W.heap[g]? = some (.cells #[.string f0, .bool f1] 136 (0, 0))) : W.cell? ⟨g, 0, none⟩ = some (.string f0) := (blk_cell h 0).trans rfl
theorem IsS136.set_0 {w0 W : World} {g : Nat} {f0 : ByteArray} {f1 : Bool} (h : IsS136 w0 W g f0 f1) (x : ByteArray) : IsS136 w0 (W.setCell ⟨g, 0, none⟩ (.string x)) g x f1 := by
  obtain ⟨hb, hg⟩ := h
  exact ⟨by simpa using blk_set hb 0 (.string x), hg⟩
theorem cellS136_1 {W : World} {g : Nat} {f0 : ByteArray} {f1 : Bool} (h : W.heap[g]? = some (.cells #[.string f0, .bool f1] 136 (0, 0))) : W.cell? ⟨g, 1, none⟩ = some (.bool f1) := (blk_cell h 1).trans rfl
theorem IsS136.set_1 {w0 W : World} {g : Nat} {f0 : ByteArray} {f1 : Bool} (h : IsS136 w0 W g f0 f1) (x : Bool) : IsS136 w0 (W.setCell ⟨g, 1, none⟩ (.bool x)) g f0 x := by
  obtain ⟨hb, hg⟩ := h
  exact ⟨by simpa using blk_set hb 1 (.bool x), hg⟩
theorem IsS136.new (w0 W : World) (f0 : ByteArray) (f1 : Bool) (hB : Below w0.heap.size w0 W) : IsS136 w0 (W.alloc (.cells #[.string f0, .bool f1] 136)) W.heap.size f0 f1 := ⟨by simpa using heap_alloc_new W _, hB.size⟩


def flat_reader_num.f (k : Nat) (s0_0 : ByteArray) (s0_1 : Bool) (a1 : Int) : Option (Int × ByteArray × Bool) :=
  (pack_Take.f k s0_0 a1).bind fun q => some (q.1, q.2.1, s0_1 || (q.2.2 != 0))
theorem flat_reader_num.mono : ∀ a0 a1 a2 k, LeO (flat_reader_num.f k a0 a1 a2) (flat_reader_num.f (k + 1) a0 a1 a2) := by
  intro a0 a1 a2 k
  unfold flat_reader_num.f
  exact LeO.bind (pack_Take.mono _ _ _) fun _ => LeO.refl _
set_option maxHeartbeats 8000000 in
set_option maxRecDepth 100000 in
theorem flat_reader_num.calls (k : Nat) (g : Nat) (s0_0 : ByteArray) (s0_1 : Bool) (a1 : Int) (r1 : Int) (r2 : ByteArray) (r3 : Bool) (w0 w : World) (hI : IsS136 w0 w g s0_0 s0_1) (hB : Below w0.heap.size w0 w) (h : flat_reader_num.f k s0_0 s0_1 a1 = some (r1, r2, r3)) :
    Calls Try.prog 73 #[.pointer (some ⟨g, 0, none⟩), .int .i64 a1] w fun e w' => e = .returned (.int .u64 r1) ∧ IsS136 w0 w' g r2 r3 ∧ Below w0.heap.size w0 w' ∧ KeepBut w w' g none := by
  unfold flat_reader_num.f at h
  obtain ⟨⟨t1, t2, t3⟩, A, h⟩ := Option.bind_eq_some_iff.mp h
  simp only [Option.some.injEq, Prod.mk.injEq] at h
  obtain ⟨rfl, rfl, rfl⟩ := h
  have HA := Aside0.mk A
  clear A
  have hb := hI.1
  have c0 : w.cell? ⟨g, 0, none⟩ = some (.string s0_0) := (blk_cell hb 0).trans rfl
  have c1 : w.cell? ⟨g, 1, none⟩ = some (.bool s0_1) := (blk_cell hb 1).trans rfl
  have f0 : w.frozen? ⟨g, 0, none⟩ = false := blk_frozen hb 0
  have f1 : w.frozen? ⟨g, 1, none⟩ = false := blk_frozen hb 1
  have hg := hI.ge
  have Fin := Aside0.mk (show ∀ (n : Nat) (x : ByteArray) (y : Bool), IsS136 w0 (((w.drewN n).setCell ⟨g, 0, none⟩ (.string x)).setCell ⟨g, 1, none⟩ (.bool y)) g x y ∧
      Below w0.heap.size w0 (((w.drewN n).setCell ⟨g, 0, none⟩ (.string x)).setCell ⟨g, 1, none⟩ (.bool y)) ∧
      KeepBut w (((w.drewN n).setCell ⟨g, 0, none⟩ (.string x)).setCell ⟨g, 1, none⟩ (.bool y)) g none from fun n x y =>
    ⟨(((hI.drewN n).set_0 x).set_1 y), (((pw_below_drewN hB n).setCell hg _).setCell hg _), ((KeepBut.of_below (pw_below_drewN (Below.refl _ _) n) g none).set_ 0 _).set_ 1 _⟩)
  clear hI hB hb hg
  cases s0_1 with
  | true =>
    go_enter Try.func73, Try.ntmps73
    go_wp2_with (go_at_call 100; (with_reducible refine (pack_Take.calls k s0_0 a1 t1 t2 t3 _ HA.out).mono ?_); rintro e w' ⟨rfl, ⟨nd, rfl⟩⟩)
    go_ret
    exact ⟨rfl, Fin.out nd _ _⟩
  | false =>
    go_enter Try.func73, Try.ntmps73
    go_wp2_with (go_at_call 100; (with_reducible refine (pack_Take.calls k s0_0 a1 t1 t2 t3 _ HA.out).mono ?_); rintro e w' ⟨rfl, ⟨nd, rfl⟩⟩)
    go_ret
    exact ⟨rfl, Fin.out nd _ _⟩


-- NOT PRINTED: function 71 (api_Note_71)

/-! ### flat_reader_text: function 74 -/


def flat_reader_text.f (k : Nat) (s0_0 : ByteArray) (s0_1 : Bool) : Option (ByteArray × ByteArray × Bool) :=
  (pack_TakeText.f k s0_0).bind fun q => some (q.1, q.2.1, s0_1 || (q.2.2 != 0))
theorem flat_reader_text.mono : ∀ a0 a1 k, LeO (flat_reader_text.f k a0 a1) (flat_reader_text.f (k + 1) a0 a1) := by
  intro a0 a1 k
  unfold flat_reader_text.f
  exact LeO.bind (pack_TakeText.mono _ _) fun _ => LeO.refl _
set_option maxHeartbeats 8000000 in
set_option maxRecDepth 100000 in
theorem flat_reader_text.calls (k : Nat) (g : Nat) (s0_0 : ByteArray) (s0_1 : Bool) (r1 : ByteArray) (r2 : ByteArray) (r3 : Bool) (w0 w : World) (hI : IsS136 w0 w g s0_0 s0_1) (hB : Below w0.heap.size w0 w) (h : flat_reader_text.f k s0_0 s0_1 = some (r1, r2, r3)) :
    Calls Try.prog 74 #[.pointer (some ⟨g, 0, none⟩)] w fun e w' => e = .returned (.string r1) ∧ IsS136 w0 w' g r2 r3 ∧ Below w0.heap.size w0 w' ∧ KeepBut w w' g none := by
  unfold flat_reader_text.f at h
  obtain ⟨⟨t1, t2, t3⟩, A, h⟩ := Option.bind_eq_some_iff.mp h
  simp only [Option.some.injEq, Prod.mk.injEq] at h
  obtain ⟨rfl, rfl, rfl⟩ := h
  have HA := Aside0.mk A
  clear A
  have hb := hI.1
  have c0 : w.cell? ⟨g, 0, none⟩ = some (.string s0_0) := (blk_cell hb 0).trans rfl
  have c1 : w.cell? ⟨g, 1, none⟩ = some (.bool s0_1) := (blk_cell hb 1).trans rfl
  have f0 : w.frozen? ⟨g, 0, none⟩ = false := blk_frozen hb 0
  have f1 : w.frozen? ⟨g, 1, none⟩ = false := blk_frozen hb 1
  have hg := hI.ge
  have Fin := Aside0.mk (show ∀ (n : Nat) (x : ByteArray) (y : Bool), IsS136 w0 (((w.drewN n).setCell ⟨g, 0, none⟩ (.string x)).setCell ⟨g, 1, none⟩ (.bool y)) g x y ∧
      Below w0.heap.size w0 (((w.drewN n).setCell ⟨g, 0, none⟩ (.string x)).setCell ⟨g, 1, none⟩ (.bool y)) ∧
      KeepBut w (((w.drewN n).setCell ⟨g, 0, none⟩ (.string x)).setCell ⟨g, 1, none⟩ (.bool y)) g none from fun n x y =>
    ⟨(((hI.drewN n).set_0 x).set_1 y), (((pw_below_drewN hB n).setCell hg _).setCell hg _), ((KeepBut.of_below (pw_below_drewN (Below.refl _ _) n) g none).set_ 0 _).set_ 1 _⟩)
  clear hI hB hb hg
  cases s0_1 with
  | true =>
    go_enter Try.func74, Try.ntmps74
    go_wp2_with (go_at_call 101; (with_reducible refine (pack_TakeText.calls k s0_0 t1 t2 t3 _ HA.out).mono ?_); rintro e w' ⟨rfl, ⟨nd, rfl⟩⟩)
    go_ret
    exact ⟨rfl, Fin.out nd _ _⟩
  | false =>
    go_enter Try.func74, Try.ntmps74
    go_wp2_with (go_at_call 101; (with_reducible refine (pack_TakeText.calls k s0_0 t1 t2 t3 _ HA.out).mono ?_); rintro e w' ⟨rfl, ⟨nd, rfl⟩⟩)
    go_ret
    exact ⟨rfl, Fin.out nd _ _⟩


/-! ### flat_TakeNotes_1: function 72 -/
def flat_TakeNotes_1.f (k : Nat) (s0_0 : ByteArray) (s0_1 : Bool) : Option (Int × ByteArray × ByteArray × Int × ByteArray × Bool) := (flat_reader_num.f k s0_0 s0_1 1).bind fun bt182 => ((flat_reader_text.f k bt182.2.1 bt182.2.2).bind fun bt185 => ((flat_reader_text.f k bt185.2.1 bt185.2.2).bind fun bt188 => ((flat_reader_num.f k bt188.2.1 bt188.2.2 8).bind fun bt191 => (some (wrap64 (bt182.1), bt185.1, bt188.1, bt191.1, bt191.2.1, bt191.2.2)))))
theorem flat_TakeNotes_1.mono : ∀ a0 a1 k, LeO (flat_TakeNotes_1.f k a0 a1) (flat_TakeNotes_1.f (k + 1) a0 a1) := by
  intro a0 a1 k
  unfold flat_TakeNotes_1.f
  repeat' first
      | (with_reducible exact flat_reader_num.mono _ _ _ _)
      | (with_reducible exact flat_reader_text.mono _ _ _)
      | (with_reducible exact LeO.refl _)
      | (with_reducible exact LeO.none _)
      | (with_reducible refine LeO.ite ?_ ?_)
      | (with_reducible refine LeO.bind ?_ (fun _ => ?_))
      | exact flat_reader_num.mono _ _ _ _
      | exact flat_reader_text.mono _ _ _
      | exact LeO.none _
      | refine LeO.ite ?_ ?_
      | refine LeO.bind ?_ (fun _ => ?_)
set_option maxHeartbeats 8000000 in
set_option maxRecDepth 100000 in
theorem flat_TakeNotes_1.calls (k : Nat) (g : Nat) (s0_0 : ByteArray) (s0_1 : Bool) (r1 : Int) (r2 : ByteArray) (r3 : ByteArray) (r4 : Int) (r5 : ByteArray) (r6 : Bool) (w0 w : World) (hI : IsS136 w0 w g s0_0 s0_1) (hB : Below w0.heap.size w0 w) (h : flat_TakeNotes_1.f k s0_0 s0_1 = some (r1, r2, r3, r4, r5, r6)) :
    Calls Try.prog 72 #[.pointer (some ⟨g, 0, none⟩)] w fun e w' => e = .returned (.agg #[.int .i64 r1, .string r2, .string r3, .int .u64 r4]) ∧ IsS136 w0 w' g r5 r6 ∧ Below w0.heap.size w0 w' ∧ KeepBut w w' g none := by
  have hu48 := Try.underlying48
  have HI0 := Aside0.mk hI
  have HK := Aside0.mk (KeepBut.refl w g none)
  have HL := Aside0.mk hB.size
  clear hI
  have HW0 := Aside0.mk hB.size
  have HB := Aside0.mk hB
  clear hB
  have H : ((flat_reader_num.f k s0_0 s0_1 1).bind fun bt182 => ((flat_reader_text.f k bt182.2.1 bt182.2.2).bind fun bt185 => ((flat_reader_text.f k bt185.2.1 bt185.2.2).bind fun bt188 => ((flat_reader_num.f k bt188.2.1 bt188.2.2 8).bind fun bt191 => (some (wrap64 (bt182.1), bt185.1, bt188.1, bt191.1, bt191.2.1, bt191.2.2)))))) = some (r1, r2, r3, r4, r5, r6) := h
  clear h
  replace H := Option.bind_eq_some_iff.mp H
  obtain ⟨⟨t182, t183, t184⟩, A20, H⟩ := H
  replace H : ((flat_reader_text.f k t183 t184).bind fun bt185 => ((flat_reader_text.f k bt185.2.1 bt185.2.2).bind fun bt188 => ((flat_reader_num.f k bt188.2.1 bt188.2.2 8).bind fun bt191 => (some (wrap64 (t182), bt185.1, bt188.1, bt191.1, bt191.2.1, bt191.2.2))))) = some (r1, r2, r3, r4, r5, r6) := H
  have A2 := Aside0.mk A20
  clear A20
  replace H := Option.bind_eq_some_iff.mp H
  obtain ⟨⟨t185, t186, t187⟩, A30, H⟩ := H
  replace H : ((flat_reader_text.f k t186 t187).bind fun bt188 => ((flat_reader_num.f k bt188.2.1 bt188.2.2 8).bind fun bt191 => (some (wrap64 (t182), t185, bt188.1, bt191.1, bt191.2.1, bt191.2.2)))) = some (r1, r2, r3, r4, r5, r6) := H
  have A3 := Aside0.mk A30
  clear A30
  replace H := Option.bind_eq_some_iff.mp H
  obtain ⟨⟨t188, t189, t190⟩, A40, H⟩ := H
  replace H : ((flat_reader_num.f k t189 t190 8).bind fun bt191 => (some (wrap64 (t182), t185, t188, bt191.1, bt191.2.1, bt191.2.2))) = some (r1, r2, r3, r4, r5, r6) := H
  have A4 := Aside0.mk A40
  clear A40
  replace H := Option.bind_eq_some_iff.mp H
  obtain ⟨⟨t191, t192, t193⟩, A50, H⟩ := H
  replace H : (some (wrap64 (t182), t185, t188, t191, t192, t193)) = some (r1, r2, r3, r4, r5, r6) := H
  have A5 := Aside0.mk A50
  clear A50
  simp only [Option.some.injEq, Prod.mk.injEq] at H
  obtain ⟨rfl, rfl, rfl, rfl, rfl, rfl⟩ := H
  go_enter Try.func72, Try.ntmps72
  go_wp2_with (first | ((with_reducible refine gate_dst (N := 2) rfl ?_); refine box_event ?hg (N := 2) ?hd (cs := #[.int .i64 0, .string (⟨#[]⟩ : ByteArray), .string (⟨#[]⟩ : ByteArray), .int .u64 0]) (t := 48) ?hr ?_; (case hd => rfl); (case hg => rfl); (case hr => first | (go_simp; done) | (go_simp; rfl)); intro gb181 hg w6 hbox hb; have n0_ := Aside0.mk (IsS136.below (by repeat (first | (with_reducible first | exact HI0.out | apply IsS136.alloc | apply IsS136.drewN | apply IsS136.drew | apply IsS136.set_0 | apply IsS136.set_1) | exact HI0.out)) hb); have n1_ := Aside0.mk (KeepBut.trans (by repeat (first | (with_reducible first | exact HK.out | apply KeepBut.set_ | apply keep_drewN | apply keep_drew | apply keep_alloc) | exact HK.out)) (KeepBut.of_below hb g none) (.inl rfl)); have n2_ := Aside0.mk (below_step (by repeat (first | (with_reducible first | exact HB.out | apply below_alloc | apply pw_below_drewN | apply below_drew1 | refine below_set ?_ (IsS136.ge HI0.out)) | exact HB.out)) hb); have n3_ := Aside0.mk (hbox); have n4_ := Aside0.mk ((by rw [hg]; exact (keep_size (w := w) (g := g) (row := none) (by repeat (first | (with_reducible first | exact HK.out | apply KeepBut.set_ | apply keep_drewN | apply keep_drew | apply keep_alloc) | exact HK.out))) : w.heap.size ≤ gb181)); have n5_ := Aside0.mk ((Nat.le_trans HW0.out (by rw [hg]; exact (keep_size (w := w) (g := g) (row := none) (by repeat (first | (with_reducible first | exact HK.out | apply KeepBut.set_ | apply keep_drewN | apply keep_drew | apply keep_alloc) | exact HK.out))) : w.heap.size ≤ gb181) : w0.heap.size ≤ gb181)); have n6_ := Aside0.mk ((by rw [hg]; exact Nat.ne_of_lt (IsS136.lt (show IsS136 w0 _ g s0_0 s0_1 from by repeat (first | (with_reducible first | exact HI0.out | apply IsS136.alloc | apply IsS136.drewN | apply IsS136.drew | apply IsS136.set_0 | apply IsS136.set_1) | exact HI0.out))) : g ≠ gb181)); have n7_ := Aside0.mk ((by rw [hg]; exact Nat.ne_of_gt (IsS136.lt (show IsS136 w0 _ g s0_0 s0_1 from by repeat (first | (with_reducible first | exact HI0.out | apply IsS136.alloc | apply IsS136.drewN | apply IsS136.drew | apply IsS136.set_0 | apply IsS136.set_1) | exact HI0.out))) : gb181 ≠ g)); clear HI0; clear HK; clear HB; have HI0 := n0_; have HK := n1_; have HB := n2_; have BK181 := n3_; have GW181 := n4_; have GE181 := n5_; have NB0_181 := n6_; have NB181_0 := n7_; clear n0_ n1_ n2_ n3_ n4_ n5_ n6_ n7_; clear hb hbox hg) | ((with_reducible refine gate_callee (f := 73) rfl ?_); refine goesL_ (some 7) rfl rfl Try.func73 (by kernel_rfl) rfl #[.pointer (some ⟨g, 0, none⟩), .int .i64 1] rfl (by (try simp only [List.map_toArray, List.map_cons, List.map_nil]); first | done | rfl | (simp only [List.length_drop, List.length_take]; rfl)) ?_; (with_reducible refine (flat_reader_num.calls k g s0_0 s0_1 1 t182 t183 t184 w0 _ ?side1 ?side2 A2.out).mono ?_); (case side1 => repeat (first | (with_reducible first | exact HI0.out | apply IsS136.alloc | apply IsS136.drewN | apply IsS136.drew | apply IsS136.set_0 | apply IsS136.set_1 | refine IsS136.far ?_ NB0_181.out _) | exact HI0.out)); (case side2 => repeat (first | (with_reducible first | exact HB.out | apply below_alloc | apply pw_below_drewN | apply below_drew1 | refine below_set ?_ (IsS136.ge HI0.out) | refine below_set ?_ GE181.out) | exact HB.out)); rintro e w7 ⟨rfl, hi, hb, hk⟩; refine ⟨_, rfl, ?_⟩; have n0_ := Aside0.mk (KeepBut.blk hk (g' := gb181) (o := .cells #[.int .i64 0, .string (⟨#[]⟩ : ByteArray), .string (⟨#[]⟩ : ByteArray), .int .u64 0] 48 (0, 0)) (by (with_reducible repeat (first | refine blk_drewN ?_ _ | refine blk_drew ?_ | refine blk_alloc ?_ _)); exact BK181.out) NB181_0.out (by simp)); have n1_ := Aside0.mk (KeepBut.trans (by repeat (first | (with_reducible first | exact HK.out | apply KeepBut.set_ | apply keep_drewN | apply keep_drew | apply keep_alloc | refine keep_far ?_ GW181.out _) | exact HK.out)) hk (.inl rfl)); have n2_ := Aside0.mk (hb); have n3_ := Aside0.mk (hi); clear BK181; clear HK; clear HB; clear HI0; have BK181 := n0_; have HK := n1_; have HB := n2_; have HI0 := n3_; clear n0_ n1_ n2_ n3_; (try clear hb); (try clear hb2); (try clear hk); (try clear hi)) | ((with_reducible refine gate_callee (f := 74) rfl ?_); refine goesL_ (some 10) rfl rfl Try.func74 (by kernel_rfl) rfl #[.pointer (some ⟨g, 0, none⟩)] rfl (by (try simp only [List.map_toArray, List.map_cons, List.map_nil]); first | done | rfl | (simp only [List.length_drop, List.length_take]; rfl)) ?_; (with_reducible refine (flat_reader_text.calls k g t183 t184 t185 t186 t187 w0 _ ?side1 ?side2 A3.out).mono ?_); (case side1 => repeat (first | (with_reducible first | exact HI0.out | apply IsS136.alloc | apply IsS136.drewN | apply IsS136.drew | apply IsS136.set_0 | apply IsS136.set_1 | refine IsS136.far ?_ NB0_181.out _) | exact HI0.out)); (case side2 => repeat (first | (with_reducible first | exact HB.out | apply below_alloc | apply pw_below_drewN | apply below_drew1 | refine below_set ?_ (IsS136.ge HI0.out) | refine below_set ?_ GE181.out) | exact HB.out)); rintro e w8 ⟨rfl, hi, hb, hk⟩; refine ⟨_, rfl, ?_⟩; have n0_ := Aside0.mk (KeepBut.blk hk (g' := gb181) (o := .cells #[.int .i64 0, .string (⟨#[]⟩ : ByteArray), .string (⟨#[]⟩ : ByteArray), .int .u64 0] 48 (0, 0)) (by (with_reducible repeat (first | refine blk_drewN ?_ _ | refine blk_drew ?_ | refine blk_alloc ?_ _)); exact BK181.out) NB181_0.out (by simp)); have n1_ := Aside0.mk (KeepBut.trans (by repeat (first | (with_reducible first | exact HK.out | apply KeepBut.set_ | apply keep_drewN | apply keep_drew | apply keep_alloc | refine keep_far ?_ GW181.out _) | exact HK.out)) hk (.inl rfl)); have n2_ := Aside0.mk (hb); have n3_ := Aside0.mk (hi); clear BK181; clear HK; clear HB; clear HI0; have BK181 := n0_; have HK := n1_; have HB := n2_; have HI0 := n3_; clear n0_ n1_ n2_ n3_; (try clear hb); (try clear hb2); (try clear hk); (try clear hi)) | ((with_reducible refine gate_callee (f := 74) rfl ?_); refine goesL_ (some 12) rfl rfl Try.func74 (by kernel_rfl) rfl #[.pointer (some ⟨g, 0, none⟩)] rfl (by (try simp only [List.map_toArray, List.map_cons, List.map_nil]); first | done | rfl | (simp only [List.length_drop, List.length_take]; rfl)) ?_; (with_reducible refine (flat_reader_text.calls k g t186 t187 t188 t189 t190 w0 _ ?side1 ?side2 A4.out).mono ?_); (case side1 => repeat (first | (with_reducible first | exact HI0.out | apply IsS136.alloc | apply IsS136.drewN | apply IsS136.drew | apply IsS136.set_0 | apply IsS136.set_1 | refine IsS136.far ?_ NB0_181.out _) | exact HI0.out)); (case side2 => repeat (first | (with_reducible first | exact HB.out | apply below_alloc | apply pw_below_drewN | apply below_drew1 | refine below_set ?_ (IsS136.ge HI0.out) | refine below_set ?_ GE181.out) | exact HB.out)); rintro e w9 ⟨rfl, hi, hb, hk⟩; refine ⟨_, rfl, ?_⟩; have n0_ := Aside0.mk (KeepBut.blk hk (g' := gb181) (o := .cells #[.int .i64 0, .string (⟨#[]⟩ : ByteArray), .string (⟨#[]⟩ : ByteArray), .int .u64 0] 48 (0, 0)) (by (with_reducible repeat (first | refine blk_drewN ?_ _ | refine blk_drew ?_ | refine blk_alloc ?_ _)); exact BK181.out) NB181_0.out (by simp)); have n1_ := Aside0.mk (KeepBut.trans (by repeat (first | (with_reducible first | exact HK.out | apply KeepBut.set_ | apply keep_drewN | apply keep_drew | apply keep_alloc | refine keep_far ?_ GW181.out _) | exact HK.out)) hk (.inl rfl)); have n2_ := Aside0.mk (hb); have n3_ := Aside0.mk (hi); clear BK181; clear HK; clear HB; clear HI0; have BK181 := n0_; have HK := n1_; have HB := n2_; have HI0 := n3_; clear n0_ n1_ n2_ n3_; (try clear hb); (try clear hb2); (try clear hk); (try clear hi)) | ((with_reducible refine gate_callee (f := 73) rfl ?_); refine goesL_ (some 17) rfl rfl Try.func73 (by kernel_rfl) rfl #[.pointer (some ⟨g, 0, none⟩), .int .i64 8] rfl (by (try simp only [List.map_toArray, List.map_cons, List.map_nil]); first | done | rfl | (simp only [List.length_drop, List.length_take]; rfl)) ?_; (with_reducible refine (flat_reader_num.calls k g t189 t190 8 t191 t192 t193 w0 _ ?side1 ?side2 A5.out).mono ?_); (case side1 => repeat (first | (with_reducible first | exact HI0.out | apply IsS136.alloc | apply IsS136.drewN | apply IsS136.drew | apply IsS136.set_0 | apply IsS136.set_1 | refine IsS136.far ?_ NB0_181.out _) | exact HI0.out)); (case side2 => repeat (first | (with_reducible first | exact HB.out | apply below_alloc | apply pw_below_drewN | apply below_drew1 | refine below_set ?_ (IsS136.ge HI0.out) | refine below_set ?_ GE181.out) | exact HB.out)); rintro e w10 ⟨rfl, hi, hb, hk⟩; refine ⟨_, rfl, ?_⟩; have n0_ := Aside0.mk (KeepBut.blk hk (g' := gb181) (o := .cells #[.int .i64 0, .string (⟨#[]⟩ : ByteArray), .string (⟨#[]⟩ : ByteArray), .int .u64 0] 48 (0, 0)) (by (with_reducible repeat (first | refine blk_drewN ?_ _ | refine blk_drew ?_ | refine blk_alloc ?_ _)); exact BK181.out) NB181_0.out (by simp)); have n1_ := Aside0.mk (KeepBut.trans (by repeat (first | (with_reducible first | exact HK.out | apply KeepBut.set_ | apply keep_drewN | apply keep_drew | apply keep_alloc | refine keep_far ?_ GW181.out _) | exact HK.out)) hk (.inl rfl)); have n2_ := Aside0.mk (hb); have n3_ := Aside0.mk (hi); clear BK181; clear HK; clear HB; clear HI0; have BK181 := n0_; have HK := n1_; have HB := n2_; have HI0 := n3_; clear n0_ n1_ n2_ n3_; (try clear hb); (try clear hb2); (try clear hk); (try clear hi); have hnb11 := NB181_0.out; have hnc11 := NB0_181.out; have hcz12_0 : w10.cell? ⟨gb181, 0, none⟩ = some (.int .i64 0) := (blk_cell BK181.out 0).trans rfl; have hcz12_1 : w10.cell? ⟨gb181, 1, none⟩ = some (.string (⟨#[]⟩ : ByteArray)) := (blk_cell BK181.out 1).trans rfl; have hcz12_2 : w10.cell? ⟨gb181, 2, none⟩ = some (.string (⟨#[]⟩ : ByteArray)) := (blk_cell BK181.out 2).trans rfl; have hcz12_3 : w10.cell? ⟨gb181, 3, none⟩ = some (.int .u64 0) := (blk_cell BK181.out 3).trans rfl; have hfz12_0 := blk_frozen BK181.out 0; have hfz12_1 := blk_frozen BK181.out 1; have hfz12_2 := blk_frozen BK181.out 2; have hfz12_3 := blk_frozen BK181.out 3))
  refine bodyPost_ret (results_cell_row rfl _ _ gb181 48 #[.int .i64 (wrap64 (t182)), .string t185, .string t188, .int .u64 t191] (0, 0) _ rfl (by (with_reducible repeat (first | refine blk_drewN ?_ _ | refine blk_drew ?_ | refine blk_alloc ?_ _)); refine blk_put (cs := #[.int .i64 (wrap64 (t182)), .string t185, .string t188, .int .u64 0]) ?_ 3 _ rfl; (with_reducible repeat (first | refine blk_drewN ?_ _ | refine blk_drew ?_ | refine blk_alloc ?_ _)); refine blk_put (cs := #[.int .i64 (wrap64 (t182)), .string t185, .string (⟨#[]⟩ : ByteArray), .int .u64 0]) ?_ 2 _ rfl; (with_reducible repeat (first | refine blk_drewN ?_ _ | refine blk_drew ?_ | refine blk_alloc ?_ _)); refine blk_put (cs := #[.int .i64 (wrap64 (t182)), .string (⟨#[]⟩ : ByteArray), .string (⟨#[]⟩ : ByteArray), .int .u64 0]) ?_ 1 _ rfl; (with_reducible repeat (first | refine blk_drewN ?_ _ | refine blk_drew ?_ | refine blk_alloc ?_ _)); refine blk_put (cs := #[.int .i64 0, .string (⟨#[]⟩ : ByteArray), .string (⟨#[]⟩ : ByteArray), .int .u64 0]) ?_ 0 _ rfl; (with_reducible repeat (first | refine blk_drewN ?_ _ | refine blk_drew ?_ | refine blk_alloc ?_ _)); exact BK181.out) Try.underlying48 rfl (by kernel_rfl)) rfl ?_
  exact ⟨by first | rfl | (simp [errW_none, errW_some] <;> rfl) | (simp [*, errW_none, errW_some] <;> rfl), by repeat (first | (with_reducible first | exact HI0.out | apply IsS136.alloc | apply IsS136.drewN | apply IsS136.drew | apply IsS136.set_0 | apply IsS136.set_1 | refine IsS136.far ?_ NB0_181.out _) | exact HI0.out), by repeat (first | (with_reducible first | exact HB.out | apply below_alloc | apply pw_below_drewN | apply below_drew1 | refine below_set ?_ (IsS136.ge HI0.out) | refine below_set ?_ GE181.out) | exact HB.out), by repeat (first | (with_reducible first | exact HK.out | apply KeepBut.set_ | apply keep_drewN | apply keep_drew | apply keep_alloc | refine keep_far ?_ GW181.out _) | exact HK.out)⟩

/-! ### flat_TakeNotes: function 27 -/


def flat_TakeNotes.l0 : Nat → ByteArray → Bool → List (S48) → Int → Int → Option (List (S48) × ByteArray × Int)
  | 0, _, _, _, _, _ => none
  | k + 1, s, bad, out, n, i => if i < n then ((flat_TakeNotes_1.f k s bad).bind fun q => (if q.2.2.2.2.2 = true then (some (([] : List (S48)), (⟨#[]⟩ : ByteArray), 2)) else ((note_Right.f k q.1 q.2.1 q.2.2.1 q.2.2.2.1).bind fun m => (if m = true then (if out.length < 2932031007402 then (flat_TakeNotes.l0 k q.2.2.2.2.1 q.2.2.2.2.2 (out ++ [⟨q.1, q.2.1, q.2.2.1, q.2.2.2.1⟩]) n (IntKind.u64.wrap (i + 1))) else (none)) else (some (([] : List (S48)), (⟨#[]⟩ : ByteArray), 2)))))) else (if bad = true then (some (([] : List (S48)), (⟨#[]⟩ : ByteArray), 2)) else (some (out, s, 0)))
def flat_TakeNotes.f (k : Nat) (a0 : ByteArray) : Option (List (S48) × ByteArray × Int) := (flat_reader_num.f k a0 false 2).bind fun p => flat_TakeNotes.l0 k p.2.1 p.2.2 ([] : List (S48)) p.1 0
theorem flat_TakeNotes.mono_l : ∀ k, (∀ y0 y1 y2 y3 y4, LeO (flat_TakeNotes.l0 k y0 y1 y2 y3 y4) (flat_TakeNotes.l0 (k + 1) y0 y1 y2 y3 y4))
  | 0 => fun _ _ _ _ _ r h => by simp [flat_TakeNotes.l0] at h
  | k + 1 => by
    have ih := flat_TakeNotes.mono_l k
    intro y0 y1 y2 y3 y4
    unfold flat_TakeNotes.l0
    refine LeO.ite (LeO.bind (flat_TakeNotes_1.mono _ _ _) fun _ => LeO.ite (LeO.refl _) (LeO.bind (note_Right.mono _ _ _ _ _) fun _ => LeO.ite (LeO.ite (ih _ _ _ _ _) (LeO.none _)) (LeO.refl _))) (LeO.refl _)
theorem flat_TakeNotes.mono : ∀ a0 k, LeO (flat_TakeNotes.f k a0) (flat_TakeNotes.f (k + 1) a0) := by
  intro a0 k
  unfold flat_TakeNotes.f
  exact LeO.bind (flat_reader_num.mono _ _ _ _) fun _ => flat_TakeNotes.mono_l k _ _ _ _ _
set_option maxHeartbeats 8000000 in
set_option maxRecDepth 100000 in
theorem flat_TakeNotes.take (k : Nat) (a0 : ByteArray) (r1 : List (S48)) (r2 : ByteArray) (r3 : Int) (w : World) (h : flat_TakeNotes.f k a0 = some (r1, r2, r3)) :
    Calls Try.prog 71 #[.string a0, .func (.func 53) #[] #[], .func (.func 72) #[] #[]] w fun e w' => ∃ v0_ : Value, e = .returned (.tuple #[v0_, .string r2, .int .i64 r3]) ∧ Kd.R k48 48 w' w.heap.size (fun _ => True) v0_ r1 ∧ Below w.heap.size w w' := by
  have hu48 := Try.underlying48
  unfold flat_TakeNotes.f at h
  obtain ⟨⟨p1, p2, p3⟩, A, h⟩ := Option.bind_eq_some_iff.mp h
  have HA := Aside0.mk A
  have H0 := Aside0.mk h
  clear A h
  go_enter Try.func71, Try.ntmps71
  go_wp2_with (go_at_call 73; (with_reducible refine (flat_reader_num.calls k w.heap.size a0 false 2 p1 p2 p3 w _ (IsS136.new w w a0 false (Below.refl _ _)) (below_alloc (Below.refl _ _) _) HA.out).mono ?_); rintro e w1 ⟨rfl, hI, hB, hK⟩; have HI := Aside0.mk hI; have HB := Aside0.mk hB; clear hI hB hK)
  go_loopg [10, 17] k (fun kq v10 v17 w' => ∃ (i : Int) (s : ByteArray) (bad : Bool) (out : List (S48)), v17 = .int .u64 i ∧ Aside0 (flat_TakeNotes.l0 kq s bad out p1 i = some (r1, r2, r3)) ∧ Aside0 (kq ≤ k) ∧ Aside0 (IsS136 w w' w.heap.size s bad) ∧ Aside0 (Below w.heap.size w w') ∧ Aside0 (Kd.R k48 48 w' w.heap.size (fun k_ => k_ ≠ w.heap.size) v10 out))
  case atStart => exact ⟨0, p2, p3, [], (by first | rfl | (simp; done)), H0, ⟨Nat.le_refl _⟩, HI, HB, ⟨Kd.R_nil _ _ _ _ _⟩⟩
  case round =>
    clear H0 HI HB HA
    obtain ⟨i, s, bad, out, rfl, HA, HK1, HI, HB, HO⟩ := hrel
    cases gk with
    | zero => exact absurd HA.out (by simp [flat_TakeNotes.l0])
    | succ k1 =>
      have H := HA.out
      clear HA
      simp only [flat_TakeNotes.l0] at H
      by_cases c2 : i < p1
      · rw [if_pos c2] at H
        have c2b0 : decide (i < p1) = true := decide_eq_true c2
        clear c2
        obtain ⟨⟨t0, t1, t2, t3, s1, bad1⟩, A1, H⟩ := Option.bind_eq_some_iff.mp H
        simp only at H
        have HA1 := Aside0.mk A1
        clear A1
        cases bad1 with
        | true =>
          rw [if_pos rfl] at H
          simp only [Option.some.injEq, Prod.mk.injEq] at H
          obtain ⟨rfl, rfl, rfl⟩ := H
          go_wp2_with (go_at_call 72; (with_reducible refine (flat_TakeNotes_1.calls k1 w.heap.size s bad t0 t1 t2 t3 s1 true w _ HI.out HB.out HA1.out).mono ?_); rintro e w5 ⟨rfl, hI, hB, hK⟩; have HO5 := Aside0.mk (Kd.R_keep HO.out hK (fun _ h => h)); have HI5 := Aside0.mk hI; have HB5 := Aside0.mk hB; have hlt5 := hI.lt; have hle5 := hB.size; have hy0 : w5.cell? ⟨w.heap.size, 0, none⟩ = some (.string s1) := (blk_cell hI.1 0).trans rfl; have hy1 : w5.cell? ⟨w.heap.size, 1, none⟩ = some (.bool true) := (blk_cell hI.1 1).trans rfl; clear hI hB hK)
          go_ret3
          exact ⟨_, rfl, Kd.R_nil _ _ _ _ _, below_alloc HB5.out _⟩
        | false =>
          rw [if_neg (by decide)] at H
          obtain ⟨m, A2, H⟩ := Option.bind_eq_some_iff.mp H
          have HA2 := Aside0.mk A2
          clear A2
          cases m with
          | false =>
            rw [if_neg (by decide)] at H
            simp only [Option.some.injEq, Prod.mk.injEq] at H
            obtain ⟨rfl, rfl, rfl⟩ := H
            go_wp2_with (first | (go_at_call 72; (with_reducible refine (flat_TakeNotes_1.calls k1 w.heap.size s bad t0 t1 t2 t3 s1 false w _ HI.out HB.out HA1.out).mono ?_); rintro e w5 ⟨rfl, hI, hB, hK⟩; have HO5 := Aside0.mk (Kd.R_keep HO.out hK (fun _ h => h)); have HI5 := Aside0.mk hI; have HB5 := Aside0.mk hB; have hlt5 := hI.lt; have hle5 := hB.size; have hy0 : w5.cell? ⟨w.heap.size, 0, none⟩ = some (.string s1) := (blk_cell hI.1 0).trans rfl; have hy1 : w5.cell? ⟨w.heap.size, 1, none⟩ = some (.bool false) := (blk_cell hI.1 1).trans rfl; clear hI hB hK) | (go_at_call 53; (with_reducible refine (note_Right.calls k1 t0 t1 t2 t3 false _ HA2.out).mono ?_); rintro e w6 ⟨rfl, hb⟩; have BK : w6.heap[w5.heap.size]? = some (.cells #[.int .i64 t0, .string t1, .string t2, .int .u64 t3] 48 (0, 0)) := (hb.block w5.heap.size (by simp)).trans (heap_alloc_new w5 _); have hc0 := (blk_cell BK 0).trans rfl; have hz0 := blk_frozen BK 0; have hc1 := (blk_cell BK 1).trans rfl; have hz1 := blk_frozen BK 1; have hc2 := (blk_cell BK 2).trans rfl; have hz2 := blk_frozen BK 2; have hc3 := (blk_cell BK 3).trans rfl; have hz3 := blk_frozen BK 3; have HO6 := Aside0.mk (Kd.R_below (Kd.R_alloc HO5.out _) hb); have HI6 := Aside0.mk ((HI5.out.alloc _).below hb); have HB6 := Aside0.mk (below_step (below_alloc HB5.out _) hb); have hlt6 : w.heap.size < w6.heap.size := HI6.out.lt; clear hb BK))
            go_ret3
            exact ⟨_, rfl, Kd.R_nil _ _ _ _ _, HB6.out⟩
          | true =>
            rw [if_pos rfl] at H
            by_cases c3 : out.length < 2932031007402
            · rw [if_pos c3] at H
              have HL := Aside0.mk c3
              have H' := Aside0.mk H
              clear c3 H
              go_wp2_with (first | (go_at_call 72; (with_reducible refine (flat_TakeNotes_1.calls k1 w.heap.size s bad t0 t1 t2 t3 s1 false w _ HI.out HB.out HA1.out).mono ?_); rintro e w5 ⟨rfl, hI, hB, hK⟩; have HO5 := Aside0.mk (Kd.R_keep HO.out hK (fun _ h => h)); have HI5 := Aside0.mk hI; have HB5 := Aside0.mk hB; have hlt5 := hI.lt; have hle5 := hB.size; have hy0 : w5.cell? ⟨w.heap.size, 0, none⟩ = some (.string s1) := (blk_cell hI.1 0).trans rfl; have hy1 : w5.cell? ⟨w.heap.size, 1, none⟩ = some (.bool false) := (blk_cell hI.1 1).trans rfl; clear hI hB hK) | (go_at_call 53; (with_reducible refine (note_Right.calls k1 t0 t1 t2 t3 true _ HA2.out).mono ?_); rintro e w6 ⟨rfl, hb⟩; have BK : w6.heap[w5.heap.size]? = some (.cells #[.int .i64 t0, .string t1, .string t2, .int .u64 t3] 48 (0, 0)) := (hb.block w5.heap.size (by simp)).trans (heap_alloc_new w5 _); have hc0 := (blk_cell BK 0).trans rfl; have hz0 := blk_frozen BK 0; have hc1 := (blk_cell BK 1).trans rfl; have hz1 := blk_frozen BK 1; have hc2 := (blk_cell BK 2).trans rfl; have hz2 := blk_frozen BK 2; have hc3 := (blk_cell BK 3).trans rfl; have hz3 := blk_frozen BK 3; have HO6 := Aside0.mk (Kd.R_below (Kd.R_alloc HO5.out _) hb); have HI6 := Aside0.mk ((HI5.out.alloc _).below hb); have HB6 := Aside0.mk (below_step (below_alloc HB5.out _) hb); have hlt6 : w.heap.size < w6.heap.size := HI6.out.lt; clear hb BK) | (at_builtin; refine Kd.R_append k48 (w0 := w) w.heap.size rfl (.tmp 32) (.tmp 34) 22 48 (.agg #[(.int .i64 0), (.string ⟨#[]⟩), (.string ⟨#[]⟩), (.int .u64 0)]) 48 rfl Try.underlying22 info48 rfl (by decide) (by omega) u10 out ⟨t0, t1, t2, t3⟩ [.int .i64 t0, .string t1, .string t2, .int .u64 t3] (fun k_ => k_ ≠ w.heap.size) (fun _ => False) rfl rfl (k48_mkM _ _ _ ⟨t0, t1, t2, t3⟩) (fun _ hk => hk.elim) (fun k_ hk he => absurd hk (by rw [he]; exact Nat.not_le.mpr hlt6)) HO6.out HB6.out (Nat.le_of_lt hlt6) (by have := HL.out; omega) ?_; intro v1 w7 ho hb hg hat; have HI7 := Aside0.mk (HI6.out.grown hg (HI6.out.own_ne HO6.out (by decide))); have HO7 := Aside0.mk ho; have HB7 := Aside0.mk hb; clear ho hb hg hat))
              go_roundg k1
              case measure => have := HK1.out; omega
              case rel => exact ⟨(IntKind.u64.wrap (i + 1)), s1, false, out ++ [⟨t0, t1, t2, t3⟩], (by first | rfl | (simp; done) | (simp [*]; done)), H', ⟨by have := HK1.out; omega⟩, HI7, HB7, HO7⟩
            · rw [if_neg c3] at H
              exact absurd H (by simp)
      · rw [if_neg c2] at H
        have c2b0 : decide (i < p1) = false := decide_eq_false c2
        clear c2
        have BK : wr.heap[w.heap.size]? = some (.cells #[.string s, .bool bad] 136 (0, 0)) := HI.out.1
        have hy0 : wr.cell? ⟨w.heap.size, 0, none⟩ = some (.string s) := (blk_cell BK 0).trans rfl
        have hy1 : wr.cell? ⟨w.heap.size, 1, none⟩ = some (.bool bad) := (blk_cell BK 1).trans rfl
        clear BK
        cases bad with
        | true =>
          rw [if_pos rfl] at H
          simp only [Option.some.injEq, Prod.mk.injEq] at H
          obtain ⟨rfl, rfl, rfl⟩ := H
          go_wp2
          go_ret3
          exact ⟨_, rfl, Kd.R_nil _ _ _ _ _, HB.out⟩
        | false =>
          rw [if_neg (by decide)] at H
          simp only [Option.some.injEq, Prod.mk.injEq] at H
          obtain ⟨rfl, rfl, rfl⟩ := H
          go_wp2
          go_quiet (fail)
          go_wp2
          go_ret3
          exact ⟨_, rfl, Kd.R_mono (Kd.R_drewN HO.out _) (fun _ _ => trivial), pw_below_drewN HB.out _⟩
set_option maxHeartbeats 8000000 in
theorem flat_TakeNotes.calls (k : Nat) (a0 : ByteArray) (r1 : List (S48)) (r2 : ByteArray) (r3 : Int) (w : World) (h : flat_TakeNotes.f k a0 = some (r1, r2, r3)) :
    Calls Try.prog 27 #[.string a0] w fun e w' => ∃ v0_ : Value, e = .returned (.tuple #[v0_, .string r2, .int .i64 r3]) ∧ Kd.R k48 48 w' w.heap.size (fun _ => True) v0_ r1 ∧ Below w.heap.size w w' := by
  have HL := Aside0.mk (flat_TakeNotes.take k a0 r1 r2 r3 w h)
  clear h
  go_enter Try.func27, Try.ntmps27
  go_wp2_with (go_at_call 71; (with_reducible refine HL.out.mono ?_); rintro e w5 ⟨v0, rfl, hR, hb⟩)
  go_ret3
  exact ⟨v0, rfl, hR, hb⟩


end Go.Proofs.Ythidkdlmpkeogaa.F

/- Contracts of Go functions of the seat Ytgccimhdbphenaa: what a call comes to; no condition but those that each theorem names. -/
import Derived.Test.YtgccimhdbphenaaFPre
import Derived.Test.YtgccimhdbphenaaFpack
namespace Go.Proofs.Ytgccimhdbphenaa.F
open Go.RowKit Go.Proofs.YtgccimhdbphenaaW.PrintWords Go.Proofs.YtgccimhdbphenaaW.PrintLast Go.Proofs.YtgccimhdbphenaaW.PrintMore
attribute [local go_sem] max2_int min2_int max_two min_two max_three min_three max_four min_four   -- for this text's walks alone
set_option linter.unusedVariables false
set_option linter.unusedSimpArgs false

/-! ### note_Number: function 33 -/
def note_Number.f (k : Nat) (a0 : ByteArray) : Option (Int) := if (a0.size : Int) = 8 then ((pack_Take.f k a0 8).bind fun bt287 => (some bt287.1)) else (some 0)
theorem note_Number.mono : ∀ a0 k, LeO (note_Number.f k a0) (note_Number.f (k + 1) a0) := by
  intro a0 k
  unfold note_Number.f
  repeat' first
      | (with_reducible exact pack_Take.mono _ _ _)
      | (with_reducible exact LeO.refl _)
      | (with_reducible exact LeO.none _)
      | (with_reducible refine LeO.ite ?_ ?_)
      | (with_reducible refine LeO.bind ?_ (fun _ => ?_))
      | exact pack_Take.mono _ _ _
      | exact LeO.none _
      | refine LeO.ite ?_ ?_
      | refine LeO.bind ?_ (fun _ => ?_)
set_option maxHeartbeats 8000000 in
set_option maxRecDepth 100000 in
theorem note_Number.calls (k : Nat) (a0 : ByteArray) (r : Int) (w : World) (h : note_Number.f k a0 = some r) :
    Calls Try.prog 33 #[.string a0] w fun e w' => e = .returned (.int .u64 r) ∧ Drawn0 w w' := by
  have H : (if (a0.size : Int) = 8 then ((pack_Take.f k a0 8).bind fun bt287 => (some bt287.1)) else (some 0)) = some r := h
  clear h
  by_cases c2 : (a0.size : Int) = 8
  · rw [if_pos c2] at H
    have c2b0 : ((a0.size : Int) == 8) = true := beq_iff_eq.mpr c2
    have c2b1 : ((a0.size : Int) != 8) = false := bne_eq_false_iff_eq.mpr c2
    clear c2
    replace H := Option.bind_eq_some_iff.mp H
    obtain ⟨⟨t287, t288, t289⟩, A30, H⟩ := H
    replace H : (some t287) = some r := H
    have A3 := Aside0.mk A30
    clear A30
    obtain rfl := Option.some.inj H
    go_enter Try.func33, Try.ntmps33
    go_wp2_with (first | ((with_reducible refine gate_callee (f := 18) rfl ?_); refine goesL_ (some 11) rfl rfl Try.func18 (by kernel_rfl) rfl #[.string a0, .int .i64 8] rfl (by (try simp only [List.map_toArray, List.map_cons, List.map_nil]); first | done | rfl | (simp only [List.length_drop, List.length_take]; rfl)) ?_; (with_reducible refine (pack_Take.calls k a0 8 t287 t288 t289 _ A3.out).mono ?_); rintro e w' ⟨rfl, ⟨nd, rfl⟩⟩; refine ⟨_, rfl, ?_⟩))
    go_ret
    exact ⟨by first | rfl | (simp; done) | (simp [*]; done), by repeat (first | exact Drawn0.refl _ | apply Drawn0.step)⟩
  · rw [if_neg c2] at H
    have c2b0 : ((a0.size : Int) == 8) = false := beq_eq_false_iff_ne.mpr c2
    have c2b1 : ((a0.size : Int) != 8) = true := bne_iff_ne.mpr c2
    obtain rfl := Option.some.inj H
    go_enter Try.func33, Try.ntmps33
    go_wp2
    go_ret
    exact ⟨by first | rfl | (simp; done) | (simp [*]; done), by repeat (first | exact Drawn0.refl _ | apply Drawn0.step)⟩

/-! ### note_Done: function 30 -/
mutual
def note_Done.j0 : Nat → ByteArray → Bool → List (S55) → Option (ByteArray × Bool)
  | 0, _, _, _ => none
  | k + 1, x0, x1, x2 => note_Done.l0 k x0 x1 x2 (x2.length : Int) 0
def note_Done.l0 : Nat → ByteArray → Bool → List (S55) → Int → Int → Option (ByteArray × Bool)
  | 0, _, _, _, _, _ => none
  | k + 1, x0, x1, x14, x15, x16 => if x16 < x15 then (if 0 ≤ x16 then (if x16 < (x14.length : Int) then (if ((rd_T55 x14 x16).f0) = 1 then (note_Done.l0 k ((rd_T55 x14 x16).f2) true x14 x15 (wrap64 (x16 + 1))) else (if ((rd_T55 x14 x16).f0) = 2 then (note_Done.l0 k (⟨#[]⟩ : ByteArray) false x14 x15 (wrap64 (x16 + 1))) else (if ((rd_T55 x14 x16).f0) = 3 then ((note_Number.f k x0).bind fun t292 => ((pack_Num.f k (IntKind.u64.wrap (t292 + ((rd_T55 x14 x16).f3))) 8).bind fun bt293 => (note_Done.l0 k bt293.1 true x14 x15 (wrap64 (x16 + 1))))) else (note_Done.l0 k x0 x1 x14 x15 (wrap64 (x16 + 1)))))) else (none)) else (none)) else (some (x0, x1))
end
def note_Done.f (k : Nat) (a0 : ByteArray) (a1 : Bool) (l2 : List (S55)) : Option (ByteArray × Bool) := if a1 = true then (note_Done.j0 k a0 a1 l2) else (note_Done.j0 k (⟨#[]⟩ : ByteArray) a1 l2)
theorem note_Done.mono_l : ∀ k, (∀ y0 y1 y2, LeO (note_Done.j0 k y0 y1 y2) (note_Done.j0 (k + 1) y0 y1 y2)) ∧ (∀ y0 y1 y2 y3 y4, LeO (note_Done.l0 k y0 y1 y2 y3 y4) (note_Done.l0 (k + 1) y0 y1 y2 y3 y4))
  | 0 => ⟨fun _ _ _ r h => by simp [note_Done.j0] at h, fun _ _ _ _ _ r h => by simp [note_Done.l0] at h⟩
  | k + 1 => by
    obtain ⟨ih0, ih1⟩ := note_Done.mono_l k
    refine ⟨?_, ?_⟩
    · intro y0 y1 y2
      unfold note_Done.j0
      repeat' first
      | (with_reducible exact ih0 _ _ _)
      | (with_reducible exact ih1 _ _ _ _ _)
      | (with_reducible exact note_Number.mono _ _)
      | (with_reducible exact pack_Num.mono _ _ _)
      | (with_reducible exact LeO.refl _)
      | (with_reducible exact LeO.none _)
      | (with_reducible refine LeO.ite ?_ ?_)
      | (with_reducible refine LeO.bind ?_ (fun _ => ?_))
      | exact ih0 _ _ _
      | exact ih1 _ _ _ _ _
      | exact note_Number.mono _ _
      | exact pack_Num.mono _ _ _
      | exact LeO.none _
      | refine LeO.ite ?_ ?_
      | refine LeO.bind ?_ (fun _ => ?_)
    · intro y0 y1 y2 y3 y4
      unfold note_Done.l0
      repeat' first
      | (with_reducible exact ih0 _ _ _)
      | (with_reducible exact ih1 _ _ _ _ _)
      | (with_reducible exact note_Number.mono _ _)
      | (with_reducible exact pack_Num.mono _ _ _)
      | (with_reducible exact LeO.refl _)
      | (with_reducible exact LeO.none _)
      | (with_reducible refine LeO.ite ?_ ?_)
      | (with_reducible refine LeO.bind ?_ (fun _ => ?_))
      | exact ih0 _ _ _
      | exact ih1 _ _ _ _ _
      | exact note_Number.mono _ _
      | exact pack_Num.mono _ _ _
      | exact LeO.none _
      | refine LeO.ite ?_ ?_
      | refine LeO.bind ?_ (fun _ => ?_)
theorem note_Done.mono : ∀ a0 a1 a2 k, LeO (note_Done.f k a0 a1 a2) (note_Done.f (k + 1) a0 a1 a2) := by
  intro a0 a1 a2 k
  obtain ⟨ih0, ih1⟩ := note_Done.mono_l k
  unfold note_Done.f
  repeat' first
      | (with_reducible exact ih0 _ _ _)
      | (with_reducible exact ih1 _ _ _ _ _)
      | (with_reducible exact note_Number.mono _ _)
      | (with_reducible exact pack_Num.mono _ _ _)
      | (with_reducible exact LeO.refl _)
      | (with_reducible exact LeO.none _)
      | (with_reducible refine LeO.ite ?_ ?_)
      | (with_reducible refine LeO.bind ?_ (fun _ => ?_))
      | exact ih0 _ _ _
      | exact ih1 _ _ _ _ _
      | exact note_Number.mono _ _
      | exact pack_Num.mono _ _ _
      | exact LeO.none _
      | refine LeO.ite ?_ ?_
      | refine LeO.bind ?_ (fun _ => ?_)
def note_Done.T12 : Bool × List (List Nat × List Nat) := (true, [([], []), ([0], [0]), ([], []), ([2], [2]), ([1, 3], [1, 3]), ([4, 1], [4]), ([5], [5]), ([6], [6]), ([6], [6]), ([7, 5, 0, 1, 2, 3, 4, 5, 6, 7], [7]), ([8, 9, 0, 1, 2, 3, 4, 5, 6, 7, 8, 9], [8])])
def note_Done.B12 : List Nat := [0, 1, 0, 4, 15, 31, 63, 127, 127, 255, 1023]
theorem note_Done.tab12 : rtab .any (opsOf Try.f30 12) = note_Done.T12 := by kernel_rfl
theorem note_Done.bits12 : waitsOk note_Done.T12.2 note_Done.B12 = true := by kernel_rfl
set_option maxHeartbeats 8000000 in
set_option maxRecDepth 100000 in
theorem note_Done.calls (k : Nat) (a0 : ByteArray) (a1 : Bool) (A2 : Option Addr) (c2 : Nat) (l2 : List (S55)) (r1 : ByteArray) (r2 : Bool) (w : World) (hr2 : Kd.C k55 w A2 l2.length l2) (hc2 : l2.length ≤ c2) (h : note_Done.f k a0 a1 l2 = some (r1, r2)) :
    Calls Try.prog 30 #[.string a0, .bool a1, .slice A2 l2.length c2] w fun e w' => e = .returned (.tuple #[.string r1, .bool r2]) ∧ Below w.heap.size w w' := by
  have hu55 := Try.underlying55
  have HR2 := Aside0.mk hr2
  have HC2 := Aside0.mk hc2
  clear hr2 hc2
  have HB := Aside0.mk (Below.refl w.heap.size w)
  have H : (if a1 = true then (note_Done.j0 k a0 a1 l2) else (note_Done.j0 k (⟨#[]⟩ : ByteArray) a1 l2)) = some (r1, r2) := h
  clear h
  have HC4 := Aside0.mk H
  clear H
  go_enter Try.func30, Try.ntmps30
  go_upto_if 13 with (fail)
  go_cut [0] (fun v0 wc => ∃ (kq : Nat) (x0_3 : ByteArray), v0 = .string x0_3 ∧ Aside0 (note_Done.j0 kq x0_3 a1 l2 = some (r1, r2)) ∧ Aside0 (kq ≤ k) ∧ Aside0 (Below w.heap.size w wc))
  case first =>
    have H := HC4.out
    clear HC4
    by_cases c5 : a1 = true
    · subst c5
      have H1 : (note_Done.j0 k a0 true l2) = some (r1, r2) := by rw [if_pos rfl] at H; exact H
      clear H
      have H := H1
      clear H1
      have H' := Aside0.mk H
      clear H
      go_wp2
      go_meet
      case rel => exact ⟨_, (a0), (by first | rfl | (simp; done) | (simp [*]; done)), H', ⟨by first | omega | exact Nat.le_refl _⟩, ⟨by repeat (first | (with_reducible first | exact HB.out | apply below_alloc | apply pw_below_drewN | apply below_drew1) | exact HB.out)⟩⟩
    · replace c5 := Bool.eq_false_iff.mpr c5
      subst c5
      have H1 : (note_Done.j0 k (⟨#[]⟩ : ByteArray) false l2) = some (r1, r2) := by rw [if_neg (show ¬ (false = true) by decide)] at H; exact H
      clear H
      have H := H1
      clear H1
      have H' := Aside0.mk H
      clear H
      go_wp2
      go_meet
      case rel => exact ⟨_, ((⟨#[]⟩ : ByteArray)), (by first | rfl | (simp; done) | (simp [*]; done)), H', ⟨by first | omega | exact Nat.le_refl _⟩, ⟨by repeat (first | (with_reducible first | exact HB.out | apply below_alloc | apply pw_below_drewN | apply below_drew1) | exact HB.out)⟩⟩
  case rest =>
    clear HC4
    try clear c2
    try clear p2
    try clear c3
    try clear c5
    obtain ⟨kq, x0_3, rfl, HA, HJ3, HB⟩ := hcut
    cases kq with
    | zero => exact absurd HA.out (by simp [note_Done.j0])
    | succ kj3 =>
      have H := HA.out
      clear HA
      simp only [note_Done.j0] at H
      have H' := Aside0.mk H
      clear H
      go_wp2
      go_loopg [0, 1, 16] kj3 (fun kq v0 v1 v16 w' => ∃ (x0_2 : ByteArray) (x1_2 : Bool) (x16_2 : Int), v0 = .string x0_2 ∧ v1 = .bool x1_2 ∧ v16 = .int .i64 x16_2 ∧ Aside0 (note_Done.l0 kq x0_2 x1_2 l2 (l2.length : Int) x16_2 = some (r1, r2)) ∧ Aside0 (kq ≤ kj3) ∧ Aside0 (Below w.heap.size w w'))
      case atStart => exact ⟨(x0_3), (a1), (0), (by first | rfl | (simp; done) | (simp [*]; done)), (by first | rfl | (simp; done) | (simp [*]; done)), (by first | rfl | (simp; done) | (simp [*]; done)), H', ⟨Nat.le_refl _⟩, ⟨by repeat (first | (with_reducible first | exact HB.out | apply below_alloc | apply pw_below_drewN | apply below_drew1) | exact HB.out)⟩⟩
      case round =>
        clear H'
        try clear c2
        try clear p2
        try clear c3
        try clear c5
        try clear p2
        obtain ⟨x0_2, x1_2, x16_2, rfl, rfl, rfl, HA, HK2, HB⟩ := hrel
        cases gk with
        | zero => exact absurd HA.out (by simp [note_Done.l0])
        | succ k2 =>
          have H := HA.out
          clear HA
          simp only [note_Done.l0] at H
          by_cases c6 : x16_2 < (l2.length : Int)
          · rw [if_pos c6] at H
            have c6b0 : decide (x16_2 < (l2.length : Int)) = true := decide_eq_true c6
            clear c6
            by_cases c7 : 0 ≤ x16_2
            · rw [if_pos c7] at H
              have c7b0 : decide (0 ≤ x16_2) = true := decide_eq_true c7
              clear c7
              by_cases c8 : x16_2 < (l2.length : Int)
              · rw [if_pos c8] at H
                have c8b0 : decide (x16_2 < (l2.length : Int)) = true := decide_eq_true c8
                clear c8
                by_cases c9 : ((rd_T55 l2 x16_2).f0) = 1
                · rw [if_pos c9] at H
                  have c9b0 : (((rd_T55 l2 x16_2).f0) == 1) = true := beq_iff_eq.mpr c9
                  have c9b1 : (((rd_T55 l2 x16_2).f0) != 1) = false := bne_eq_false_iff_eq.mpr c9
                  clear c9
                  have H' := Aside0.mk H
                  clear H
                  have p290 : 0 ≤ (x16_2 : Int) := of_decide_eq_true (by first | (with_reducible assumption) | assumption)
                  have q290 : x16_2 < (l2.length : Int) := of_decide_eq_true (by first | (with_reducible assumption) | assumption)
                  obtain ⟨ad290, e290, hx290_0, hx290_1, hx290_2, hx290_3⟩ := at_T55 HR2.out x16_2 p290 q290
                  cases e290
                  replace hx290_0 := (HB.out.cell (World.block_lt_of_cell? w _ hx290_0)).trans hx290_0
                  replace hx290_1 := (HB.out.cell (World.block_lt_of_cell? w _ hx290_1)).trans hx290_1
                  replace hx290_2 := (HB.out.cell (World.block_lt_of_cell? w _ hx290_2)).trans hx290_2
                  replace hx290_3 := (HB.out.cell (World.block_lt_of_cell? w _ hx290_3)).trans hx290_3
                  replace p290 := eq_true p290
                  replace q290 := eq_true q290
                  go_wp2_with (first | ((with_reducible refine gate_dst (N := 9) rfl ?_); refine box_event ?hg (N := 9) ?hd (cs := #[.int .i64 0, .string (⟨#[]⟩ : ByteArray), .string (⟨#[]⟩ : ByteArray), .int .u64 0]) (t := 55) ?hr ?_; (case hd => rfl); (case hg => rfl); (case hr => first | (go_simp; done) | (go_simp; rfl)); intro gb291 hg w10 hbox hb; have n0_ := Aside0.mk (below_step (by repeat (first | (with_reducible first | exact HB.out | apply below_alloc | apply pw_below_drewN | apply below_drew1) | exact HB.out)) hb); have n1_ := Aside0.mk (hbox); have n2_ := Aside0.mk ((by rw [hg]; exact (below_size (by repeat (first | (with_reducible first | exact HB.out | apply below_alloc | apply pw_below_drewN | apply below_drew1) | exact HB.out))) : w.heap.size ≤ gb291)); have n3_ := Aside0.mk ((by rw [hg]; exact (below_size (by repeat (first | (with_reducible first | exact HB.out | apply below_alloc | apply pw_below_drewN | apply below_drew1) | exact HB.out))) : w.heap.size ≤ gb291)); clear HB; have HB := n0_; have BK291 := n1_; have GW291 := n2_; have GE291 := n3_; clear n0_ n1_ n2_ n3_; clear hb hbox hg; have hcz11_0 : w10.cell? ⟨gb291, 0, none⟩ = some (.int .i64 0) := (blk_cell BK291.out 0).trans rfl; have hcz11_1 : w10.cell? ⟨gb291, 1, none⟩ = some (.string (⟨#[]⟩ : ByteArray)) := (blk_cell BK291.out 1).trans rfl; have hcz11_2 : w10.cell? ⟨gb291, 2, none⟩ = some (.string (⟨#[]⟩ : ByteArray)) := (blk_cell BK291.out 2).trans rfl; have hcz11_3 : w10.cell? ⟨gb291, 3, none⟩ = some (.int .u64 0) := (blk_cell BK291.out 3).trans rfl; have hfz11_0 := blk_frozen BK291.out 0; have hfz11_1 := blk_frozen BK291.out 1; have hfz11_2 := blk_frozen BK291.out 2; have hfz11_3 := blk_frozen BK291.out 3))
                  go_roundg k2
                  case measure => have := HJ3.out; have := HK2.out; omega
                  case rel => exact ⟨((rd_T55 l2 x16_2).f2), (true), (wrap64 (x16_2 + 1)), (by first | rfl | (simp; done) | (simp [*]; done)), (by first | rfl | (simp; done) | (simp [*]; done)), (by first | rfl | (simp; done) | (simp [*]; done)), H', ⟨by have := HJ3.out; have := HK2.out; omega⟩, ⟨by repeat (first | (with_reducible first | exact HB.out | apply below_alloc | apply pw_below_drewN | apply below_drew1 | refine below_set ?_ GE291.out) | exact HB.out)⟩⟩
                · rw [if_neg c9] at H
                  have c9b0 : (((rd_T55 l2 x16_2).f0) == 1) = false := beq_eq_false_iff_ne.mpr c9
                  have c9b1 : (((rd_T55 l2 x16_2).f0) != 1) = true := bne_iff_ne.mpr c9
                  by_cases c12 : ((rd_T55 l2 x16_2).f0) = 2
                  · rw [if_pos c12] at H
                    have c12b0 : (((rd_T55 l2 x16_2).f0) == 2) = true := beq_iff_eq.mpr c12
                    have c12b1 : (((rd_T55 l2 x16_2).f0) != 2) = false := bne_eq_false_iff_eq.mpr c12
                    clear c12
                    have H' := Aside0.mk H
                    clear H
                    have p290 : 0 ≤ (x16_2 : Int) := of_decide_eq_true (by first | (with_reducible assumption) | assumption)
                    have q290 : x16_2 < (l2.length : Int) := of_decide_eq_true (by first | (with_reducible assumption) | assumption)
                    obtain ⟨ad290, e290, hx290_0, hx290_1, hx290_2, hx290_3⟩ := at_T55 HR2.out x16_2 p290 q290
                    cases e290
                    replace hx290_0 := (HB.out.cell (World.block_lt_of_cell? w _ hx290_0)).trans hx290_0
                    replace hx290_1 := (HB.out.cell (World.block_lt_of_cell? w _ hx290_1)).trans hx290_1
                    replace hx290_2 := (HB.out.cell (World.block_lt_of_cell? w _ hx290_2)).trans hx290_2
                    replace hx290_3 := (HB.out.cell (World.block_lt_of_cell? w _ hx290_3)).trans hx290_3
                    replace p290 := eq_true p290
                    replace q290 := eq_true q290
                    go_wp2_with (first | ((with_reducible refine gate_dst (N := 9) rfl ?_); refine box_event ?hg (N := 9) ?hd (cs := #[.int .i64 0, .string (⟨#[]⟩ : ByteArray), .string (⟨#[]⟩ : ByteArray), .int .u64 0]) (t := 55) ?hr ?_; (case hd => rfl); (case hg => rfl); (case hr => first | (go_simp; done) | (go_simp; rfl)); intro gb291 hg w13 hbox hb; have n0_ := Aside0.mk (below_step (by repeat (first | (with_reducible first | exact HB.out | apply below_alloc | apply pw_below_drewN | apply below_drew1) | exact HB.out)) hb); have n1_ := Aside0.mk (hbox); have n2_ := Aside0.mk ((by rw [hg]; exact (below_size (by repeat (first | (with_reducible first | exact HB.out | apply below_alloc | apply pw_below_drewN | apply below_drew1) | exact HB.out))) : w.heap.size ≤ gb291)); have n3_ := Aside0.mk ((by rw [hg]; exact (below_size (by repeat (first | (with_reducible first | exact HB.out | apply below_alloc | apply pw_below_drewN | apply below_drew1) | exact HB.out))) : w.heap.size ≤ gb291)); clear HB; have HB := n0_; have BK291 := n1_; have GW291 := n2_; have GE291 := n3_; clear n0_ n1_ n2_ n3_; clear hb hbox hg; have hcz14_0 : w13.cell? ⟨gb291, 0, none⟩ = some (.int .i64 0) := (blk_cell BK291.out 0).trans rfl; have hcz14_1 : w13.cell? ⟨gb291, 1, none⟩ = some (.string (⟨#[]⟩ : ByteArray)) := (blk_cell BK291.out 1).trans rfl; have hcz14_2 : w13.cell? ⟨gb291, 2, none⟩ = some (.string (⟨#[]⟩ : ByteArray)) := (blk_cell BK291.out 2).trans rfl; have hcz14_3 : w13.cell? ⟨gb291, 3, none⟩ = some (.int .u64 0) := (blk_cell BK291.out 3).trans rfl; have hfz14_0 := blk_frozen BK291.out 0; have hfz14_1 := blk_frozen BK291.out 1; have hfz14_2 := blk_frozen BK291.out 2; have hfz14_3 := blk_frozen BK291.out 3))
                    go_roundg k2
                    case measure => have := HJ3.out; have := HK2.out; omega
                    case rel => exact ⟨((⟨#[]⟩ : ByteArray)), (false), (wrap64 (x16_2 + 1)), (by first | rfl | (simp; done) | (simp [*]; done)), (by first | rfl | (simp; done) | (simp [*]; done)), (by first | rfl | (simp; done) | (simp [*]; done)), H', ⟨by have := HJ3.out; have := HK2.out; omega⟩, ⟨by repeat (first | (with_reducible first | exact HB.out | apply below_alloc | apply pw_below_drewN | apply below_drew1 | refine below_set ?_ GE291.out) | exact HB.out)⟩⟩
                  · rw [if_neg c12] at H
                    have c12b0 : (((rd_T55 l2 x16_2).f0) == 2) = false := beq_eq_false_iff_ne.mpr c12
                    have c12b1 : (((rd_T55 l2 x16_2).f0) != 2) = true := bne_iff_ne.mpr c12
                    by_cases c15 : ((rd_T55 l2 x16_2).f0) = 3
                    · rw [if_pos c15] at H
                      have c15b0 : (((rd_T55 l2 x16_2).f0) == 3) = true := beq_iff_eq.mpr c15
                      have c15b1 : (((rd_T55 l2 x16_2).f0) != 3) = false := bne_eq_false_iff_eq.mpr c15
                      clear c15
                      replace H := Option.bind_eq_some_iff.mp H
                      obtain ⟨t292, A160, H⟩ := H
                      replace H : ((pack_Num.f k2 (IntKind.u64.wrap (t292 + ((rd_T55 l2 x16_2).f3))) 8).bind fun bt293 => (note_Done.l0 k2 bt293.1 true l2 (l2.length : Int) (wrap64 (x16_2 + 1)))) = some (r1, r2) := H
                      have A16 := Aside0.mk A160
                      clear A160
                      replace H := Option.bind_eq_some_iff.mp H
                      obtain ⟨⟨t293, t294⟩, A170, H⟩ := H
                      replace H : (note_Done.l0 k2 t293 true l2 (l2.length : Int) (wrap64 (x16_2 + 1))) = some (r1, r2) := H
                      have A17 := Aside0.mk A170
                      clear A170
                      have H' := Aside0.mk H
                      clear H
                      have p290 : 0 ≤ (x16_2 : Int) := of_decide_eq_true (by first | (with_reducible assumption) | assumption)
                      have q290 : x16_2 < (l2.length : Int) := of_decide_eq_true (by first | (with_reducible assumption) | assumption)
                      obtain ⟨ad290, e290, hx290_0, hx290_1, hx290_2, hx290_3⟩ := at_T55 HR2.out x16_2 p290 q290
                      cases e290
                      replace hx290_0 := (HB.out.cell (World.block_lt_of_cell? w _ hx290_0)).trans hx290_0
                      replace hx290_1 := (HB.out.cell (World.block_lt_of_cell? w _ hx290_1)).trans hx290_1
                      replace hx290_2 := (HB.out.cell (World.block_lt_of_cell? w _ hx290_2)).trans hx290_2
                      replace hx290_3 := (HB.out.cell (World.block_lt_of_cell? w _ hx290_3)).trans hx290_3
                      replace p290 := eq_true p290
                      replace q290 := eq_true q290
                      try go_wp2_with (first | ((with_reducible refine gate_dst (N := 9) rfl ?_); refine box_event ?hg (N := 9) ?hd (cs := #[.int .i64 0, .string (⟨#[]⟩ : ByteArray), .string (⟨#[]⟩ : ByteArray), .int .u64 0]) (t := 55) ?hr ?_; (case hd => rfl); (case hg => rfl); (case hr => first | (go_simp; done) | (go_simp; rfl)); intro gb291 hg w18 hbox hb; have n0_ := Aside0.mk (below_step (by repeat (first | (with_reducible first | exact HB.out | apply below_alloc | apply pw_below_drewN | apply below_drew1) | exact HB.out)) hb); have n1_ := Aside0.mk (hbox); have n2_ := Aside0.mk ((by rw [hg]; exact (below_size (by repeat (first | (with_reducible first | exact HB.out | apply below_alloc | apply pw_below_drewN | apply below_drew1) | exact HB.out))) : w.heap.size ≤ gb291)); have n3_ := Aside0.mk ((by rw [hg]; exact (below_size (by repeat (first | (with_reducible first | exact HB.out | apply below_alloc | apply pw_below_drewN | apply below_drew1) | exact HB.out))) : w.heap.size ≤ gb291)); clear HB; have HB := n0_; have BK291 := n1_; have GW291 := n2_; have GE291 := n3_; clear n0_ n1_ n2_ n3_; clear hb hbox hg; have hcz19_0 : w18.cell? ⟨gb291, 0, none⟩ = some (.int .i64 0) := (blk_cell BK291.out 0).trans rfl; have hcz19_1 : w18.cell? ⟨gb291, 1, none⟩ = some (.string (⟨#[]⟩ : ByteArray)) := (blk_cell BK291.out 1).trans rfl; have hcz19_2 : w18.cell? ⟨gb291, 2, none⟩ = some (.string (⟨#[]⟩ : ByteArray)) := (blk_cell BK291.out 2).trans rfl; have hcz19_3 : w18.cell? ⟨gb291, 3, none⟩ = some (.int .u64 0) := (blk_cell BK291.out 3).trans rfl; have hfz19_0 := blk_frozen BK291.out 0; have hfz19_1 := blk_frozen BK291.out 1; have hfz19_2 := blk_frozen BK291.out 2; have hfz19_3 := blk_frozen BK291.out 3))
                      have n0_ : Aside0 (((((w18.setCell ⟨gb291, 0, none⟩ (.int .i64 ((rd_T55 l2 x16_2).f0))).setCell ⟨gb291, 1, none⟩ (.string ((rd_T55 l2 x16_2).f1))).setCell ⟨gb291, 2, none⟩ (.string ((rd_T55 l2 x16_2).f2))).setCell ⟨gb291, 3, none⟩ (.int .u64 ((rd_T55 l2 x16_2).f3))).heap[gb291]? = some (.cells #[.int .i64 ((rd_T55 l2 x16_2).f0), .string ((rd_T55 l2 x16_2).f1), .string ((rd_T55 l2 x16_2).f2), .int .u64 ((rd_T55 l2 x16_2).f3)] 55 (0, 0))) := ⟨by (with_reducible repeat (first | refine blk_drewN ?_ _ | refine blk_drew ?_ | refine blk_alloc ?_ _)); refine blk_put (cs := #[.int .i64 ((rd_T55 l2 x16_2).f0), .string ((rd_T55 l2 x16_2).f1), .string ((rd_T55 l2 x16_2).f2), .int .u64 0]) ?_ 3 _ rfl; (with_reducible repeat (first | refine blk_drewN ?_ _ | refine blk_drew ?_ | refine blk_alloc ?_ _)); refine blk_put (cs := #[.int .i64 ((rd_T55 l2 x16_2).f0), .string ((rd_T55 l2 x16_2).f1), .string (⟨#[]⟩ : ByteArray), .int .u64 0]) ?_ 2 _ rfl; (with_reducible repeat (first | refine blk_drewN ?_ _ | refine blk_drew ?_ | refine blk_alloc ?_ _)); refine blk_put (cs := #[.int .i64 ((rd_T55 l2 x16_2).f0), .string (⟨#[]⟩ : ByteArray), .string (⟨#[]⟩ : ByteArray), .int .u64 0]) ?_ 1 _ rfl; (with_reducible repeat (first | refine blk_drewN ?_ _ | refine blk_drew ?_ | refine blk_alloc ?_ _)); refine blk_put (cs := #[.int .i64 0, .string (⟨#[]⟩ : ByteArray), .string (⟨#[]⟩ : ByteArray), .int .u64 0]) ?_ 0 _ rfl; (with_reducible repeat (first | refine blk_drewN ?_ _ | refine blk_drew ?_ | refine blk_alloc ?_ _)); exact BK291.out⟩
                      have n1_ : Aside0 (Below w.heap.size w ((((w18.setCell ⟨gb291, 0, none⟩ (.int .i64 ((rd_T55 l2 x16_2).f0))).setCell ⟨gb291, 1, none⟩ (.string ((rd_T55 l2 x16_2).f1))).setCell ⟨gb291, 2, none⟩ (.string ((rd_T55 l2 x16_2).f2))).setCell ⟨gb291, 3, none⟩ (.int .u64 ((rd_T55 l2 x16_2).f3)))) := ⟨by repeat (first | (with_reducible first | exact HB.out | apply below_alloc | apply pw_below_drewN | apply below_drew1 | refine below_set ?_ GE291.out) | exact HB.out)⟩
                      (try clear BK291)
                      (try clear HB)
                      generalize ((((w18.setCell ⟨gb291, 0, none⟩ (.int .i64 ((rd_T55 l2 x16_2).f0))).setCell ⟨gb291, 1, none⟩ (.string ((rd_T55 l2 x16_2).f1))).setCell ⟨gb291, 2, none⟩ (.string ((rd_T55 l2 x16_2).f2))).setCell ⟨gb291, 3, none⟩ (.int .u64 ((rd_T55 l2 x16_2).f3))) = w20 at n0_ n1_ ⊢
                      have BK291 := n0_
                      have HB := n1_
                      clear n0_ n1_
                      have n0_ := Aside0.mk (blk_drew BK291.out)
                      have n1_ := Aside0.mk (below_drew1 HB.out)
                      clear BK291
                      clear HB
                      have BK291 := n0_
                      have HB := n1_
                      clear n0_ n1_
                      refine start_ (n := 11) (S := fun w' => w'.cell? ⟨gb291, 0, none⟩ = some (.int .i64 ((rd_T55 l2 x16_2).f0)) ∧ w'.cell? ⟨gb291, 1, none⟩ = some (.string ((rd_T55 l2 x16_2).f1)) ∧ w'.cell? ⟨gb291, 2, none⟩ = some (.string ((rd_T55 l2 x16_2).f2)) ∧ w'.cell? ⟨gb291, 3, none⟩ = some (.int .u64 ((rd_T55 l2 x16_2).f3))) (ds := []) #[false, false, false, false, false, false, false, false, false, false, false] (by kernel_rfl) rfl rfl ⟨(blk_cell BK291.out 0).trans rfl, (blk_cell BK291.out 1).trans rfl, (blk_cell BK291.out 2).trans rfl, (blk_cell BK291.out 3).trans rfl⟩ (fun hHeld => ?_); refine with_tabW note_Done.tab12 note_Done.bits12 (fun HT_ HW_ => ?_)
                      generalize w20.drew = w21 at BK291 HB hHeld ⊢
                      refine pure_ (i := 0) (N := some 31) (v := ?_) (a' := ?_) #[true, false, false, false, false, false, false, false, false, false, false] rfl rfl (any_of HT_.out (by kernel_rfl)) (fun _ _ _ h => h) (Or.inl ⟨by rfl, ?_⟩) ?_ ?_
                      rotate_left
                      · intro w'
                        go_simp
                        with_reducible rfl
                      rotate_left
                      · simp only [Act.put, List.setIfInBounds_toArray, List.set_cons_zero, List.set_cons_succ, i64_w, i32_w]
                        rfl
                      refine pure_ (i := 2) (N := some 33) (v := ?_) (a' := ?_) #[true, false, true, false, false, false, false, false, false, false, false] rfl rfl (any_of HT_.out (by kernel_rfl)) (fun _ _ _ h => h) (Or.inl ⟨by rfl, ?_⟩) ?_ ?_
                      rotate_left
                      · intro w'
                        go_simp
                        with_reducible rfl
                      rotate_left
                      · simp only [Act.put, List.setIfInBounds_toArray, List.set_cons_zero, List.set_cons_succ, i64_w, i32_w]
                        rfl
                      refine take_ (i := 3) (N := some 34) (v := ?_) (a' := ?_) #[true, false, true, true, false, false, false, false, false, false, false] rfl rfl (take_ofW HT_.out HW_.out (by kernel_rfl)) (fun _ _ _ h => h) (Or.inl ⟨by rfl, ?_⟩) hHeld ?_ ?_
                      rotate_left
                      · rintro w' ⟨s0, s1, s2, s3⟩
                        go_simp
                        with_reducible rfl
                      rotate_left
                      · simp only [Act.put, List.setIfInBounds_toArray, List.set_cons_zero, List.set_cons_succ, i64_w, i32_w]
                        rfl
                      refine one_ (i := 1) (N := some 32) #[true, true, true, true, false, false, false, false, false, false, false] rfl rfl (one_of HT_.out (by kernel_rfl)) (by decide) (fun K hK => ?_)
                      refine goes_ Try.func33 (by kernel_rfl) rfl #[.string x0_2] (by rfl) rfl rfl (by (try simp only [List.map_toArray, List.map_cons, List.map_nil]); first | done | rfl | (simp only [List.length_drop, List.length_take]; rfl)) ?_
                      with_reducible refine (note_Number.calls k2 x0_2 t292 _ A16.out).mono ?_
                      rintro e w' ⟨rfl, ⟨nd, rfl⟩⟩
                      refine ⟨_, rfl, ?_⟩
                      refine hK.out _ _ ⟨(blk_cell BK291.out 0).trans rfl, (blk_cell BK291.out 1).trans rfl, (blk_cell BK291.out 2).trans rfl, (blk_cell BK291.out 3).trans rfl⟩ (fun hHeld => ?_)
                      clear hK K
                      refine norm_ (a' := ?_) ?_ ?_
                      rotate_left
                      · show Act.put _ (some 32) _ = _
                        simp only [Act.put, List.setIfInBounds_toArray, List.set_cons_zero, List.set_cons_succ, i64_w, i32_w]
                        rfl
                      refine pure_ (i := 4) (N := some 35) (v := ?_) (a' := ?_) #[true, true, true, true, true, false, false, false, false, false, false] rfl rfl (any_of HT_.out (by kernel_rfl)) (fun _ _ _ h => h) (Or.inl ⟨by rfl, ?_⟩) ?_ ?_
                      rotate_left
                      · intro w'
                        go_simp
                        with_reducible rfl
                      rotate_left
                      · simp only [Act.put, List.setIfInBounds_toArray, List.set_cons_zero, List.set_cons_succ, i64_w, i32_w]
                        rfl
                      refine one_ (i := 5) (N := some 36) #[true, true, true, true, true, true, false, false, false, false, false] rfl rfl (one_of HT_.out (by kernel_rfl)) (by decide) (fun K hK => ?_)
                      refine goes_ Try.func16 (by kernel_rfl) rfl #[.int .u64 (IntKind.u64.wrap (t292 + ((rd_T55 l2 x16_2).f3))), .int .i64 8] (by rfl) rfl rfl (by (try simp only [List.map_toArray, List.map_cons, List.map_nil]); first | done | rfl | (simp only [List.length_drop, List.length_take]; rfl)) ?_
                      with_reducible refine (pack_Num.calls k2 (IntKind.u64.wrap (t292 + ((rd_T55 l2 x16_2).f3))) 8 t293 t294 _ A17.out).mono ?_
                      rintro e w22 ⟨rfl, hb⟩
                      refine ⟨_, rfl, ?_⟩
                      have n0_ := Aside0.mk (blk_below (g := gb291) (o := .cells #[.int .i64 ((rd_T55 l2 x16_2).f0), .string ((rd_T55 l2 x16_2).f1), .string ((rd_T55 l2 x16_2).f2), .int .u64 ((rd_T55 l2 x16_2).f3)] 55 (0, 0)) (by (with_reducible repeat (first | refine blk_drewN ?_ _ | refine blk_drew ?_ | refine blk_alloc ?_ _)); exact BK291.out) hb)
                      have n1_ := Aside0.mk (below_step (by repeat (first | (with_reducible first | exact HB.out | apply below_alloc | apply pw_below_drewN | apply below_drew1 | refine below_set ?_ GE291.out) | exact HB.out)) hb)
                      clear BK291
                      clear HB
                      have BK291 := n0_
                      have HB := n1_
                      clear n0_ n1_
                      (try clear hb)
                      (try clear hb2)
                      (try clear hk)
                      (try clear hi)
                      refine hK.out _ _ ⟨(blk_cell BK291.out 0).trans rfl, (blk_cell BK291.out 1).trans rfl, (blk_cell BK291.out 2).trans rfl, (blk_cell BK291.out 3).trans rfl⟩ (fun hHeld => ?_)
                      clear hK K
                      refine norm_ (a' := ?_) ?_ ?_
                      rotate_left
                      · show Act.put _ (some 36) _ = _
                        simp only [Act.put, List.setIfInBounds_toArray, List.set_cons_zero, List.set_cons_succ, i64_w, i32_w]
                        rfl
                      refine pure_ (i := 6) (N := some 30) (v := ?_) (a' := ?_) #[true, true, true, true, true, true, true, false, false, false, false] rfl rfl (any_of HT_.out (by kernel_rfl)) (fun _ _ _ h => h) (Or.inl ⟨by rfl, ?_⟩) ?_ ?_
                      rotate_left
                      · intro w'
                        go_simp
                        with_reducible rfl
                      rotate_left
                      · simp only [Act.put, List.setIfInBounds_toArray, List.set_cons_zero, List.set_cons_succ, i64_w, i32_w]
                        rfl
                      refine pure_ (i := 7) (N := some 37) (v := ?_) (a' := ?_) #[true, true, true, true, true, true, true, true, false, false, false] rfl rfl (any_of HT_.out (by kernel_rfl)) (fun _ _ _ h => h) (Or.inl ⟨by rfl, ?_⟩) ?_ ?_
                      rotate_left
                      · intro w'
                        go_simp
                        with_reducible rfl
                      rotate_left
                      · simp only [Act.put, List.setIfInBounds_toArray, List.set_cons_zero, List.set_cons_succ, i64_w, i32_w]
                        rfl
                      refine pure_ (i := 8) (N := some 38) (v := ?_) (a' := ?_) #[true, true, true, true, true, true, true, true, true, false, false] rfl rfl (any_of HT_.out (by kernel_rfl)) (fun _ _ _ h => h) (Or.inl ⟨by rfl, ?_⟩) ?_ ?_
                      rotate_left
                      · intro w'
                        go_simp
                        with_reducible rfl
                      rotate_left
                      · simp only [Act.put, List.setIfInBounds_toArray, List.set_cons_zero, List.set_cons_succ, i64_w, i32_w]
                        rfl
                      refine pure_ (i := 9) (N := some 10) (v := ?_) (a' := ?_) #[true, true, true, true, true, true, true, true, true, true, false] rfl rfl (any_of HT_.out (by kernel_rfl)) (fun _ _ _ h => h) (Or.inl ⟨by rfl, ?_⟩) ?_ ?_
                      rotate_left
                      · intro w'
                        go_simp
                        with_reducible rfl
                      rotate_left
                      · simp only [Act.put, List.setIfInBounds_toArray, List.set_cons_zero, List.set_cons_succ, i64_w, i32_w]
                        rfl
                      refine pure_ (i := 10) (N := some 11) (v := ?_) (a' := ?_) #[true, true, true, true, true, true, true, true, true, true, true] rfl rfl (any_of HT_.out (by kernel_rfl)) (fun _ _ _ h => h) (Or.inl ⟨by rfl, ?_⟩) ?_ ?_
                      rotate_left
                      · intro w'
                        go_simp
                        with_reducible rfl
                      rotate_left
                      · simp only [Act.put, List.setIfInBounds_toArray, List.set_cons_zero, List.set_cons_succ, i64_w, i32_w]
                        rfl
                      refine done_ (done_of HT_.out (by kernel_rfl)) ?_
                      try go_wp2
                      go_roundg k2
                      case measure => have := HJ3.out; have := HK2.out; omega
                      case rel => exact ⟨(t293), (true), (wrap64 (x16_2 + 1)), (by first | rfl | (simp; done) | (simp [*]; done)), (by first | rfl | (simp; done) | (simp [*]; done)), (by first | rfl | (simp; done) | (simp [*]; done)), H', ⟨by have := HJ3.out; have := HK2.out; omega⟩, ⟨by repeat (first | (with_reducible first | exact HB.out | apply below_alloc | apply pw_below_drewN | apply below_drew1 | refine below_set ?_ GE291.out) | exact HB.out)⟩⟩
                    · rw [if_neg c15] at H
                      have c15b0 : (((rd_T55 l2 x16_2).f0) == 3) = false := beq_eq_false_iff_ne.mpr c15
                      have c15b1 : (((rd_T55 l2 x16_2).f0) != 3) = true := bne_iff_ne.mpr c15
                      have H' := Aside0.mk H
                      clear H
                      have p290 : 0 ≤ (x16_2 : Int) := of_decide_eq_true (by first | (with_reducible assumption) | assumption)
                      have q290 : x16_2 < (l2.length : Int) := of_decide_eq_true (by first | (with_reducible assumption) | assumption)
                      obtain ⟨ad290, e290, hx290_0, hx290_1, hx290_2, hx290_3⟩ := at_T55 HR2.out x16_2 p290 q290
                      cases e290
                      replace hx290_0 := (HB.out.cell (World.block_lt_of_cell? w _ hx290_0)).trans hx290_0
                      replace hx290_1 := (HB.out.cell (World.block_lt_of_cell? w _ hx290_1)).trans hx290_1
                      replace hx290_2 := (HB.out.cell (World.block_lt_of_cell? w _ hx290_2)).trans hx290_2
                      replace hx290_3 := (HB.out.cell (World.block_lt_of_cell? w _ hx290_3)).trans hx290_3
                      replace p290 := eq_true p290
                      replace q290 := eq_true q290
                      go_wp2_with (first | ((with_reducible refine gate_dst (N := 9) rfl ?_); refine box_event ?hg (N := 9) ?hd (cs := #[.int .i64 0, .string (⟨#[]⟩ : ByteArray), .string (⟨#[]⟩ : ByteArray), .int .u64 0]) (t := 55) ?hr ?_; (case hd => rfl); (case hg => rfl); (case hr => first | (go_simp; done) | (go_simp; rfl)); intro gb291 hg w23 hbox hb; have n0_ := Aside0.mk (below_step (by repeat (first | (with_reducible first | exact HB.out | apply below_alloc | apply pw_below_drewN | apply below_drew1) | exact HB.out)) hb); have n1_ := Aside0.mk (hbox); have n2_ := Aside0.mk ((by rw [hg]; exact (below_size (by repeat (first | (with_reducible first | exact HB.out | apply below_alloc | apply pw_below_drewN | apply below_drew1) | exact HB.out))) : w.heap.size ≤ gb291)); have n3_ := Aside0.mk ((by rw [hg]; exact (below_size (by repeat (first | (with_reducible first | exact HB.out | apply below_alloc | apply pw_below_drewN | apply below_drew1) | exact HB.out))) : w.heap.size ≤ gb291)); clear HB; have HB := n0_; have BK291 := n1_; have GW291 := n2_; have GE291 := n3_; clear n0_ n1_ n2_ n3_; clear hb hbox hg; have hcz24_0 : w23.cell? ⟨gb291, 0, none⟩ = some (.int .i64 0) := (blk_cell BK291.out 0).trans rfl; have hcz24_1 : w23.cell? ⟨gb291, 1, none⟩ = some (.string (⟨#[]⟩ : ByteArray)) := (blk_cell BK291.out 1).trans rfl; have hcz24_2 : w23.cell? ⟨gb291, 2, none⟩ = some (.string (⟨#[]⟩ : ByteArray)) := (blk_cell BK291.out 2).trans rfl; have hcz24_3 : w23.cell? ⟨gb291, 3, none⟩ = some (.int .u64 0) := (blk_cell BK291.out 3).trans rfl; have hfz24_0 := blk_frozen BK291.out 0; have hfz24_1 := blk_frozen BK291.out 1; have hfz24_2 := blk_frozen BK291.out 2; have hfz24_3 := blk_frozen BK291.out 3))
                      go_roundg k2
                      case measure => have := HJ3.out; have := HK2.out; omega
                      case rel => exact ⟨(x0_2), (x1_2), (wrap64 (x16_2 + 1)), (by first | rfl | (simp; done) | (simp [*]; done)), (by first | rfl | (simp; done) | (simp [*]; done)), (by first | rfl | (simp; done) | (simp [*]; done)), H', ⟨by have := HJ3.out; have := HK2.out; omega⟩, ⟨by repeat (first | (with_reducible first | exact HB.out | apply below_alloc | apply pw_below_drewN | apply below_drew1 | refine below_set ?_ GE291.out) | exact HB.out)⟩⟩
              · rw [if_neg c8] at H
                exact absurd H (by simp)
            · rw [if_neg c7] at H
              exact absurd H (by simp)
          · rw [if_neg c6] at H
            have c6b0 : decide (x16_2 < (l2.length : Int)) = false := decide_eq_false c6
            clear c6
            simp only [Option.some.injEq, Prod.mk.injEq] at H
            obtain ⟨rfl, rfl⟩ := H
            go_wp2
            go_ret2
            exact ⟨by first | rfl | (simp [errW_none, errW_some] <;> rfl) | (simp [*, errW_none, errW_some] <;> rfl), by repeat (first | (with_reducible first | exact HB.out | apply below_alloc | apply pw_below_drewN | apply below_drew1) | exact HB.out)⟩

/-! ### note_Both: function 31 -/
mutual
def note_Both.j0 : Nat → Bool → Int → ByteArray → ByteArray → Int → Int → ByteArray → ByteArray → Int → Option (Int × ByteArray × ByteArray × Int)
  | 0, _, _, _, _, _, _, _, _, _ => none
  | k + 1, x7, x296000, x296001, x296002, x296003, x297000, x297001, x297002, x297003 => if x7 = true then (some (x296000, x297001, x296002, x296003)) else (if x297000 = 3 then (if x296000 = 1 then (note_Both.j1 k (x296000 == 1) x296000 x296001 x296002 x296003 x297000 x297001 x297002 x297003) else (note_Both.j1 k (x296000 == 2) x296000 x296001 x296002 x296003 x297000 x297001 x297002 x297003)) else (some (x297000, x297001, x297002, x297003)))
def note_Both.j1 : Nat → Bool → Int → ByteArray → ByteArray → Int → Int → ByteArray → ByteArray → Int → Option (Int × ByteArray × ByteArray × Int)
  | 0, _, _, _, _, _, _, _, _, _ => none
  | k + 1, x30, x296000, x296001, x296002, x296003, x297000, x297001, x297002, x297003 => if x30 = true then ((note_Done.f k x296002 (x296000 == 1) (([(⟨x297000, x297001, x297002, x297003⟩ : S55)] : List (S55)))).bind fun bt301 => (some (1, x297001, bt301.1, 0))) else (if x296000 = 3 then (some (x297000, x297001, x297002, IntKind.u64.wrap (x297003 + x296003))) else (some (x297000, x297001, x297002, x297003)))
end
def note_Both.f (k : Nat) (a0_0 : Int) (a0_1 : ByteArray) (a0_2 : ByteArray) (a0_3 : Int) (a1_0 : Int) (a1_1 : ByteArray) (a1_2 : ByteArray) (a1_3 : Int) : Option (Int × ByteArray × ByteArray × Int) := if a1_0 = 1 then (note_Both.j0 k false a0_0 a0_1 a0_2 a0_3 a1_0 a1_1 a1_2 a1_3) else (if a1_0 = 2 then (note_Both.j0 k false a0_0 a0_1 a0_2 a0_3 a1_0 a1_1 a1_2 a1_3) else (note_Both.j0 k (a1_0 != 3) a0_0 a0_1 a0_2 a0_3 a1_0 a1_1 a1_2 a1_3))
theorem note_Both.mono_l : ∀ k, (∀ y0 y1 y2 y3 y4 y5 y6 y7 y8, LeO (note_Both.j0 k y0 y1 y2 y3 y4 y5 y6 y7 y8) (note_Both.j0 (k + 1) y0 y1 y2 y3 y4 y5 y6 y7 y8)) ∧ (∀ y0 y1 y2 y3 y4 y5 y6 y7 y8, LeO (note_Both.j1 k y0 y1 y2 y3 y4 y5 y6 y7 y8) (note_Both.j1 (k + 1) y0 y1 y2 y3 y4 y5 y6 y7 y8))
  | 0 => ⟨fun _ _ _ _ _ _ _ _ _ r h => by simp [note_Both.j0] at h, fun _ _ _ _ _ _ _ _ _ r h => by simp [note_Both.j1] at h⟩
  | k + 1 => by
    obtain ⟨ih0, ih1⟩ := note_Both.mono_l k
    refine ⟨?_, ?_⟩
    · intro y0 y1 y2 y3 y4 y5 y6 y7 y8
      unfold note_Both.j0
      repeat' first
      | (with_reducible exact ih0 _ _ _ _ _ _ _ _ _)
      | (with_reducible exact ih1 _ _ _ _ _ _ _ _ _)
      | (with_reducible exact note_Done.mono _ _ _ _)
      | (with_reducible exact LeO.refl _)
      | (with_reducible exact LeO.none _)
      | (with_reducible refine LeO.ite ?_ ?_)
      | (with_reducible refine LeO.bind ?_ (fun _ => ?_))
      | exact ih0 _ _ _ _ _ _ _ _ _
      | exact ih1 _ _ _ _ _ _ _ _ _
      | exact note_Done.mono _ _ _ _
      | exact LeO.none _
      | refine LeO.ite ?_ ?_
      | refine LeO.bind ?_ (fun _ => ?_)
    · intro y0 y1 y2 y3 y4 y5 y6 y7 y8
      unfold note_Both.j1
      repeat' first
      | (with_reducible exact ih0 _ _ _ _ _ _ _ _ _)
      | (with_reducible exact ih1 _ _ _ _ _ _ _ _ _)
      | (with_reducible exact note_Done.mono _ _ _ _)
      | (with_reducible exact LeO.refl _)
      | (with_reducible exact LeO.none _)
      | (with_reducible refine LeO.ite ?_ ?_)
      | (with_reducible refine LeO.bind ?_ (fun _ => ?_))
      | exact ih0 _ _ _ _ _ _ _ _ _
      | exact ih1 _ _ _ _ _ _ _ _ _
      | exact note_Done.mono _ _ _ _
      | exact LeO.none _
      | refine LeO.ite ?_ ?_
      | refine LeO.bind ?_ (fun _ => ?_)
theorem note_Both.mono : ∀ a0 a1 a2 a3 a4 a5 a6 a7 k, LeO (note_Both.f k a0 a1 a2 a3 a4 a5 a6 a7) (note_Both.f (k + 1) a0 a1 a2 a3 a4 a5 a6 a7) := by
  intro a0 a1 a2 a3 a4 a5 a6 a7 k
  obtain ⟨ih0, ih1⟩ := note_Both.mono_l k
  unfold note_Both.f
  repeat' first
      | (with_reducible exact ih0 _ _ _ _ _ _ _ _ _)
      | (with_reducible exact ih1 _ _ _ _ _ _ _ _ _)
      | (with_reducible exact note_Done.mono _ _ _ _)
      | (with_reducible exact LeO.refl _)
      | (with_reducible exact LeO.none _)
      | (with_reducible refine LeO.ite ?_ ?_)
      | (with_reducible refine LeO.bind ?_ (fun _ => ?_))
      | exact ih0 _ _ _ _ _ _ _ _ _
      | exact ih1 _ _ _ _ _ _ _ _ _
      | exact note_Done.mono _ _ _ _
      | exact LeO.none _
      | refine LeO.ite ?_ ?_
      | refine LeO.bind ?_ (fun _ => ?_)
set_option maxHeartbeats 8000000 in
set_option maxRecDepth 100000 in
theorem note_Both.calls (k : Nat) (a0_0 : Int) (a0_1 : ByteArray) (a0_2 : ByteArray) (a0_3 : Int) (a1_0 : Int) (a1_1 : ByteArray) (a1_2 : ByteArray) (a1_3 : Int) (r1 : Int) (r2 : ByteArray) (r3 : ByteArray) (r4 : Int) (w : World) (h : note_Both.f k a0_0 a0_1 a0_2 a0_3 a1_0 a1_1 a1_2 a1_3 = some (r1, r2, r3, r4)) :
    Calls Try.prog 31 #[.agg #[.int .i64 a0_0, .string a0_1, .string a0_2, .int .u64 a0_3], .agg #[.int .i64 a1_0, .string a1_1, .string a1_2, .int .u64 a1_3]] w fun e w' => e = .returned (.agg #[.int .i64 r1, .string r2, .string r3, .int .u64 r4]) ∧ Below w.heap.size w w' := by
  have hu55 := Try.underlying55
  have HB := Aside0.mk (Below.refl w.heap.size w)
  have H : (if a1_0 = 1 then (note_Both.j0 k false a0_0 a0_1 a0_2 a0_3 a1_0 a1_1 a1_2 a1_3) else (if a1_0 = 2 then (note_Both.j0 k false a0_0 a0_1 a0_2 a0_3 a1_0 a1_1 a1_2 a1_3) else (note_Both.j0 k (a1_0 != 3) a0_0 a0_1 a0_2 a0_3 a1_0 a1_1 a1_2 a1_3))) = some (r1, r2, r3, r4) := h
  clear h
  have HC3 := Aside0.mk H
  clear H
  go_enter Try.func31, Try.ntmps31
  go_upto_region 1 with (first | ((with_reducible refine gate_dst (N := 2) rfl ?_); refine box_event ?hg (N := 2) ?hd (cs := #[.int .i64 a0_0, .string a0_1, .string a0_2, .int .u64 a0_3]) (t := 55) ?hr ?_; (case hd => rfl); (case hg => rfl); (case hr => first | (go_simp; done) | (go_simp; rfl)); intro gb295 hg w4 hbox hb; have n0_ := Aside0.mk (below_step (by repeat (first | (with_reducible first | exact HB.out | apply below_alloc | apply pw_below_drewN | apply below_drew1) | exact HB.out)) hb); have n1_ := Aside0.mk (hbox); have n2_ := Aside0.mk ((by rw [hg]; exact (below_size (by repeat (first | (with_reducible first | exact HB.out | apply below_alloc | apply pw_below_drewN | apply below_drew1) | exact HB.out))) : w.heap.size ≤ gb295)); have n3_ := Aside0.mk ((by rw [hg]; exact (below_size (by repeat (first | (with_reducible first | exact HB.out | apply below_alloc | apply pw_below_drewN | apply below_drew1) | exact HB.out))) : w.heap.size ≤ gb295)); clear HB; have HB := n0_; have BK295 := n1_; have GW295 := n2_; have GE295 := n3_; clear n0_ n1_ n2_ n3_; clear hb hbox hg) | ((with_reducible refine gate_dst (N := 3) rfl ?_); refine box_event ?hg (N := 3) ?hd (cs := #[.int .i64 a1_0, .string a1_1, .string a1_2, .int .u64 a1_3]) (t := 55) ?hr ?_; (case hd => rfl); (case hg => rfl); (case hr => first | (go_simp; done) | (go_simp; rfl)); intro gb296 hg w5 hbox hb; have n0_ := Aside0.mk (blk_below (g := gb295) (o := .cells #[.int .i64 a0_0, .string a0_1, .string a0_2, .int .u64 a0_3] 55 (0, 0)) (by (with_reducible repeat (first | refine blk_drewN ?_ _ | refine blk_drew ?_ | refine blk_alloc ?_ _)); exact BK295.out) hb); have n1_ := Aside0.mk (below_step (by repeat (first | (with_reducible first | exact HB.out | apply below_alloc | apply pw_below_drewN | apply below_drew1 | refine below_set ?_ GE295.out) | exact HB.out)) hb); have n2_ := Aside0.mk (hbox); have n3_ := Aside0.mk ((by rw [hg]; exact (below_size (by repeat (first | (with_reducible first | exact HB.out | apply below_alloc | apply pw_below_drewN | apply below_drew1 | refine below_set ?_ GE295.out) | exact HB.out))) : w.heap.size ≤ gb296)); have n4_ := Aside0.mk ((by rw [hg]; exact (below_size (by repeat (first | (with_reducible first | exact HB.out | apply below_alloc | apply pw_below_drewN | apply below_drew1 | refine below_set ?_ GE295.out) | exact HB.out))) : w.heap.size ≤ gb296)); have n5_ := Aside0.mk ((by rw [hg]; exact Nat.ne_of_lt (blk_lt (g := gb295) (o := .cells #[.int .i64 a0_0, .string a0_1, .string a0_2, .int .u64 a0_3] 55 (0, 0)) (by (with_reducible repeat (first | refine blk_drewN ?_ _ | refine blk_drew ?_ | refine blk_alloc ?_ _)); exact BK295.out)) : gb295 ≠ gb296)); have n6_ := Aside0.mk ((by rw [hg]; exact Nat.ne_of_gt (blk_lt (g := gb295) (o := .cells #[.int .i64 a0_0, .string a0_1, .string a0_2, .int .u64 a0_3] 55 (0, 0)) (by (with_reducible repeat (first | refine blk_drewN ?_ _ | refine blk_drew ?_ | refine blk_alloc ?_ _)); exact BK295.out)) : gb296 ≠ gb295)); clear BK295; clear HB; have BK295 := n0_; have HB := n1_; have BK296 := n2_; have GW296 := n3_; have GE296 := n4_; have NB295_296 := n5_; have NB296_295 := n6_; clear n0_ n1_ n2_ n3_ n4_ n5_ n6_; clear hb hbox hg) | ((with_reducible refine gate_dst (N := 4) rfl ?_); refine box_event ?hg (N := 4) ?hd (cs := #[.int .i64 0, .string (⟨#[]⟩ : ByteArray), .string (⟨#[]⟩ : ByteArray), .int .u64 0]) (t := 55) ?hr ?_; (case hd => rfl); (case hg => rfl); (case hr => first | (go_simp; done) | (go_simp; rfl)); intro gb297 hg w6 hbox hb; have n0_ := Aside0.mk (blk_below (g := gb295) (o := .cells #[.int .i64 a0_0, .string a0_1, .string a0_2, .int .u64 a0_3] 55 (0, 0)) (by (with_reducible repeat (first | refine blk_drewN ?_ _ | refine blk_drew ?_ | refine blk_alloc ?_ _)); exact BK295.out) hb); have n1_ := Aside0.mk (blk_below (g := gb296) (o := .cells #[.int .i64 a1_0, .string a1_1, .string a1_2, .int .u64 a1_3] 55 (0, 0)) (by (with_reducible repeat (first | refine blk_drewN ?_ _ | refine blk_drew ?_ | refine blk_alloc ?_ _)); exact BK296.out) hb); have n2_ := Aside0.mk (below_step (by repeat (first | (with_reducible first | exact HB.out | apply below_alloc | apply pw_below_drewN | apply below_drew1 | refine below_set ?_ GE295.out | refine below_set ?_ GE296.out) | exact HB.out)) hb); have n3_ := Aside0.mk (hbox); have n4_ := Aside0.mk ((by rw [hg]; exact (below_size (by repeat (first | (with_reducible first | exact HB.out | apply below_alloc | apply pw_below_drewN | apply below_drew1 | refine below_set ?_ GE295.out | refine below_set ?_ GE296.out) | exact HB.out))) : w.heap.size ≤ gb297)); have n5_ := Aside0.mk ((by rw [hg]; exact (below_size (by repeat (first | (with_reducible first | exact HB.out | apply below_alloc | apply pw_below_drewN | apply below_drew1 | refine below_set ?_ GE295.out | refine below_set ?_ GE296.out) | exact HB.out))) : w.heap.size ≤ gb297)); have n6_ := Aside0.mk ((by rw [hg]; exact Nat.ne_of_lt (blk_lt (g := gb295) (o := .cells #[.int .i64 a0_0, .string a0_1, .string a0_2, .int .u64 a0_3] 55 (0, 0)) (by (with_reducible repeat (first | refine blk_drewN ?_ _ | refine blk_drew ?_ | refine blk_alloc ?_ _)); exact BK295.out)) : gb295 ≠ gb297)); have n7_ := Aside0.mk ((by rw [hg]; exact Nat.ne_of_gt (blk_lt (g := gb295) (o := .cells #[.int .i64 a0_0, .string a0_1, .string a0_2, .int .u64 a0_3] 55 (0, 0)) (by (with_reducible repeat (first | refine blk_drewN ?_ _ | refine blk_drew ?_ | refine blk_alloc ?_ _)); exact BK295.out)) : gb297 ≠ gb295)); have n8_ := Aside0.mk ((by rw [hg]; exact Nat.ne_of_lt (blk_lt (g := gb296) (o := .cells #[.int .i64 a1_0, .string a1_1, .string a1_2, .int .u64 a1_3] 55 (0, 0)) (by (with_reducible repeat (first | refine blk_drewN ?_ _ | refine blk_drew ?_ | refine blk_alloc ?_ _)); exact BK296.out)) : gb296 ≠ gb297)); have n9_ := Aside0.mk ((by rw [hg]; exact Nat.ne_of_gt (blk_lt (g := gb296) (o := .cells #[.int .i64 a1_0, .string a1_1, .string a1_2, .int .u64 a1_3] 55 (0, 0)) (by (with_reducible repeat (first | refine blk_drewN ?_ _ | refine blk_drew ?_ | refine blk_alloc ?_ _)); exact BK296.out)) : gb297 ≠ gb296)); clear BK295; clear BK296; clear HB; have BK295 := n0_; have BK296 := n1_; have HB := n2_; have BK297 := n3_; have GW297 := n4_; have GE297 := n5_; have NB295_297 := n6_; have NB297_295 := n7_; have NB296_297 := n8_; have NB297_296 := n9_; clear n0_ n1_ n2_ n3_ n4_ n5_ n6_ n7_ n8_ n9_; clear hb hbox hg))
  (try simp only [Act.put, List.setIfInBounds_toArray, List.set_cons_zero, List.set_cons_succ])
  go_cut [7] (fun v7 wc => ∃ (kq : Nat) (x7_2 : Bool), v7 = .bool x7_2 ∧ Aside0 (note_Both.j0 kq x7_2 a0_0 a0_1 a0_2 a0_3 a1_0 a1_1 a1_2 a1_3 = some (r1, r2, r3, r4)) ∧ Aside0 (kq ≤ k) ∧ Aside0 (wc.heap[gb295]? = some (.cells #[.int .i64 a0_0, .string a0_1, .string a0_2, .int .u64 a0_3] 55 (0, 0))) ∧ Aside0 (wc.heap[gb296]? = some (.cells #[.int .i64 a1_0, .string a1_1, .string a1_2, .int .u64 a1_3] 55 (0, 0))) ∧ Aside0 (wc.heap[gb297]? = some (.cells #[.int .i64 0, .string (⟨#[]⟩ : ByteArray), .string (⟨#[]⟩ : ByteArray), .int .u64 0] 55 (0, 0))) ∧ Aside0 (Below w.heap.size w wc))
  case first =>
    have H := HC3.out
    clear HC3
    by_cases c7 : a1_0 = 1
    · rw [if_pos c7] at H
      have c7b0 : (a1_0 == 1) = true := beq_iff_eq.mpr c7
      have c7b1 : (a1_0 != 1) = false := bne_eq_false_iff_eq.mpr c7
      clear c7
      (first | rw [c7b0] | (simp only [i64_w, i32_w]; rw [c7b0]) | skip)
      have H' := Aside0.mk H
      clear H
      have hnb8 := NB296_295.out
      have hnc8 := NB295_296.out
      have hnb9 := NB296_297.out
      have hnc9 := NB297_296.out
      have hcz10_0 : w6.cell? ⟨gb296, 0, none⟩ = some (.int .i64 a1_0) := (blk_cell BK296.out 0).trans rfl
      have hcz10_1 : w6.cell? ⟨gb296, 1, none⟩ = some (.string a1_1) := (blk_cell BK296.out 1).trans rfl
      have hcz10_2 : w6.cell? ⟨gb296, 2, none⟩ = some (.string a1_2) := (blk_cell BK296.out 2).trans rfl
      have hcz10_3 : w6.cell? ⟨gb296, 3, none⟩ = some (.int .u64 a1_3) := (blk_cell BK296.out 3).trans rfl
      have hfz10_0 := blk_frozen BK296.out 0
      have hfz10_1 := blk_frozen BK296.out 1
      have hfz10_2 := blk_frozen BK296.out 2
      have hfz10_3 := blk_frozen BK296.out 3
      go_wp2
      go_meet
      case rel => exact ⟨_, (false), (by first | rfl | (simp; done) | (simp [*]; done)), H', ⟨by first | omega | exact Nat.le_refl _⟩, ⟨by (with_reducible repeat (first | refine blk_drewN ?_ _ | refine blk_drew ?_ | refine blk_alloc ?_ _)); exact BK295.out⟩, ⟨by (with_reducible repeat (first | refine blk_drewN ?_ _ | refine blk_drew ?_ | refine blk_alloc ?_ _)); exact BK296.out⟩, ⟨by (with_reducible repeat (first | refine blk_drewN ?_ _ | refine blk_drew ?_ | refine blk_alloc ?_ _)); exact BK297.out⟩, ⟨by repeat (first | (with_reducible first | exact HB.out | apply below_alloc | apply pw_below_drewN | apply below_drew1 | refine below_set ?_ GE295.out | refine below_set ?_ GE296.out | refine below_set ?_ GE297.out) | exact HB.out)⟩⟩
    · rw [if_neg c7] at H
      have c7b0 : (a1_0 == 1) = false := beq_eq_false_iff_ne.mpr c7
      have c7b1 : (a1_0 != 1) = true := bne_iff_ne.mpr c7
      (first | rw [c7b0] | (simp only [i64_w, i32_w]; rw [c7b0]) | skip)
      by_cases c11 : a1_0 = 2
      · rw [if_pos c11] at H
        have c11b0 : (a1_0 == 2) = true := beq_iff_eq.mpr c11
        have c11b1 : (a1_0 != 2) = false := bne_eq_false_iff_eq.mpr c11
        clear c11
        have H' := Aside0.mk H
        clear H
        have hnb12 := NB296_295.out
        have hnc12 := NB295_296.out
        have hnb13 := NB296_297.out
        have hnc13 := NB297_296.out
        have hcz14_0 : w6.cell? ⟨gb296, 0, none⟩ = some (.int .i64 a1_0) := (blk_cell BK296.out 0).trans rfl
        have hcz14_1 : w6.cell? ⟨gb296, 1, none⟩ = some (.string a1_1) := (blk_cell BK296.out 1).trans rfl
        have hcz14_2 : w6.cell? ⟨gb296, 2, none⟩ = some (.string a1_2) := (blk_cell BK296.out 2).trans rfl
        have hcz14_3 : w6.cell? ⟨gb296, 3, none⟩ = some (.int .u64 a1_3) := (blk_cell BK296.out 3).trans rfl
        have hfz14_0 := blk_frozen BK296.out 0
        have hfz14_1 := blk_frozen BK296.out 1
        have hfz14_2 := blk_frozen BK296.out 2
        have hfz14_3 := blk_frozen BK296.out 3
        go_wp2
        go_meet
        case rel => exact ⟨_, (false), (by first | rfl | (simp; done) | (simp [*]; done)), H', ⟨by first | omega | exact Nat.le_refl _⟩, ⟨by (with_reducible repeat (first | refine blk_drewN ?_ _ | refine blk_drew ?_ | refine blk_alloc ?_ _)); exact BK295.out⟩, ⟨by (with_reducible repeat (first | refine blk_drewN ?_ _ | refine blk_drew ?_ | refine blk_alloc ?_ _)); exact BK296.out⟩, ⟨by (with_reducible repeat (first | refine blk_drewN ?_ _ | refine blk_drew ?_ | refine blk_alloc ?_ _)); exact BK297.out⟩, ⟨by repeat (first | (with_reducible first | exact HB.out | apply below_alloc | apply pw_below_drewN | apply below_drew1 | refine below_set ?_ GE295.out | refine below_set ?_ GE296.out | refine below_set ?_ GE297.out) | exact HB.out)⟩⟩
      · rw [if_neg c11] at H
        have c11b0 : (a1_0 == 2) = false := beq_eq_false_iff_ne.mpr c11
        have c11b1 : (a1_0 != 2) = true := bne_iff_ne.mpr c11
        have H' := Aside0.mk H
        clear H
        have hnb15 := NB296_295.out
        have hnc15 := NB295_296.out
        have hnb16 := NB296_297.out
        have hnc16 := NB297_296.out
        have hcz17_0 : w6.cell? ⟨gb296, 0, none⟩ = some (.int .i64 a1_0) := (blk_cell BK296.out 0).trans rfl
        have hcz17_1 : w6.cell? ⟨gb296, 1, none⟩ = some (.string a1_1) := (blk_cell BK296.out 1).trans rfl
        have hcz17_2 : w6.cell? ⟨gb296, 2, none⟩ = some (.string a1_2) := (blk_cell BK296.out 2).trans rfl
        have hcz17_3 : w6.cell? ⟨gb296, 3, none⟩ = some (.int .u64 a1_3) := (blk_cell BK296.out 3).trans rfl
        have hfz17_0 := blk_frozen BK296.out 0
        have hfz17_1 := blk_frozen BK296.out 1
        have hfz17_2 := blk_frozen BK296.out 2
        have hfz17_3 := blk_frozen BK296.out 3
        go_wp2
        go_meet
        case rel => exact ⟨_, ((a1_0 != 3)), (by first | rfl | (simp; done) | (simp [*]; done)), H', ⟨by first | omega | exact Nat.le_refl _⟩, ⟨by (with_reducible repeat (first | refine blk_drewN ?_ _ | refine blk_drew ?_ | refine blk_alloc ?_ _)); exact BK295.out⟩, ⟨by (with_reducible repeat (first | refine blk_drewN ?_ _ | refine blk_drew ?_ | refine blk_alloc ?_ _)); exact BK296.out⟩, ⟨by (with_reducible repeat (first | refine blk_drewN ?_ _ | refine blk_drew ?_ | refine blk_alloc ?_ _)); exact BK297.out⟩, ⟨by repeat (first | (with_reducible first | exact HB.out | apply below_alloc | apply pw_below_drewN | apply below_drew1 | refine below_set ?_ GE295.out | refine below_set ?_ GE296.out | refine below_set ?_ GE297.out) | exact HB.out)⟩⟩
  case rest =>
    clear HC3
    try clear c1
    try clear p2
    try clear c3
    try clear c7
    try clear c7b0
    try clear c7b1
    try clear c8
    try clear c9
    try clear c11
    try clear c11b0
    try clear c11b1
    try clear c12
    try clear c13
    try clear c15
    try clear c16
    try clear hcz10_0
    try clear hcz10_1
    try clear hcz10_2
    try clear hcz10_3
    try clear hcz14_0
    try clear hcz14_1
    try clear hcz14_2
    try clear hcz14_3
    try clear hcz17_0
    try clear hcz17_1
    try clear hcz17_2
    try clear hcz17_3
    try clear hfz10_0
    try clear hfz10_1
    try clear hfz10_2
    try clear hfz10_3
    try clear hfz14_0
    try clear hfz14_1
    try clear hfz14_2
    try clear hfz14_3
    try clear hfz17_0
    try clear hfz17_1
    try clear hfz17_2
    try clear hfz17_3
    obtain ⟨kq, x7_2, rfl, HA, HJ2, BK295, BK296, BK297, HB⟩ := hcut
    cases kq with
    | zero => exact absurd HA.out (by simp [note_Both.j0])
    | succ kj2 =>
      have H := HA.out
      clear HA
      simp only [note_Both.j0] at H
      by_cases c18 : x7_2 = true
      · subst c18
        have H1 : (some (a0_0, a1_1, a0_2, a0_3)) = some (r1, r2, r3, r4) := by rw [if_pos rfl] at H; exact H
        clear H
        have H := H1
        clear H1
        simp only [Option.some.injEq, Prod.mk.injEq] at H
        obtain ⟨rfl, rfl, rfl, rfl⟩ := H
        have hnb19 := NB296_295.out
        have hnc19 := NB295_296.out
        have hnb20 := NB296_297.out
        have hnc20 := NB297_296.out
        have hcz21_0 : wc.cell? ⟨gb296, 0, none⟩ = some (.int .i64 a1_0) := (blk_cell BK296.out 0).trans rfl
        have hcz21_1 : wc.cell? ⟨gb296, 1, none⟩ = some (.string a1_1) := (blk_cell BK296.out 1).trans rfl
        have hcz21_2 : wc.cell? ⟨gb296, 2, none⟩ = some (.string a1_2) := (blk_cell BK296.out 2).trans rfl
        have hcz21_3 : wc.cell? ⟨gb296, 3, none⟩ = some (.int .u64 a1_3) := (blk_cell BK296.out 3).trans rfl
        have hfz21_0 := blk_frozen BK296.out 0
        have hfz21_1 := blk_frozen BK296.out 1
        have hfz21_2 := blk_frozen BK296.out 2
        have hfz21_3 := blk_frozen BK296.out 3
        have hnb22 := NB295_297.out
        have hnc22 := NB297_295.out
        have hcz23_0 : wc.cell? ⟨gb295, 0, none⟩ = some (.int .i64 a0_0) := (blk_cell BK295.out 0).trans rfl
        have hcz23_1 : wc.cell? ⟨gb295, 1, none⟩ = some (.string a0_1) := (blk_cell BK295.out 1).trans rfl
        have hcz23_2 : wc.cell? ⟨gb295, 2, none⟩ = some (.string a0_2) := (blk_cell BK295.out 2).trans rfl
        have hcz23_3 : wc.cell? ⟨gb295, 3, none⟩ = some (.int .u64 a0_3) := (blk_cell BK295.out 3).trans rfl
        have hfz23_0 := blk_frozen BK295.out 0
        have hfz23_1 := blk_frozen BK295.out 1
        have hfz23_2 := blk_frozen BK295.out 2
        have hfz23_3 := blk_frozen BK295.out 3
        have hcz24_0 : wc.cell? ⟨gb297, 0, none⟩ = some (.int .i64 0) := (blk_cell BK297.out 0).trans rfl
        have hcz24_1 : wc.cell? ⟨gb297, 1, none⟩ = some (.string (⟨#[]⟩ : ByteArray)) := (blk_cell BK297.out 1).trans rfl
        have hcz24_2 : wc.cell? ⟨gb297, 2, none⟩ = some (.string (⟨#[]⟩ : ByteArray)) := (blk_cell BK297.out 2).trans rfl
        have hcz24_3 : wc.cell? ⟨gb297, 3, none⟩ = some (.int .u64 0) := (blk_cell BK297.out 3).trans rfl
        have hfz24_0 := blk_frozen BK297.out 0
        have hfz24_1 := blk_frozen BK297.out 1
        have hfz24_2 := blk_frozen BK297.out 2
        have hfz24_3 := blk_frozen BK297.out 3
        go_wp2
        refine bodyPost_ret (results_cell_row rfl _ _ gb297 55 #[.int .i64 a0_0, .string a1_1, .string a0_2, .int .u64 a0_3] (0, 0) _ rfl (by (with_reducible repeat (first | refine blk_drewN ?_ _ | refine blk_drew ?_ | refine blk_alloc ?_ _)); refine blk_put (cs := #[.int .i64 a0_0, .string a1_1, .string a0_2, .int .u64 0]) ?_ 3 _ rfl; (with_reducible repeat (first | refine blk_drewN ?_ _ | refine blk_drew ?_ | refine blk_alloc ?_ _)); refine blk_put (cs := #[.int .i64 a0_0, .string a1_1, .string (⟨#[]⟩ : ByteArray), .int .u64 0]) ?_ 2 _ rfl; (with_reducible repeat (first | refine blk_drewN ?_ _ | refine blk_drew ?_ | refine blk_alloc ?_ _)); refine blk_put (cs := #[.int .i64 a0_0, .string (⟨#[]⟩ : ByteArray), .string (⟨#[]⟩ : ByteArray), .int .u64 0]) ?_ 1 _ rfl; (with_reducible repeat (first | refine blk_drewN ?_ _ | refine blk_drew ?_ | refine blk_alloc ?_ _)); refine blk_put (cs := #[.int .i64 0, .string (⟨#[]⟩ : ByteArray), .string (⟨#[]⟩ : ByteArray), .int .u64 0]) ?_ 0 _ rfl; (with_reducible repeat (first | refine blk_drewN ?_ _ | refine blk_drew ?_ | refine blk_alloc ?_ _)); refine blk_far ?_ NB297_295.out _; (with_reducible repeat (first | refine blk_drewN ?_ _ | refine blk_drew ?_ | refine blk_alloc ?_ _)); exact BK297.out) Try.underlying55 rfl (by kernel_rfl)) rfl ?_
        exact ⟨by first | rfl | (simp [errW_none, errW_some] <;> rfl) | (simp [*, errW_none, errW_some] <;> rfl), by repeat (first | (with_reducible first | exact HB.out | apply below_alloc | apply pw_below_drewN | apply below_drew1 | refine below_set ?_ GE295.out | refine below_set ?_ GE296.out | refine below_set ?_ GE297.out) | exact HB.out)⟩
      · replace c18 := Bool.eq_false_iff.mpr c18
        subst c18
        have H1 : (if a1_0 = 3 then (if a0_0 = 1 then (note_Both.j1 kj2 (a0_0 == 1) a0_0 a0_1 a0_2 a0_3 a1_0 a1_1 a1_2 a1_3) else (note_Both.j1 kj2 (a0_0 == 2) a0_0 a0_1 a0_2 a0_3 a1_0 a1_1 a1_2 a1_3)) else (some (a1_0, a1_1, a1_2, a1_3))) = some (r1, r2, r3, r4) := by rw [if_neg (show ¬ (false = true) by decide)] at H; exact H
        clear H
        have H := H1
        clear H1
        by_cases c25 : a1_0 = 3
        · rw [if_pos c25] at H
          have c25b0 : (a1_0 == 3) = true := beq_iff_eq.mpr c25
          have c25b1 : (a1_0 != 3) = false := bne_eq_false_iff_eq.mpr c25
          clear c25
          have HC26 := Aside0.mk H
          clear H
          have hnb27 := NB296_295.out
          have hnc27 := NB295_296.out
          have hnb28 := NB296_297.out
          have hnc28 := NB297_296.out
          have hcz29_0 : wc.cell? ⟨gb296, 0, none⟩ = some (.int .i64 a1_0) := (blk_cell BK296.out 0).trans rfl
          have hcz29_1 : wc.cell? ⟨gb296, 1, none⟩ = some (.string a1_1) := (blk_cell BK296.out 1).trans rfl
          have hcz29_2 : wc.cell? ⟨gb296, 2, none⟩ = some (.string a1_2) := (blk_cell BK296.out 2).trans rfl
          have hcz29_3 : wc.cell? ⟨gb296, 3, none⟩ = some (.int .u64 a1_3) := (blk_cell BK296.out 3).trans rfl
          have hfz29_0 := blk_frozen BK296.out 0
          have hfz29_1 := blk_frozen BK296.out 1
          have hfz29_2 := blk_frozen BK296.out 2
          have hfz29_3 := blk_frozen BK296.out 3
          have hnb30 := NB295_297.out
          have hnc30 := NB297_295.out
          have hcz31_0 : wc.cell? ⟨gb295, 0, none⟩ = some (.int .i64 a0_0) := (blk_cell BK295.out 0).trans rfl
          have hcz31_1 : wc.cell? ⟨gb295, 1, none⟩ = some (.string a0_1) := (blk_cell BK295.out 1).trans rfl
          have hcz31_2 : wc.cell? ⟨gb295, 2, none⟩ = some (.string a0_2) := (blk_cell BK295.out 2).trans rfl
          have hcz31_3 : wc.cell? ⟨gb295, 3, none⟩ = some (.int .u64 a0_3) := (blk_cell BK295.out 3).trans rfl
          have hfz31_0 := blk_frozen BK295.out 0
          have hfz31_1 := blk_frozen BK295.out 1
          have hfz31_2 := blk_frozen BK295.out 2
          have hfz31_3 := blk_frozen BK295.out 3
          go_upto_if 30 with (fail)
          go_cut [30] (fun v30 wc => ∃ (kq : Nat) (x30_25 : Bool), v30 = .bool x30_25 ∧ Aside0 (note_Both.j1 kq x30_25 a0_0 a0_1 a0_2 a0_3 a1_0 a1_1 a1_2 a1_3 = some (r1, r2, r3, r4)) ∧ Aside0 (kq ≤ kj2) ∧ Aside0 (wc.heap[gb295]? = some (.cells #[.int .i64 a0_0, .string a0_1, .string a0_2, .int .u64 a0_3] 55 (0, 0))) ∧ Aside0 (wc.heap[gb296]? = some (.cells #[.int .i64 a1_0, .string a1_1, .string a1_2, .int .u64 a1_3] 55 (0, 0))) ∧ Aside0 (wc.heap[gb297]? = some (.cells #[.int .i64 0, .string (⟨#[]⟩ : ByteArray), .string (⟨#[]⟩ : ByteArray), .int .u64 0] 55 (0, 0))) ∧ Aside0 (Below w.heap.size w wc))
          case first =>
            have H := HC26.out
            clear HC26
            by_cases c32 : a0_0 = 1
            · rw [if_pos c32] at H
              have c32b0 : (a0_0 == 1) = true := beq_iff_eq.mpr c32
              have c32b1 : (a0_0 != 1) = false := bne_eq_false_iff_eq.mpr c32
              clear c32
              (first | rw [c32b0] | (simp only [i64_w, i32_w]; rw [c32b0]) | skip)
              have H' := Aside0.mk H
              clear H
              go_wp2
              go_meet
              case rel => exact ⟨_, ((a0_0 == 1)), (by first | rfl | (simp; done) | (simp [*]; done)), H', ⟨by have := HJ2.out; first | omega | exact Nat.le_refl _⟩, ⟨by (with_reducible repeat (first | refine blk_drewN ?_ _ | refine blk_drew ?_ | refine blk_alloc ?_ _)); exact BK295.out⟩, ⟨by (with_reducible repeat (first | refine blk_drewN ?_ _ | refine blk_drew ?_ | refine blk_alloc ?_ _)); exact BK296.out⟩, ⟨by (with_reducible repeat (first | refine blk_drewN ?_ _ | refine blk_drew ?_ | refine blk_alloc ?_ _)); exact BK297.out⟩, ⟨by repeat (first | (with_reducible first | exact HB.out | apply below_alloc | apply pw_below_drewN | apply below_drew1 | refine below_set ?_ GE295.out | refine below_set ?_ GE296.out | refine below_set ?_ GE297.out) | exact HB.out)⟩⟩
            · rw [if_neg c32] at H
              have c32b0 : (a0_0 == 1) = false := beq_eq_false_iff_ne.mpr c32
              have c32b1 : (a0_0 != 1) = true := bne_iff_ne.mpr c32
              (first | rw [c32b0] | (simp only [i64_w, i32_w]; rw [c32b0]) | skip)
              have H' := Aside0.mk H
              clear H
              have hnb33 := NB295_296.out
              have hnc33 := NB296_295.out
              have hnb34 := NB295_297.out
              have hnc34 := NB297_295.out
              have hcz35_0 : wc.cell? ⟨gb295, 0, none⟩ = some (.int .i64 a0_0) := (blk_cell BK295.out 0).trans rfl
              have hcz35_1 : wc.cell? ⟨gb295, 1, none⟩ = some (.string a0_1) := (blk_cell BK295.out 1).trans rfl
              have hcz35_2 : wc.cell? ⟨gb295, 2, none⟩ = some (.string a0_2) := (blk_cell BK295.out 2).trans rfl
              have hcz35_3 : wc.cell? ⟨gb295, 3, none⟩ = some (.int .u64 a0_3) := (blk_cell BK295.out 3).trans rfl
              have hfz35_0 := blk_frozen BK295.out 0
              have hfz35_1 := blk_frozen BK295.out 1
              have hfz35_2 := blk_frozen BK295.out 2
              have hfz35_3 := blk_frozen BK295.out 3
              go_wp2
              go_meet
              case rel => exact ⟨_, ((a0_0 == 2)), (by first | rfl | (simp; done) | (simp [*]; done)), H', ⟨by have := HJ2.out; first | omega | exact Nat.le_refl _⟩, ⟨by (with_reducible repeat (first | refine blk_drewN ?_ _ | refine blk_drew ?_ | refine blk_alloc ?_ _)); exact BK295.out⟩, ⟨by (with_reducible repeat (first | refine blk_drewN ?_ _ | refine blk_drew ?_ | refine blk_alloc ?_ _)); exact BK296.out⟩, ⟨by (with_reducible repeat (first | refine blk_drewN ?_ _ | refine blk_drew ?_ | refine blk_alloc ?_ _)); exact BK297.out⟩, ⟨by repeat (first | (with_reducible first | exact HB.out | apply below_alloc | apply pw_below_drewN | apply below_drew1 | refine below_set ?_ GE295.out | refine below_set ?_ GE296.out | refine below_set ?_ GE297.out) | exact HB.out)⟩⟩
          case rest =>
            clear HC26
            try clear c1
            try clear c2
            try clear p2
            try clear c3
            try clear c7
            try clear c7b0
            try clear c7b1
            try clear c8
            try clear c9
            try clear c11
            try clear c11b0
            try clear c11b1
            try clear c12
            try clear c13
            try clear c15
            try clear c16
            try clear c18
            try clear c19
            try clear c20
            try clear c22
            try clear c25
            try clear c25b0
            try clear c25b1
            try clear c27
            try clear c28
            try clear c30
            try clear c31
            try clear c32
            try clear c32b0
            try clear c32b1
            try clear c33
            try clear c34
            try clear hcz10_0
            try clear hcz10_1
            try clear hcz10_2
            try clear hcz10_3
            try clear hcz14_0
            try clear hcz14_1
            try clear hcz14_2
            try clear hcz14_3
            try clear hcz17_0
            try clear hcz17_1
            try clear hcz17_2
            try clear hcz17_3
            try clear hcz21_0
            try clear hcz21_1
            try clear hcz21_2
            try clear hcz21_3
            try clear hcz23_0
            try clear hcz23_1
            try clear hcz23_2
            try clear hcz23_3
            try clear hcz24_0
            try clear hcz24_1
            try clear hcz24_2
            try clear hcz24_3
            try clear hcz29_0
            try clear hcz29_1
            try clear hcz29_2
            try clear hcz29_3
            try clear hcz31_0
            try clear hcz31_1
            try clear hcz31_2
            try clear hcz31_3
            try clear hcz35_0
            try clear hcz35_1
            try clear hcz35_2
            try clear hcz35_3
            try clear hfz10_0
            try clear hfz10_1
            try clear hfz10_2
            try clear hfz10_3
            try clear hfz14_0
            try clear hfz14_1
            try clear hfz14_2
            try clear hfz14_3
            try clear hfz17_0
            try clear hfz17_1
            try clear hfz17_2
            try clear hfz17_3
            try clear hfz21_0
            try clear hfz21_1
            try clear hfz21_2
            try clear hfz21_3
            try clear hfz23_0
            try clear hfz23_1
            try clear hfz23_2
            try clear hfz23_3
            try clear hfz24_0
            try clear hfz24_1
            try clear hfz24_2
            try clear hfz24_3
            try clear hfz29_0
            try clear hfz29_1
            try clear hfz29_2
            try clear hfz29_3
            try clear hfz31_0
            try clear hfz31_1
            try clear hfz31_2
            try clear hfz31_3
            try clear hfz35_0
            try clear hfz35_1
            try clear hfz35_2
            try clear hfz35_3
            try clear p2
            obtain ⟨kq, x30_25, rfl, HA, HJ25, BK295, BK296, BK297, HB⟩ := hcut
            cases kq with
            | zero => exact absurd HA.out (by simp [note_Both.j1])
            | succ kj25 =>
              have H := HA.out
              clear HA
              simp only [note_Both.j1] at H
              by_cases c36 : x30_25 = true
              · subst c36
                have H1 : ((note_Done.f kj25 a0_2 (a0_0 == 1) (([(⟨a1_0, a1_1, a1_2, a1_3⟩ : S55)] : List (S55)))).bind fun bt301 => (some (1, a1_1, bt301.1, 0))) = some (r1, r2, r3, r4) := by rw [if_pos rfl] at H; exact H
                clear H
                have H := H1
                clear H1
                obtain ⟨y298, hy298⟩ : ∃ y_ : List (S55), y_ = (([(⟨a1_0, a1_1, a1_2, a1_3⟩ : S55)] : List (S55))) := ⟨_, rfl⟩
                replace H : ((note_Done.f kj25 a0_2 (a0_0 == 1) y298).bind fun bt301 => (some (1, a1_1, bt301.1, 0))) = some (r1, r2, r3, r4) := by first | (rw [hy298]; with_reducible exact H) | (have H2_ := (Option.bind_some _ _).symm.trans H; rw [hy298]; with_reducible exact H2_) | (have H2_ := (Option.bind_some _ _).symm.trans H; with_reducible exact H2_) | with_reducible exact H | (rw [hy298]; exact H) | exact H
                have Ny298 := Aside0.mk hy298
                clear hy298
                replace H := Option.bind_eq_some_iff.mp H
                obtain ⟨⟨t301, t302⟩, A370, H⟩ := H
                replace H : (some (1, a1_1, t301, 0)) = some (r1, r2, r3, r4) := H
                have A37 := Aside0.mk A370
                clear A370
                simp only [Option.some.injEq, Prod.mk.injEq] at H
                obtain ⟨rfl, rfl, rfl, rfl⟩ := H
                have hnb38 := NB295_296.out
                have hnc38 := NB296_295.out
                have hnb39 := NB295_297.out
                have hnc39 := NB297_295.out
                have hcz40_0 : wc.cell? ⟨gb295, 0, none⟩ = some (.int .i64 a0_0) := (blk_cell BK295.out 0).trans rfl
                have hcz40_1 : wc.cell? ⟨gb295, 1, none⟩ = some (.string a0_1) := (blk_cell BK295.out 1).trans rfl
                have hcz40_2 : wc.cell? ⟨gb295, 2, none⟩ = some (.string a0_2) := (blk_cell BK295.out 2).trans rfl
                have hcz40_3 : wc.cell? ⟨gb295, 3, none⟩ = some (.int .u64 a0_3) := (blk_cell BK295.out 3).trans rfl
                have hfz40_0 := blk_frozen BK295.out 0
                have hfz40_1 := blk_frozen BK295.out 1
                have hfz40_2 := blk_frozen BK295.out 2
                have hfz40_3 := blk_frozen BK295.out 3
                have hnb41 := NB296_297.out
                have hnc41 := NB297_296.out
                have hcz42_0 : wc.cell? ⟨gb296, 0, none⟩ = some (.int .i64 a1_0) := (blk_cell BK296.out 0).trans rfl
                have hcz42_1 : wc.cell? ⟨gb296, 1, none⟩ = some (.string a1_1) := (blk_cell BK296.out 1).trans rfl
                have hcz42_2 : wc.cell? ⟨gb296, 2, none⟩ = some (.string a1_2) := (blk_cell BK296.out 2).trans rfl
                have hcz42_3 : wc.cell? ⟨gb296, 3, none⟩ = some (.int .u64 a1_3) := (blk_cell BK296.out 3).trans rfl
                have hfz42_0 := blk_frozen BK296.out 0
                have hfz42_1 := blk_frozen BK296.out 1
                have hfz42_2 := blk_frozen BK296.out 2
                have hfz42_3 := blk_frozen BK296.out 3
                go_wp2_with (first | ((with_reducible refine gate_dst (N := 44) rfl ?_); refine Kd.R_lit k55 _ 55 ?hg (N := 44) ?hd (xs := ([(⟨a1_0, a1_1, a1_2, a1_3⟩ : S55)] : List (S55))) (inner := [.int .i64 a1_0, .string a1_1, .string a1_2, .int .u64 a1_3]) (ok := fun _ => True) (okp := fun _ => True) ?hr ?hp (fun _ hk => hk) trivial (Below.refl _ _) (Nat.le_refl _) (by simp) ?_; (case hd => rfl); (case hg => rfl); (case hr => first | (go_simp; done) | (go_simp; rfl)); (case hp => exact (Reps.c4 (show Kd.M k55 _ _ _ (⟨a1_0, a1_1, a1_2, a1_3⟩ : S55) [.int .i64 a1_0, .string a1_1, .string a1_2, .int .u64 a1_3] from (k55_mkM _ _ _ (⟨a1_0, a1_1, a1_2, a1_3⟩ : S55) )) (Reps.none _ _))); intro v299 w43 ho44 hb hg_ hnew_; clear hg_ hnew_; (first | rw [← Ny298.out] at ho44 | (simp only [Int.reduceToNat] at ho44; rw [← Ny298.out] at ho44)); have n0_ := Aside0.mk (Kd.R_lower (Kd.R_newB (Kd.R_newB (Kd.R_newB ho44 (g := gb295) (o := .cells #[.int .i64 a0_0, .string a0_1, .string a0_2, .int .u64 a0_3] 55 (0, 0)) (by (with_reducible repeat (first | refine blk_drewN ?_ _ | refine blk_drew ?_ | refine blk_alloc ?_ _)); exact BK295.out)) (g := gb296) (o := .cells #[.int .i64 a1_0, .string a1_1, .string a1_2, .int .u64 a1_3] 55 (0, 0)) (by (with_reducible repeat (first | refine blk_drewN ?_ _ | refine blk_drew ?_ | refine blk_alloc ?_ _)); exact BK296.out)) (g := gb297) (o := .cells #[.int .i64 0, .string (⟨#[]⟩ : ByteArray), .string (⟨#[]⟩ : ByteArray), .int .u64 0] 55 (0, 0)) (by (with_reducible repeat (first | refine blk_drewN ?_ _ | refine blk_drew ?_ | refine blk_alloc ?_ _)); exact BK297.out)) (below_size (by repeat (first | (with_reducible first | exact HB.out | apply below_alloc | apply pw_below_drewN | apply below_drew1 | refine below_set ?_ GE295.out | refine below_set ?_ GE296.out | refine below_set ?_ GE297.out) | exact HB.out)))); have n1_ := Aside0.mk (blk_below (g := gb295) (o := .cells #[.int .i64 a0_0, .string a0_1, .string a0_2, .int .u64 a0_3] 55 (0, 0)) (by (with_reducible repeat (first | refine blk_drewN ?_ _ | refine blk_drew ?_ | refine blk_alloc ?_ _)); exact BK295.out) hb); have n2_ := Aside0.mk (blk_below (g := gb296) (o := .cells #[.int .i64 a1_0, .string a1_1, .string a1_2, .int .u64 a1_3] 55 (0, 0)) (by (with_reducible repeat (first | refine blk_drewN ?_ _ | refine blk_drew ?_ | refine blk_alloc ?_ _)); exact BK296.out) hb); have n3_ := Aside0.mk (blk_below (g := gb297) (o := .cells #[.int .i64 0, .string (⟨#[]⟩ : ByteArray), .string (⟨#[]⟩ : ByteArray), .int .u64 0] 55 (0, 0)) (by (with_reducible repeat (first | refine blk_drewN ?_ _ | refine blk_drew ?_ | refine blk_alloc ?_ _)); exact BK297.out) hb); have n4_ := Aside0.mk (below_step (by repeat (first | (with_reducible first | exact HB.out | apply below_alloc | apply pw_below_drewN | apply below_drew1 | refine below_set ?_ GE295.out | refine below_set ?_ GE296.out | refine below_set ?_ GE297.out) | exact HB.out)) hb); clear BK295; clear BK296; clear BK297; clear HB; have HO300 := n0_; have BK295 := n1_; have BK296 := n2_; have BK297 := n3_; have HB := n4_; clear n0_ n1_ n2_ n3_ n4_; clear hb ho44; obtain ⟨Ao45, co45, eo45⟩ := Kd.R_slice HO300.out; subst eo45) | ((with_reducible refine gate_callee (f := 30) rfl ?_); refine goesL_ (some 45) rfl rfl Try.func30 (by kernel_rfl) rfl #[.string a0_2, .bool (a0_0 == 1), .slice Ao45 y298.length co45] rfl (by (try simp only [List.map_toArray, List.map_cons, List.map_nil]); first | done | rfl | (simp only [List.length_drop, List.length_take]; rfl)) ?_; (with_reducible refine (note_Done.calls kj25 a0_2 (a0_0 == 1) _ _ y298 t301 t302 _ ?side1 ?side2 A37.out).mono ?_); (case side1 => repeat (first | exact (Kd.R_reads' HO300.out).2.2 | (with_reducible refine Kd.C_alloc ?_ _) | (with_reducible refine Kd.C_drewN ?_ _) | (with_reducible refine Kd.C_drew ?_))); (case side2 => exact (Kd.R_reads' HO300.out).2.1); rintro e w46 ⟨rfl, hb⟩; refine ⟨_, rfl, ?_⟩; have n0_ := Aside0.mk (Kd.R_below (by (with_reducible repeat (first | apply Kd.R_alloc | apply Kd.R_drewN | apply Kd.R_drew)); exact HO300.out) hb); have n1_ := Aside0.mk (blk_below (g := gb295) (o := .cells #[.int .i64 a0_0, .string a0_1, .string a0_2, .int .u64 a0_3] 55 (0, 0)) (by (with_reducible repeat (first | refine blk_drewN ?_ _ | refine blk_drew ?_ | refine blk_alloc ?_ _)); exact BK295.out) hb); have n2_ := Aside0.mk (blk_below (g := gb296) (o := .cells #[.int .i64 a1_0, .string a1_1, .string a1_2, .int .u64 a1_3] 55 (0, 0)) (by (with_reducible repeat (first | refine blk_drewN ?_ _ | refine blk_drew ?_ | refine blk_alloc ?_ _)); exact BK296.out) hb); have n3_ := Aside0.mk (blk_below (g := gb297) (o := .cells #[.int .i64 0, .string (⟨#[]⟩ : ByteArray), .string (⟨#[]⟩ : ByteArray), .int .u64 0] 55 (0, 0)) (by (with_reducible repeat (first | refine blk_drewN ?_ _ | refine blk_drew ?_ | refine blk_alloc ?_ _)); exact BK297.out) hb); have n4_ := Aside0.mk (below_step (by repeat (first | (with_reducible first | exact HB.out | apply below_alloc | apply pw_below_drewN | apply below_drew1 | refine below_set ?_ GE295.out | refine below_set ?_ GE296.out | refine below_set ?_ GE297.out) | exact HB.out)) hb); clear HO300; clear BK295; clear BK296; clear BK297; clear HB; have HO300 := n0_; have BK295 := n1_; have BK296 := n2_; have BK297 := n3_; have HB := n4_; clear n0_ n1_ n2_ n3_ n4_; (try clear hb); (try clear hb2); (try clear hk); (try clear hi); have hcz47_0 : w46.cell? ⟨gb296, 0, none⟩ = some (.int .i64 a1_0) := (blk_cell BK296.out 0).trans rfl; have hcz47_1 : w46.cell? ⟨gb296, 1, none⟩ = some (.string a1_1) := (blk_cell BK296.out 1).trans rfl; have hcz47_2 : w46.cell? ⟨gb296, 2, none⟩ = some (.string a1_2) := (blk_cell BK296.out 2).trans rfl; have hcz47_3 : w46.cell? ⟨gb296, 3, none⟩ = some (.int .u64 a1_3) := (blk_cell BK296.out 3).trans rfl; have hfz47_0 := blk_frozen BK296.out 0; have hfz47_1 := blk_frozen BK296.out 1; have hfz47_2 := blk_frozen BK296.out 2; have hfz47_3 := blk_frozen BK296.out 3; have hcz48_0 : w46.cell? ⟨gb297, 0, none⟩ = some (.int .i64 0) := (blk_cell BK297.out 0).trans rfl; have hcz48_1 : w46.cell? ⟨gb297, 1, none⟩ = some (.string (⟨#[]⟩ : ByteArray)) := (blk_cell BK297.out 1).trans rfl; have hcz48_2 : w46.cell? ⟨gb297, 2, none⟩ = some (.string (⟨#[]⟩ : ByteArray)) := (blk_cell BK297.out 2).trans rfl; have hcz48_3 : w46.cell? ⟨gb297, 3, none⟩ = some (.int .u64 0) := (blk_cell BK297.out 3).trans rfl; have hfz48_0 := blk_frozen BK297.out 0; have hfz48_1 := blk_frozen BK297.out 1; have hfz48_2 := blk_frozen BK297.out 2; have hfz48_3 := blk_frozen BK297.out 3))
                refine bodyPost_ret (results_cell_row rfl _ _ gb297 55 #[.int .i64 1, .string a1_1, .string t301, .int .u64 0] (0, 0) _ rfl (by (with_reducible repeat (first | refine blk_drewN ?_ _ | refine blk_drew ?_ | refine blk_alloc ?_ _)); refine blk_put (cs := #[.int .i64 1, .string a1_1, .string t301, .int .u64 0]) ?_ 3 _ rfl; (with_reducible repeat (first | refine blk_drewN ?_ _ | refine blk_drew ?_ | refine blk_alloc ?_ _)); refine blk_put (cs := #[.int .i64 1, .string a1_1, .string (⟨#[]⟩ : ByteArray), .int .u64 0]) ?_ 2 _ rfl; (with_reducible repeat (first | refine blk_drewN ?_ _ | refine blk_drew ?_ | refine blk_alloc ?_ _)); refine blk_put (cs := #[.int .i64 1, .string (⟨#[]⟩ : ByteArray), .string (⟨#[]⟩ : ByteArray), .int .u64 0]) ?_ 1 _ rfl; (with_reducible repeat (first | refine blk_drewN ?_ _ | refine blk_drew ?_ | refine blk_alloc ?_ _)); refine blk_put (cs := #[.int .i64 0, .string (⟨#[]⟩ : ByteArray), .string (⟨#[]⟩ : ByteArray), .int .u64 0]) ?_ 0 _ rfl; (with_reducible repeat (first | refine blk_drewN ?_ _ | refine blk_drew ?_ | refine blk_alloc ?_ _)); exact BK297.out) Try.underlying55 rfl (by kernel_rfl)) rfl ?_
                exact ⟨by first | rfl | (simp [errW_none, errW_some] <;> rfl) | (simp [*, errW_none, errW_some] <;> rfl), by repeat (first | (with_reducible first | exact HB.out | apply below_alloc | apply pw_below_drewN | apply below_drew1 | refine below_set ?_ GE295.out | refine below_set ?_ GE296.out | refine below_set ?_ GE297.out) | exact HB.out)⟩
              · replace c36 := Bool.eq_false_iff.mpr c36
                subst c36
                have H1 : (if a0_0 = 3 then (some (a1_0, a1_1, a1_2, IntKind.u64.wrap (a1_3 + a0_3))) else (some (a1_0, a1_1, a1_2, a1_3))) = some (r1, r2, r3, r4) := by rw [if_neg (show ¬ (false = true) by decide)] at H; exact H
                clear H
                have H := H1
                clear H1
                by_cases c49 : a0_0 = 3
                · rw [if_pos c49] at H
                  have c49b0 : (a0_0 == 3) = true := beq_iff_eq.mpr c49
                  have c49b1 : (a0_0 != 3) = false := bne_eq_false_iff_eq.mpr c49
                  clear c49
                  simp only [Option.some.injEq, Prod.mk.injEq] at H
                  obtain ⟨rfl, rfl, rfl, rfl⟩ := H
                  have hnb50 := NB295_296.out
                  have hnc50 := NB296_295.out
                  have hnb51 := NB295_297.out
                  have hnc51 := NB297_295.out
                  have hcz52_0 : wc.cell? ⟨gb295, 0, none⟩ = some (.int .i64 a0_0) := (blk_cell BK295.out 0).trans rfl
                  have hcz52_1 : wc.cell? ⟨gb295, 1, none⟩ = some (.string a0_1) := (blk_cell BK295.out 1).trans rfl
                  have hcz52_2 : wc.cell? ⟨gb295, 2, none⟩ = some (.string a0_2) := (blk_cell BK295.out 2).trans rfl
                  have hcz52_3 : wc.cell? ⟨gb295, 3, none⟩ = some (.int .u64 a0_3) := (blk_cell BK295.out 3).trans rfl
                  have hfz52_0 := blk_frozen BK295.out 0
                  have hfz52_1 := blk_frozen BK295.out 1
                  have hfz52_2 := blk_frozen BK295.out 2
                  have hfz52_3 := blk_frozen BK295.out 3
                  have hnb53 := NB296_297.out
                  have hnc53 := NB297_296.out
                  have hcz54_0 : wc.cell? ⟨gb296, 0, none⟩ = some (.int .i64 a1_0) := (blk_cell BK296.out 0).trans rfl
                  have hcz54_1 : wc.cell? ⟨gb296, 1, none⟩ = some (.string a1_1) := (blk_cell BK296.out 1).trans rfl
                  have hcz54_2 : wc.cell? ⟨gb296, 2, none⟩ = some (.string a1_2) := (blk_cell BK296.out 2).trans rfl
                  have hcz54_3 : wc.cell? ⟨gb296, 3, none⟩ = some (.int .u64 a1_3) := (blk_cell BK296.out 3).trans rfl
                  have hfz54_0 := blk_frozen BK296.out 0
                  have hfz54_1 := blk_frozen BK296.out 1
                  have hfz54_2 := blk_frozen BK296.out 2
                  have hfz54_3 := blk_frozen BK296.out 3
                  have hcz55_0 : wc.cell? ⟨gb297, 0, none⟩ = some (.int .i64 0) := (blk_cell BK297.out 0).trans rfl
                  have hcz55_1 : wc.cell? ⟨gb297, 1, none⟩ = some (.string (⟨#[]⟩ : ByteArray)) := (blk_cell BK297.out 1).trans rfl
                  have hcz55_2 : wc.cell? ⟨gb297, 2, none⟩ = some (.string (⟨#[]⟩ : ByteArray)) := (blk_cell BK297.out 2).trans rfl
                  have hcz55_3 : wc.cell? ⟨gb297, 3, none⟩ = some (.int .u64 0) := (blk_cell BK297.out 3).trans rfl
                  have hfz55_0 := blk_frozen BK297.out 0
                  have hfz55_1 := blk_frozen BK297.out 1
                  have hfz55_2 := blk_frozen BK297.out 2
                  have hfz55_3 := blk_frozen BK297.out 3
                  go_wp2
                  refine bodyPost_ret (results_cell_row rfl _ _ gb297 55 #[.int .i64 a1_0, .string a1_1, .string a1_2, .int .u64 (IntKind.u64.wrap (a1_3 + a0_3))] (0, 0) _ rfl (by (with_reducible repeat (first | refine blk_drewN ?_ _ | refine blk_drew ?_ | refine blk_alloc ?_ _)); refine blk_put (cs := #[.int .i64 a1_0, .string a1_1, .string a1_2, .int .u64 0]) ?_ 3 _ rfl; (with_reducible repeat (first | refine blk_drewN ?_ _ | refine blk_drew ?_ | refine blk_alloc ?_ _)); refine blk_put (cs := #[.int .i64 a1_0, .string a1_1, .string (⟨#[]⟩ : ByteArray), .int .u64 0]) ?_ 2 _ rfl; (with_reducible repeat (first | refine blk_drewN ?_ _ | refine blk_drew ?_ | refine blk_alloc ?_ _)); refine blk_put (cs := #[.int .i64 a1_0, .string (⟨#[]⟩ : ByteArray), .string (⟨#[]⟩ : ByteArray), .int .u64 0]) ?_ 1 _ rfl; (with_reducible repeat (first | refine blk_drewN ?_ _ | refine blk_drew ?_ | refine blk_alloc ?_ _)); refine blk_put (cs := #[.int .i64 0, .string (⟨#[]⟩ : ByteArray), .string (⟨#[]⟩ : ByteArray), .int .u64 0]) ?_ 0 _ rfl; (with_reducible repeat (first | refine blk_drewN ?_ _ | refine blk_drew ?_ | refine blk_alloc ?_ _)); refine blk_far ?_ NB297_296.out _; (with_reducible repeat (first | refine blk_drewN ?_ _ | refine blk_drew ?_ | refine blk_alloc ?_ _)); exact BK297.out) Try.underlying55 rfl (by kernel_rfl)) rfl ?_
                  exact ⟨by first | rfl | (simp [errW_none, errW_some] <;> rfl) | (simp [*, errW_none, errW_some] <;> rfl), by repeat (first | (with_reducible first | exact HB.out | apply below_alloc | apply pw_below_drewN | apply below_drew1 | refine below_set ?_ GE295.out | refine below_set ?_ GE296.out | refine below_set ?_ GE297.out) | exact HB.out)⟩
                · rw [if_neg c49] at H
                  have c49b0 : (a0_0 == 3) = false := beq_eq_false_iff_ne.mpr c49
                  have c49b1 : (a0_0 != 3) = true := bne_iff_ne.mpr c49
                  simp only [Option.some.injEq, Prod.mk.injEq] at H
                  obtain ⟨rfl, rfl, rfl, rfl⟩ := H
                  have hnb56 := NB295_296.out
                  have hnc56 := NB296_295.out
                  have hnb57 := NB295_297.out
                  have hnc57 := NB297_295.out
                  have hcz58_0 : wc.cell? ⟨gb295, 0, none⟩ = some (.int .i64 a0_0) := (blk_cell BK295.out 0).trans rfl
                  have hcz58_1 : wc.cell? ⟨gb295, 1, none⟩ = some (.string a0_1) := (blk_cell BK295.out 1).trans rfl
                  have hcz58_2 : wc.cell? ⟨gb295, 2, none⟩ = some (.string a0_2) := (blk_cell BK295.out 2).trans rfl
                  have hcz58_3 : wc.cell? ⟨gb295, 3, none⟩ = some (.int .u64 a0_3) := (blk_cell BK295.out 3).trans rfl
                  have hfz58_0 := blk_frozen BK295.out 0
                  have hfz58_1 := blk_frozen BK295.out 1
                  have hfz58_2 := blk_frozen BK295.out 2
                  have hfz58_3 := blk_frozen BK295.out 3
                  have hnb59 := NB296_297.out
                  have hnc59 := NB297_296.out
                  have hcz60_0 : wc.cell? ⟨gb296, 0, none⟩ = some (.int .i64 a1_0) := (blk_cell BK296.out 0).trans rfl
                  have hcz60_1 : wc.cell? ⟨gb296, 1, none⟩ = some (.string a1_1) := (blk_cell BK296.out 1).trans rfl
                  have hcz60_2 : wc.cell? ⟨gb296, 2, none⟩ = some (.string a1_2) := (blk_cell BK296.out 2).trans rfl
                  have hcz60_3 : wc.cell? ⟨gb296, 3, none⟩ = some (.int .u64 a1_3) := (blk_cell BK296.out 3).trans rfl
                  have hfz60_0 := blk_frozen BK296.out 0
                  have hfz60_1 := blk_frozen BK296.out 1
                  have hfz60_2 := blk_frozen BK296.out 2
                  have hfz60_3 := blk_frozen BK296.out 3
                  have hcz61_0 : wc.cell? ⟨gb297, 0, none⟩ = some (.int .i64 0) := (blk_cell BK297.out 0).trans rfl
                  have hcz61_1 : wc.cell? ⟨gb297, 1, none⟩ = some (.string (⟨#[]⟩ : ByteArray)) := (blk_cell BK297.out 1).trans rfl
                  have hcz61_2 : wc.cell? ⟨gb297, 2, none⟩ = some (.string (⟨#[]⟩ : ByteArray)) := (blk_cell BK297.out 2).trans rfl
                  have hcz61_3 : wc.cell? ⟨gb297, 3, none⟩ = some (.int .u64 0) := (blk_cell BK297.out 3).trans rfl
                  have hfz61_0 := blk_frozen BK297.out 0
                  have hfz61_1 := blk_frozen BK297.out 1
                  have hfz61_2 := blk_frozen BK297.out 2
                  have hfz61_3 := blk_frozen BK297.out 3
                  go_wp2
                  refine bodyPost_ret (results_cell_row rfl _ _ gb297 55 #[.int .i64 a1_0, .string a1_1, .string a1_2, .int .u64 a1_3] (0, 0) _ rfl (by (with_reducible repeat (first | refine blk_drewN ?_ _ | refine blk_drew ?_ | refine blk_alloc ?_ _)); refine blk_put (cs := #[.int .i64 a1_0, .string a1_1, .string a1_2, .int .u64 0]) ?_ 3 _ rfl; (with_reducible repeat (first | refine blk_drewN ?_ _ | refine blk_drew ?_ | refine blk_alloc ?_ _)); refine blk_put (cs := #[.int .i64 a1_0, .string a1_1, .string (⟨#[]⟩ : ByteArray), .int .u64 0]) ?_ 2 _ rfl; (with_reducible repeat (first | refine blk_drewN ?_ _ | refine blk_drew ?_ | refine blk_alloc ?_ _)); refine blk_put (cs := #[.int .i64 a1_0, .string (⟨#[]⟩ : ByteArray), .string (⟨#[]⟩ : ByteArray), .int .u64 0]) ?_ 1 _ rfl; (with_reducible repeat (first | refine blk_drewN ?_ _ | refine blk_drew ?_ | refine blk_alloc ?_ _)); refine blk_put (cs := #[.int .i64 0, .string (⟨#[]⟩ : ByteArray), .string (⟨#[]⟩ : ByteArray), .int .u64 0]) ?_ 0 _ rfl; (with_reducible repeat (first | refine blk_drewN ?_ _ | refine blk_drew ?_ | refine blk_alloc ?_ _)); exact BK297.out) Try.underlying55 rfl (by kernel_rfl)) rfl ?_
                  exact ⟨by first | rfl | (simp [errW_none, errW_some] <;> rfl) | (simp [*, errW_none, errW_some] <;> rfl), by repeat (first | (with_reducible first | exact HB.out | apply below_alloc | apply pw_below_drewN | apply below_drew1 | refine below_set ?_ GE295.out | refine below_set ?_ GE296.out | refine below_set ?_ GE297.out) | exact HB.out)⟩
        · rw [if_neg c25] at H
          have c25b0 : (a1_0 == 3) = false := beq_eq_false_iff_ne.mpr c25
          have c25b1 : (a1_0 != 3) = true := bne_iff_ne.mpr c25
          simp only [Option.some.injEq, Prod.mk.injEq] at H
          obtain ⟨rfl, rfl, rfl, rfl⟩ := H
          have hnb62 := NB296_295.out
          have hnc62 := NB295_296.out
          have hnb63 := NB296_297.out
          have hnc63 := NB297_296.out
          have hcz64_0 : wc.cell? ⟨gb296, 0, none⟩ = some (.int .i64 a1_0) := (blk_cell BK296.out 0).trans rfl
          have hcz64_1 : wc.cell? ⟨gb296, 1, none⟩ = some (.string a1_1) := (blk_cell BK296.out 1).trans rfl
          have hcz64_2 : wc.cell? ⟨gb296, 2, none⟩ = some (.string a1_2) := (blk_cell BK296.out 2).trans rfl
          have hcz64_3 : wc.cell? ⟨gb296, 3, none⟩ = some (.int .u64 a1_3) := (blk_cell BK296.out 3).trans rfl
          have hfz64_0 := blk_frozen BK296.out 0
          have hfz64_1 := blk_frozen BK296.out 1
          have hfz64_2 := blk_frozen BK296.out 2
          have hfz64_3 := blk_frozen BK296.out 3
          have hnb65 := NB297_295.out
          have hnc65 := NB295_297.out
          have hcz66_0 : wc.cell? ⟨gb297, 0, none⟩ = some (.int .i64 0) := (blk_cell BK297.out 0).trans rfl
          have hcz66_1 : wc.cell? ⟨gb297, 1, none⟩ = some (.string (⟨#[]⟩ : ByteArray)) := (blk_cell BK297.out 1).trans rfl
          have hcz66_2 : wc.cell? ⟨gb297, 2, none⟩ = some (.string (⟨#[]⟩ : ByteArray)) := (blk_cell BK297.out 2).trans rfl
          have hcz66_3 : wc.cell? ⟨gb297, 3, none⟩ = some (.int .u64 0) := (blk_cell BK297.out 3).trans rfl
          have hfz66_0 := blk_frozen BK297.out 0
          have hfz66_1 := blk_frozen BK297.out 1
          have hfz66_2 := blk_frozen BK297.out 2
          have hfz66_3 := blk_frozen BK297.out 3
          go_wp2
          refine bodyPost_ret (results_cell_row rfl _ _ gb297 55 #[.int .i64 a1_0, .string a1_1, .string a1_2, .int .u64 a1_3] (0, 0) _ rfl (by (with_reducible repeat (first | refine blk_drewN ?_ _ | refine blk_drew ?_ | refine blk_alloc ?_ _)); refine blk_put (cs := #[.int .i64 a1_0, .string a1_1, .string a1_2, .int .u64 0]) ?_ 3 _ rfl; (with_reducible repeat (first | refine blk_drewN ?_ _ | refine blk_drew ?_ | refine blk_alloc ?_ _)); refine blk_put (cs := #[.int .i64 a1_0, .string a1_1, .string (⟨#[]⟩ : ByteArray), .int .u64 0]) ?_ 2 _ rfl; (with_reducible repeat (first | refine blk_drewN ?_ _ | refine blk_drew ?_ | refine blk_alloc ?_ _)); refine blk_put (cs := #[.int .i64 a1_0, .string (⟨#[]⟩ : ByteArray), .string (⟨#[]⟩ : ByteArray), .int .u64 0]) ?_ 1 _ rfl; (with_reducible repeat (first | refine blk_drewN ?_ _ | refine blk_drew ?_ | refine blk_alloc ?_ _)); refine blk_put (cs := #[.int .i64 0, .string (⟨#[]⟩ : ByteArray), .string (⟨#[]⟩ : ByteArray), .int .u64 0]) ?_ 0 _ rfl; (with_reducible repeat (first | refine blk_drewN ?_ _ | refine blk_drew ?_ | refine blk_alloc ?_ _)); exact BK297.out) Try.underlying55 rfl (by kernel_rfl)) rfl ?_
          exact ⟨by first | rfl | (simp [errW_none, errW_some] <;> rfl) | (simp [*, errW_none, errW_some] <;> rfl), by repeat (first | (with_reducible first | exact HB.out | apply below_alloc | apply pw_below_drewN | apply below_drew1 | refine below_set ?_ GE295.out | refine below_set ?_ GE296.out | refine below_set ?_ GE297.out) | exact HB.out)⟩

/-! ### note_Right: function 32 -/
def note_Right.j0 : Nat → Bool → Int → ByteArray → ByteArray → Int → Option (Bool)
  | 0, _, _, _, _, _ => none
  | k + 1, x12, x304000, x304001, x304002, x304003 => if x12 = true then (some false) else (if x304000 = 1 then (some (x304003 == 0)) else (if x304000 = 2 then (if x304003 = 0 then (some (x304002.toList == ([] : List UInt8))) else (some false)) else (if x304000 = 3 then (some (x304002.toList == ([] : List UInt8))) else (some false))))
def note_Right.f (k : Nat) (a0_0 : Int) (a0_1 : ByteArray) (a0_2 : ByteArray) (a0_3 : Int) : Option (Bool) := if (a0_1.size : Int) > 16 then (note_Right.j0 k true a0_0 a0_1 a0_2 a0_3) else (note_Right.j0 k (decide ((a0_2.size : Int) > 32)) a0_0 a0_1 a0_2 a0_3)
theorem note_Right.mono_l : ∀ k, (∀ y0 y1 y2 y3 y4, LeO (note_Right.j0 k y0 y1 y2 y3 y4) (note_Right.j0 (k + 1) y0 y1 y2 y3 y4))
  | 0 => fun _ _ _ _ _ r h => by simp [note_Right.j0] at h
  | k + 1 => by
    have ih0 := note_Right.mono_l k
    · intro y0 y1 y2 y3 y4
      unfold note_Right.j0
      repeat' first
      | (with_reducible exact ih0 _ _ _ _ _)
      | (with_reducible exact LeO.refl _)
      | (with_reducible exact LeO.none _)
      | (with_reducible refine LeO.ite ?_ ?_)
      | (with_reducible refine LeO.bind ?_ (fun _ => ?_))
      | exact ih0 _ _ _ _ _
      | exact LeO.none _
      | refine LeO.ite ?_ ?_
      | refine LeO.bind ?_ (fun _ => ?_)
theorem note_Right.mono : ∀ a0 a1 a2 a3 k, LeO (note_Right.f k a0 a1 a2 a3) (note_Right.f (k + 1) a0 a1 a2 a3) := by
  intro a0 a1 a2 a3 k
  have ih0 := note_Right.mono_l k
  unfold note_Right.f
  repeat' first
      | (with_reducible exact ih0 _ _ _ _ _)
      | (with_reducible exact LeO.refl _)
      | (with_reducible exact LeO.none _)
      | (with_reducible refine LeO.ite ?_ ?_)
      | (with_reducible refine LeO.bind ?_ (fun _ => ?_))
      | exact ih0 _ _ _ _ _
      | exact LeO.none _
      | refine LeO.ite ?_ ?_
      | refine LeO.bind ?_ (fun _ => ?_)
set_option maxHeartbeats 8000000 in
set_option maxRecDepth 100000 in
theorem note_Right.calls (k : Nat) (a0_0 : Int) (a0_1 : ByteArray) (a0_2 : ByteArray) (a0_3 : Int) (r : Bool) (w : World) (h : note_Right.f k a0_0 a0_1 a0_2 a0_3 = some r) :
    Calls Try.prog 32 #[.agg #[.int .i64 a0_0, .string a0_1, .string a0_2, .int .u64 a0_3]] w fun e w' => e = .returned (.bool r) ∧ Below w.heap.size w w' := by
  have hu55 := Try.underlying55
  have HB := Aside0.mk (Below.refl w.heap.size w)
  have H : (if (a0_1.size : Int) > 16 then (note_Right.j0 k true a0_0 a0_1 a0_2 a0_3) else (note_Right.j0 k (decide ((a0_2.size : Int) > 32)) a0_0 a0_1 a0_2 a0_3)) = some r := h
  clear h
  have HC2 := Aside0.mk H
  clear H
  go_enter Try.func32, Try.ntmps32
  go_upto_region 1 with (first | ((with_reducible refine gate_dst (N := 1) rfl ?_); (try (refine gate_guard (by rfl) ?_; dsimp only)); refine box_event ?hg (N := 1) ?hd (cs := #[.int .i64 a0_0, .string a0_1, .string a0_2, .int .u64 a0_3]) (t := 55) ?hr ?_; (case hd => rfl); (case hg => rfl); (case hr => first | (go_simp; done) | (go_simp; rfl)); intro gb303 hg w3 hbox hb; have n0_ := Aside0.mk (below_step (by repeat (first | (with_reducible first | exact HB.out | apply below_alloc | apply pw_below_drewN | apply below_drew1) | exact HB.out)) hb); have n1_ := Aside0.mk (hbox); have n2_ := Aside0.mk ((by rw [hg]; exact (below_size (by repeat (first | (with_reducible first | exact HB.out | apply below_alloc | apply pw_below_drewN | apply below_drew1) | exact HB.out))) : w.heap.size ≤ gb303)); have n3_ := Aside0.mk ((by rw [hg]; exact (below_size (by repeat (first | (with_reducible first | exact HB.out | apply below_alloc | apply pw_below_drewN | apply below_drew1) | exact HB.out))) : w.heap.size ≤ gb303)); clear HB; have HB := n0_; have BK303 := n1_; have GW303 := n2_; have GE303 := n3_; clear n0_ n1_ n2_ n3_; clear hb hbox hg))
  (try simp only [Act.put, List.setIfInBounds_toArray, List.set_cons_zero, List.set_cons_succ])
  go_cut [12] (fun v12 wc => ∃ (kq : Nat) (x12_1 : Bool), v12 = .bool x12_1 ∧ Aside0 (note_Right.j0 kq x12_1 a0_0 a0_1 a0_2 a0_3 = some r) ∧ Aside0 (kq ≤ k) ∧ Aside0 (wc.heap[gb303]? = some (.cells #[.int .i64 a0_0, .string a0_1, .string a0_2, .int .u64 a0_3] 55 (0, 0))) ∧ Aside0 (Below w.heap.size w wc))
  case first =>
    have H := HC2.out
    clear HC2
    by_cases c4 : (a0_1.size : Int) > 16
    · rw [if_pos c4] at H
      have c4b0 : decide (16 < (a0_1.size : Int)) = true := decide_eq_true c4
      have c4b1 : decide (16 < a0_1.size) = true := decide_eq_true (by omega)
      clear c4
      (first | rw [c4b0] | (simp only [i64_w, i32_w]; rw [c4b0]) | skip)
      have H' := Aside0.mk H
      clear H
      have hcz5_0 : w3.cell? ⟨gb303, 0, none⟩ = some (.int .i64 a0_0) := (blk_cell BK303.out 0).trans rfl
      have hcz5_1 : w3.cell? ⟨gb303, 1, none⟩ = some (.string a0_1) := (blk_cell BK303.out 1).trans rfl
      have hcz5_2 : w3.cell? ⟨gb303, 2, none⟩ = some (.string a0_2) := (blk_cell BK303.out 2).trans rfl
      have hcz5_3 : w3.cell? ⟨gb303, 3, none⟩ = some (.int .u64 a0_3) := (blk_cell BK303.out 3).trans rfl
      have hfz5_0 := blk_frozen BK303.out 0
      have hfz5_1 := blk_frozen BK303.out 1
      have hfz5_2 := blk_frozen BK303.out 2
      have hfz5_3 := blk_frozen BK303.out 3
      go_wp2
      go_meet
      case rel => exact ⟨_, (true), (by first | rfl | (simp; done) | (simp [*]; done)), H', ⟨by first | omega | exact Nat.le_refl _⟩, ⟨by (with_reducible repeat (first | refine blk_drewN ?_ _ | refine blk_drew ?_ | refine blk_alloc ?_ _)); exact BK303.out⟩, ⟨by repeat (first | (with_reducible first | exact HB.out | apply below_alloc | apply pw_below_drewN | apply below_drew1 | refine below_set ?_ GE303.out) | exact HB.out)⟩⟩
    · rw [if_neg c4] at H
      have c4b0 : decide (16 < (a0_1.size : Int)) = false := decide_eq_false c4
      have c4b1 : decide (16 < a0_1.size) = false := decide_eq_false (by omega)
      clear c4
      (first | rw [c4b0] | (simp only [i64_w, i32_w]; rw [c4b0]) | skip)
      have H' := Aside0.mk H
      clear H
      have hcz6_0 : w3.cell? ⟨gb303, 0, none⟩ = some (.int .i64 a0_0) := (blk_cell BK303.out 0).trans rfl
      have hcz6_1 : w3.cell? ⟨gb303, 1, none⟩ = some (.string a0_1) := (blk_cell BK303.out 1).trans rfl
      have hcz6_2 : w3.cell? ⟨gb303, 2, none⟩ = some (.string a0_2) := (blk_cell BK303.out 2).trans rfl
      have hcz6_3 : w3.cell? ⟨gb303, 3, none⟩ = some (.int .u64 a0_3) := (blk_cell BK303.out 3).trans rfl
      have hfz6_0 := blk_frozen BK303.out 0
      have hfz6_1 := blk_frozen BK303.out 1
      have hfz6_2 := blk_frozen BK303.out 2
      have hfz6_3 := blk_frozen BK303.out 3
      go_wp2
      go_meet
      case rel => exact ⟨_, (decide ((a0_2.size : Int) > 32)), (by first | rfl | (simp; done) | (simp [*]; done)), H', ⟨by first | omega | exact Nat.le_refl _⟩, ⟨by (with_reducible repeat (first | refine blk_drewN ?_ _ | refine blk_drew ?_ | refine blk_alloc ?_ _)); exact BK303.out⟩, ⟨by repeat (first | (with_reducible first | exact HB.out | apply below_alloc | apply pw_below_drewN | apply below_drew1 | refine below_set ?_ GE303.out) | exact HB.out)⟩⟩
  case rest =>
    clear HC2
    try clear p2
    try clear c3
    try clear c4
    try clear c4b0
    try clear c4b1
    try clear hcz5_0
    try clear hcz5_1
    try clear hcz5_2
    try clear hcz5_3
    try clear hcz6_0
    try clear hcz6_1
    try clear hcz6_2
    try clear hcz6_3
    try clear hfz5_0
    try clear hfz5_1
    try clear hfz5_2
    try clear hfz5_3
    try clear hfz6_0
    try clear hfz6_1
    try clear hfz6_2
    try clear hfz6_3
    obtain ⟨kq, x12_1, rfl, HA, HJ1, BK303, HB⟩ := hcut
    cases kq with
    | zero => exact absurd HA.out (by simp [note_Right.j0])
    | succ kj1 =>
      have H := HA.out
      clear HA
      simp only [note_Right.j0] at H
      by_cases c7 : x12_1 = true
      · subst c7
        have H1 : (some false) = some r := by rw [if_pos rfl] at H; exact H
        clear H
        have H := H1
        clear H1
        obtain rfl := Option.some.inj H
        go_wp2
        go_ret
        exact ⟨by first | rfl | (simp [errW_none, errW_some] <;> rfl) | (simp [*, errW_none, errW_some] <;> rfl), by repeat (first | (with_reducible first | exact HB.out | apply below_alloc | apply pw_below_drewN | apply below_drew1 | refine below_set ?_ GE303.out) | exact HB.out)⟩
      · replace c7 := Bool.eq_false_iff.mpr c7
        subst c7
        have H1 : (if a0_0 = 1 then (some (a0_3 == 0)) else (if a0_0 = 2 then (if a0_3 = 0 then (some (a0_2.toList == ([] : List UInt8))) else (some false)) else (if a0_0 = 3 then (some (a0_2.toList == ([] : List UInt8))) else (some false)))) = some r := by rw [if_neg (show ¬ (false = true) by decide)] at H; exact H
        clear H
        have H := H1
        clear H1
        by_cases c8 : a0_0 = 1
        · rw [if_pos c8] at H
          have c8b0 : (a0_0 == 1) = true := beq_iff_eq.mpr c8
          have c8b1 : (a0_0 != 1) = false := bne_eq_false_iff_eq.mpr c8
          clear c8
          obtain rfl := Option.some.inj H
          have hcz9_0 : wc.cell? ⟨gb303, 0, none⟩ = some (.int .i64 a0_0) := (blk_cell BK303.out 0).trans rfl
          have hcz9_1 : wc.cell? ⟨gb303, 1, none⟩ = some (.string a0_1) := (blk_cell BK303.out 1).trans rfl
          have hcz9_2 : wc.cell? ⟨gb303, 2, none⟩ = some (.string a0_2) := (blk_cell BK303.out 2).trans rfl
          have hcz9_3 : wc.cell? ⟨gb303, 3, none⟩ = some (.int .u64 a0_3) := (blk_cell BK303.out 3).trans rfl
          have hfz9_0 := blk_frozen BK303.out 0
          have hfz9_1 := blk_frozen BK303.out 1
          have hfz9_2 := blk_frozen BK303.out 2
          have hfz9_3 := blk_frozen BK303.out 3
          go_wp2
          go_ret
          exact ⟨by first | rfl | (simp [errW_none, errW_some] <;> rfl) | (simp [*, errW_none, errW_some] <;> rfl), by repeat (first | (with_reducible first | exact HB.out | apply below_alloc | apply pw_below_drewN | apply below_drew1 | refine below_set ?_ GE303.out) | exact HB.out)⟩
        · rw [if_neg c8] at H
          have c8b0 : (a0_0 == 1) = false := beq_eq_false_iff_ne.mpr c8
          have c8b1 : (a0_0 != 1) = true := bne_iff_ne.mpr c8
          by_cases c10 : a0_0 = 2
          · rw [if_pos c10] at H
            have c10b0 : (a0_0 == 2) = true := beq_iff_eq.mpr c10
            have c10b1 : (a0_0 != 2) = false := bne_eq_false_iff_eq.mpr c10
            clear c10
            by_cases c11 : a0_3 = 0
            · rw [if_pos c11] at H
              have c11b0 : (a0_3 == 0) = true := beq_iff_eq.mpr c11
              have c11b1 : (a0_3 != 0) = false := bne_eq_false_iff_eq.mpr c11
              clear c11
              obtain rfl := Option.some.inj H
              have hcz12_0 : wc.cell? ⟨gb303, 0, none⟩ = some (.int .i64 a0_0) := (blk_cell BK303.out 0).trans rfl
              have hcz12_1 : wc.cell? ⟨gb303, 1, none⟩ = some (.string a0_1) := (blk_cell BK303.out 1).trans rfl
              have hcz12_2 : wc.cell? ⟨gb303, 2, none⟩ = some (.string a0_2) := (blk_cell BK303.out 2).trans rfl
              have hcz12_3 : wc.cell? ⟨gb303, 3, none⟩ = some (.int .u64 a0_3) := (blk_cell BK303.out 3).trans rfl
              have hfz12_0 := blk_frozen BK303.out 0
              have hfz12_1 := blk_frozen BK303.out 1
              have hfz12_2 := blk_frozen BK303.out 2
              have hfz12_3 := blk_frozen BK303.out 3
              go_wp2
              go_ret
              exact ⟨by first | rfl | (simp [errW_none, errW_some] <;> rfl) | (simp [*, errW_none, errW_some] <;> rfl), by repeat (first | (with_reducible first | exact HB.out | apply below_alloc | apply pw_below_drewN | apply below_drew1 | refine below_set ?_ GE303.out) | exact HB.out)⟩
            · rw [if_neg c11] at H
              have c11b0 : (a0_3 == 0) = false := beq_eq_false_iff_ne.mpr c11
              have c11b1 : (a0_3 != 0) = true := bne_iff_ne.mpr c11
              obtain rfl := Option.some.inj H
              have hcz13_0 : wc.cell? ⟨gb303, 0, none⟩ = some (.int .i64 a0_0) := (blk_cell BK303.out 0).trans rfl
              have hcz13_1 : wc.cell? ⟨gb303, 1, none⟩ = some (.string a0_1) := (blk_cell BK303.out 1).trans rfl
              have hcz13_2 : wc.cell? ⟨gb303, 2, none⟩ = some (.string a0_2) := (blk_cell BK303.out 2).trans rfl
              have hcz13_3 : wc.cell? ⟨gb303, 3, none⟩ = some (.int .u64 a0_3) := (blk_cell BK303.out 3).trans rfl
              have hfz13_0 := blk_frozen BK303.out 0
              have hfz13_1 := blk_frozen BK303.out 1
              have hfz13_2 := blk_frozen BK303.out 2
              have hfz13_3 := blk_frozen BK303.out 3
              go_wp2
              go_ret
              exact ⟨by first | rfl | (simp [errW_none, errW_some] <;> rfl) | (simp [*, errW_none, errW_some] <;> rfl), by repeat (first | (with_reducible first | exact HB.out | apply below_alloc | apply pw_below_drewN | apply below_drew1 | refine below_set ?_ GE303.out) | exact HB.out)⟩
          · rw [if_neg c10] at H
            have c10b0 : (a0_0 == 2) = false := beq_eq_false_iff_ne.mpr c10
            have c10b1 : (a0_0 != 2) = true := bne_iff_ne.mpr c10
            by_cases c14 : a0_0 = 3
            · rw [if_pos c14] at H
              have c14b0 : (a0_0 == 3) = true := beq_iff_eq.mpr c14
              have c14b1 : (a0_0 != 3) = false := bne_eq_false_iff_eq.mpr c14
              clear c14
              obtain rfl := Option.some.inj H
              have hcz15_0 : wc.cell? ⟨gb303, 0, none⟩ = some (.int .i64 a0_0) := (blk_cell BK303.out 0).trans rfl
              have hcz15_1 : wc.cell? ⟨gb303, 1, none⟩ = some (.string a0_1) := (blk_cell BK303.out 1).trans rfl
              have hcz15_2 : wc.cell? ⟨gb303, 2, none⟩ = some (.string a0_2) := (blk_cell BK303.out 2).trans rfl
              have hcz15_3 : wc.cell? ⟨gb303, 3, none⟩ = some (.int .u64 a0_3) := (blk_cell BK303.out 3).trans rfl
              have hfz15_0 := blk_frozen BK303.out 0
              have hfz15_1 := blk_frozen BK303.out 1
              have hfz15_2 := blk_frozen BK303.out 2
              have hfz15_3 := blk_frozen BK303.out 3
              go_wp2
              go_ret
              exact ⟨by first | rfl | (simp [errW_none, errW_some] <;> rfl) | (simp [*, errW_none, errW_some] <;> rfl), by repeat (first | (with_reducible first | exact HB.out | apply below_alloc | apply pw_below_drewN | apply below_drew1 | refine below_set ?_ GE303.out) | exact HB.out)⟩
            · rw [if_neg c14] at H
              have c14b0 : (a0_0 == 3) = false := beq_eq_false_iff_ne.mpr c14
              have c14b1 : (a0_0 != 3) = true := bne_iff_ne.mpr c14
              obtain rfl := Option.some.inj H
              have hcz16_0 : wc.cell? ⟨gb303, 0, none⟩ = some (.int .i64 a0_0) := (blk_cell BK303.out 0).trans rfl
              have hcz16_1 : wc.cell? ⟨gb303, 1, none⟩ = some (.string a0_1) := (blk_cell BK303.out 1).trans rfl
              have hcz16_2 : wc.cell? ⟨gb303, 2, none⟩ = some (.string a0_2) := (blk_cell BK303.out 2).trans rfl
              have hcz16_3 : wc.cell? ⟨gb303, 3, none⟩ = some (.int .u64 a0_3) := (blk_cell BK303.out 3).trans rfl
              have hfz16_0 := blk_frozen BK303.out 0
              have hfz16_1 := blk_frozen BK303.out 1
              have hfz16_2 := blk_frozen BK303.out 2
              have hfz16_3 := blk_frozen BK303.out 3
              go_wp2
              go_ret
              exact ⟨by first | rfl | (simp [errW_none, errW_some] <;> rfl) | (simp [*, errW_none, errW_some] <;> rfl), by repeat (first | (with_reducible first | exact HB.out | apply below_alloc | apply pw_below_drewN | apply below_drew1 | refine below_set ?_ GE303.out) | exact HB.out)⟩

end Go.Proofs.Ytgccimhdbphenaa.F

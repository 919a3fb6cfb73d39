/- Contracts of Go functions of the seat Ythcohkgpbjcliaa: what a call comes to; no condition but those that each theorem names. -/
import Derived.Test.YthcohkgpbjcliaaFPre
import Derived.Test.YthcohkgpbjcliaaFspacex0
namespace Go.Proofs.Ythcohkgpbjcliaa.F
open Go.RowKit Go.Proofs.YthcohkgpbjcliaaW.PrintWords Go.Proofs.YthcohkgpbjcliaaW.PrintLast Go.Proofs.YthcohkgpbjcliaaW.PrintMore
attribute [local go_sem] max2_int min2_int max_two min_two max_three min_three max_four min_four   -- for this text's walks alone
set_option linter.unusedVariables false
set_option linter.unusedSimpArgs false

/-! ### space_Left: function 39 -/
def space_Left.l0 : Nat → Int → List (S66) → Int → Int → Option (Int)
  | 0, _, _, _, _ => none
  | k + 1, x7, x13, x14, x15 => if x15 < x14 then (if 0 ≤ x15 then (if x15 < (x13.length : Int) then (space_Left.l0 k (wrap64 (x7 + ((rd_T66 x13 x15).f1))) x13 x14 (wrap64 (x15 + 1))) else (none)) else (none)) else (some x7)
def space_Left.f (k : Nat) (a0 : Int) (a1 : Int) (l2 : List (S66)) : Option (Int) := (space_Free.f k a0 a1 l2).bind fun t585 => (space_Left.l0 k 0 t585 (t585.length : Int) 0)
theorem space_Left.mono_l : ∀ k, (∀ y0 y1 y2 y3, LeO (space_Left.l0 k y0 y1 y2 y3) (space_Left.l0 (k + 1) y0 y1 y2 y3))
  | 0 => fun _ _ _ _ r h => by simp [space_Left.l0] at h
  | k + 1 => by
    have ih0 := space_Left.mono_l k
    · intro y0 y1 y2 y3
      unfold space_Left.l0
      repeat' first
      | (with_reducible exact ih0 _ _ _ _)
      | (with_reducible exact space_Free.mono _ _ _ _)
      | (with_reducible exact LeO.refl _)
      | (with_reducible exact LeO.none _)
      | (with_reducible refine LeO.ite ?_ ?_)
      | (with_reducible refine LeO.bind ?_ (fun _ => ?_))
      | exact ih0 _ _ _ _
      | exact space_Free.mono _ _ _ _
      | exact LeO.none _
      | refine LeO.ite ?_ ?_
      | refine LeO.bind ?_ (fun _ => ?_)
theorem space_Left.mono : ∀ a0 a1 a2 k, LeO (space_Left.f k a0 a1 a2) (space_Left.f (k + 1) a0 a1 a2) := by
  intro a0 a1 a2 k
  have ih0 := space_Left.mono_l k
  unfold space_Left.f
  repeat' first
      | (with_reducible exact ih0 _ _ _ _)
      | (with_reducible exact space_Free.mono _ _ _ _)
      | (with_reducible exact LeO.refl _)
      | (with_reducible exact LeO.none _)
      | (with_reducible refine LeO.ite ?_ ?_)
      | (with_reducible refine LeO.bind ?_ (fun _ => ?_))
      | exact ih0 _ _ _ _
      | exact space_Free.mono _ _ _ _
      | exact LeO.none _
      | refine LeO.ite ?_ ?_
      | refine LeO.bind ?_ (fun _ => ?_)
set_option maxHeartbeats 8000000 in
set_option maxRecDepth 100000 in
theorem space_Left.calls (k : Nat) (a0 : Int) (a1 : Int) (A2 : Option Addr) (c2 : Nat) (l2 : List (S66)) (r : Int) (w : World) (hr2 : Kd.C k66 w A2 l2.length l2) (hc2 : l2.length ≤ c2) (h : space_Left.f k a0 a1 l2 = some r) :
    Calls Try.prog 39 #[.int .i64 a0, .int .i64 a1, .slice A2 l2.length c2] w fun e w' => e = .returned (.int .i64 r) ∧ Below w.heap.size w w' := by
  have hu66 := Try.underlying66
  have HR2 := Aside0.mk hr2
  have HC2 := Aside0.mk hc2
  clear hr2 hc2
  have HB := Aside0.mk (Below.refl w.heap.size w)
  have H : ((space_Free.f k a0 a1 l2).bind fun t585 => (space_Left.l0 k 0 t585 (t585.length : Int) 0)) = some r := h
  clear h
  replace H := Option.bind_eq_some_iff.mp H
  obtain ⟨t585, A40, H⟩ := H
  replace H : (space_Left.l0 k 0 t585 (t585.length : Int) 0) = some r := H
  have A4 := Aside0.mk A40
  clear A40
  have H' := Aside0.mk H
  clear H
  go_enter Try.func39, Try.ntmps39
  go_wp2_with (first | ((with_reducible refine gate_callee (f := 31) rfl ?_); refine goesL_ (some 13) rfl rfl Try.func31 (by kernel_rfl) rfl #[.int .i64 a0, .int .i64 a1, .slice A2 l2.length c2] rfl (by (try simp only [List.map_toArray, List.map_cons, List.map_nil]); first | done | rfl | (simp only [List.length_drop, List.length_take]; rfl)) ?_; (with_reducible refine (space_Free.calls k a0 a1 _ _ l2 t585 _ ?side1 ?side2 A4.out).mono ?_); (case side1 => repeat (first | exact HR2.out | (with_reducible refine Kd.C_alloc ?_ _) | (with_reducible refine Kd.C_drewN ?_ _) | (with_reducible refine Kd.C_drew ?_))); (case side2 => exact HC2.out); rintro e w5 ⟨v586, rfl, ho0, hb⟩; refine ⟨_, rfl, ?_⟩; have n0_ := Aside0.mk (Kd.R_lower ho0 (below_size (by repeat (first | (with_reducible first | exact HB.out | apply below_alloc | apply pw_below_drewN | apply below_drew1) | exact HB.out)))); have n1_ := Aside0.mk (below_step (by repeat (first | (with_reducible first | exact HB.out | apply below_alloc | apply pw_below_drewN | apply below_drew1) | exact HB.out)) hb); clear HB; have HO587 := n0_; have HB := n1_; clear n0_ n1_; (try clear hb); (try clear hb2); (try clear hk); (try clear hi); (try clear ho0); obtain ⟨Ao6, co6, eo6⟩ := Kd.R_slice HO587.out; subst eo6))
  go_loopg [7, 15] k (fun kq v7 v15 w' => ∃ (x7_1 : Int) (x15_1 : Int), v7 = .int .i64 x7_1 ∧ v15 = .int .i64 x15_1 ∧ Aside0 (space_Left.l0 kq x7_1 t585 (t585.length : Int) x15_1 = some r) ∧ Aside0 (kq ≤ k) ∧ Aside0 (Kd.R k66 66 w' w.heap.size (fun _ => True) (.slice Ao6 t585.length co6) t585) ∧ Aside0 (Below w.heap.size w w'))
  case atStart => exact ⟨(0), (0), (by first | rfl | (simp; done) | (simp [*]; done)), (by first | rfl | (simp; done) | (simp [*]; done)), H', ⟨Nat.le_refl _⟩, ⟨by (with_reducible repeat (first | apply Kd.R_alloc | apply Kd.R_drewN | apply Kd.R_drew)); exact HO587.out⟩, ⟨by repeat (first | (with_reducible first | exact HB.out | apply below_alloc | apply pw_below_drewN | apply below_drew1) | exact HB.out)⟩⟩
  case round =>
    clear H'
    try clear c2
    try clear p2
    try clear c3
    obtain ⟨x7_1, x15_1, rfl, rfl, HA, HK1, HO_13, HB⟩ := hrel
    cases gk with
    | zero => exact absurd HA.out (by simp [space_Left.l0])
    | succ k1 =>
      have H := HA.out
      clear HA
      simp only [space_Left.l0] at H
      by_cases c7 : x15_1 < (t585.length : Int)
      · rw [if_pos c7] at H
        have c7b0 : decide (x15_1 < (t585.length : Int)) = true := decide_eq_true c7
        clear c7
        by_cases c8 : 0 ≤ x15_1
        · rw [if_pos c8] at H
          have c8b0 : decide (0 ≤ x15_1) = true := decide_eq_true c8
          clear c8
          by_cases c9 : x15_1 < (t585.length : Int)
          · rw [if_pos c9] at H
            have c9b0 : decide (x15_1 < (t585.length : Int)) = true := decide_eq_true c9
            clear c9
            have H' := Aside0.mk H
            clear H
            have p588 : 0 ≤ (x15_1 : Int) := of_decide_eq_true (by first | (with_reducible assumption) | assumption)
            have q588 : x15_1 < (t585.length : Int) := of_decide_eq_true (by first | (with_reducible assumption) | assumption)
            obtain ⟨ad588, e588, hx588_0, hx588_1⟩ := at_T66 (Kd.R_reads' HO_13.out).2.2 x15_1 p588 q588
            cases e588
            replace p588 := eq_true p588
            replace q588 := eq_true q588
            go_wp2_with (first | ((with_reducible refine gate_dst (N := 9) rfl ?_); refine box_event ?hg (N := 9) ?hd (cs := #[.int .i64 0, .int .i64 0]) (t := 66) ?hr ?_; (case hd => rfl); (case hg => rfl); (case hr => first | (go_simp; done) | (go_simp; rfl)); intro gb589 hg w10 hbox hb; have n0_ := Aside0.mk (Kd.R_below (Kd.R_elderB (by (with_reducible repeat (first | apply Kd.R_alloc | apply Kd.R_drewN | apply Kd.R_drew)); exact HO_13.out) gb589 (Nat.le_of_eq hg.symm)) hb); have n1_ := Aside0.mk (below_step (by repeat (first | (with_reducible first | exact HB.out | apply below_alloc | apply pw_below_drewN | apply below_drew1) | exact HB.out)) hb); have n2_ := Aside0.mk (hbox); have n3_ := Aside0.mk ((by rw [hg]; exact (below_size (by repeat (first | (with_reducible first | exact HB.out | apply below_alloc | apply pw_below_drewN | apply below_drew1) | exact HB.out))) : w.heap.size ≤ gb589)); have n4_ := Aside0.mk ((by rw [hg]; exact (below_size (by repeat (first | (with_reducible first | exact HB.out | apply below_alloc | apply pw_below_drewN | apply below_drew1) | exact HB.out))) : w.heap.size ≤ gb589)); clear HO_13; clear HB; have HO_13 := n0_; have HB := n1_; have BK589 := n2_; have GW589 := n3_; have GE589 := n4_; clear n0_ n1_ n2_ n3_ n4_; clear hb hbox hg; have hcz11_0 : w10.cell? ⟨gb589, 0, none⟩ = some (.int .i64 0) := (blk_cell BK589.out 0).trans rfl; have hcz11_1 : w10.cell? ⟨gb589, 1, none⟩ = some (.int .i64 0) := (blk_cell BK589.out 1).trans rfl; have hfz11_0 := blk_frozen BK589.out 0; have hfz11_1 := blk_frozen BK589.out 1))
            go_roundg k1
            case measure => have := HK1.out; omega
            case rel => exact ⟨(wrap64 (x7_1 + ((rd_T66 t585 x15_1).f1))), (wrap64 (x15_1 + 1)), (by first | rfl | (simp; done) | (simp [*]; done)), (by first | rfl | (simp; done) | (simp [*]; done)), H', ⟨by have := HK1.out; omega⟩, ⟨by (with_reducible repeat (first | apply Kd.R_alloc | apply Kd.R_drewN | apply Kd.R_drew)); exact Kd.R_mono (Kd.R_far (p := ⟨gb589, 1, none⟩) (Kd.R_far (p := ⟨gb589, 0, none⟩) (Kd.R_mono HO_13.out (fun k_ hk => (⟨hk, hk.2⟩ : _ ∧ k_ ≠ gb589))) (fun _ hk => hk.2) (.int .i64 ((rd_T66 t585 x15_1).f0))) (fun _ hk => hk.2) (.int .i64 ((rd_T66 t585 x15_1).f1))) (fun _ hk => trivial)⟩, ⟨by repeat (first | (with_reducible first | exact HB.out | apply below_alloc | apply pw_below_drewN | apply below_drew1 | refine below_set ?_ GE589.out) | exact HB.out)⟩⟩
          · rw [if_neg c9] at H
            exact absurd H (by simp)
        · rw [if_neg c8] at H
          exact absurd H (by simp)
      · rw [if_neg c7] at H
        have c7b0 : decide (x15_1 < (t585.length : Int)) = false := decide_eq_false c7
        clear c7
        obtain rfl := Option.some.inj H
        go_wp2
        go_ret
        exact ⟨by first | rfl | (simp [errW_none, errW_some] <;> rfl) | (simp [*, errW_none, errW_some] <;> rfl), by repeat (first | (with_reducible first | exact HB.out | apply below_alloc | apply pw_below_drewN | apply below_drew1) | exact HB.out)⟩

end Go.Proofs.Ythcohkgpbjcliaa.F

/- Contracts of Go functions of the seat Ythcohkgpbjcliaa: what a call comes to; no condition but those that each theorem names. -/
import Derived.Test.YthcohkgpbjcliaaFPre
import Derived.Test.YthcohkgpbjcliaaFspacex0
import Derived.Test.YthcohkgpbjcliaaFlaw05awake
import Derived.Test.YthcohkgpbjcliaaFlaw05refs
import Derived.Test.YthcohkgpbjcliaaFref05x2
namespace Go.Proofs.Ythcohkgpbjcliaa.F
open Go.RowKit Go.Proofs.YthcohkgpbjcliaaW.PrintWords Go.Proofs.YthcohkgpbjcliaaW.PrintLast Go.Proofs.YthcohkgpbjcliaaW.PrintMore
attribute [local go_sem] max2_int min2_int max_two min_two max_three min_three max_four min_four   -- for this text's walks alone
set_option linter.unusedVariables false
set_option linter.unusedSimpArgs false

attribute [local go_sem] fieldD25_0 fieldD25_1
theorem ite_ok_law05SpaceOrder {α} (c : Prop) [Decidable c] (a b : α) (w : World) : (if c then Result.ok a w else Result.ok b w) = Result.ok (if c then a else b) w := by split <;> rfl
theorem ite_ff_law05SpaceOrder (a b : Bool) : (if (!a) = true then false else b) = (a && b) := by cases a <;> rfl
theorem ite_fg_law05SpaceOrder (a b : Bool) : (if a = false then false else b) = (a && b) := by cases a <;> rfl
attribute [local go_sem] ite_ok_law05SpaceOrder ite_ff_law05SpaceOrder ite_fg_law05SpaceOrder Bool.not_and Bool.and_true
/-! ### weirkeeperlaw05_SpaceOrder: function 11 -/
mutual
def weirkeeperlaw05_SpaceOrder.j0 : Nat → Int → Int → Int → List (S66) → Int → Bool → Option (Bool)
  | 0, _, _, _, _, _, _ => none
  | k + 1, x0, x1, x2, x3, x4, x24 => if x24 = true then ((weirkeeperlaw05_awake.f k).bind fun t769 => (some t769)) else (weirkeeperlaw05_SpaceOrder.l0 k x0 x1 x2 x3 x4 ([] : List (S66)) (x3.length : Int) 0)
def weirkeeperlaw05_SpaceOrder.l0 : Nat → Int → Int → Int → List (S66) → Int → List (S66) → Int → Int → Option (Bool)
  | 0, _, _, _, _, _, _, _, _ => none
  | k + 1, x0, x1, x2, x3, x4, x11, x27, x28 => if x28 < x27 then (if (x3.length : Int) = 0 then (none) else (if 0 ≤ (Int.tmod (wrap64 ((wrap64 ((x3.length : Int) - x28)) + (wrap64 (x4)))) (x3.length : Int)) then (if (Int.tmod (wrap64 ((wrap64 ((x3.length : Int) - x28)) + (wrap64 (x4)))) (x3.length : Int)) < (x3.length : Int) then (if x11.length < 8796093022208 then (weirkeeperlaw05_SpaceOrder.l0 k x0 x1 x2 x3 x4 (x11 ++ [(⟨(rd_T66 x3 (Int.tmod (wrap64 ((wrap64 ((x3.length : Int) - x28)) + (wrap64 (x4)))) (x3.length : Int))).f0, (rd_T66 x3 (Int.tmod (wrap64 ((wrap64 ((x3.length : Int) - x28)) + (wrap64 (x4)))) (x3.length : Int))).f1⟩ : S66)]) x27 (wrap64 (x28 + 1))) else (none)) else (none)) else (none))) else ((space_Fit.f k x0 x1 x2 x3).bind fun bt774 => ((space_Fit.f k x0 x1 x2 x11).bind fun bt778 => (if (bt774.1 == bt778.1 && (bt774.2.1 == bt778.2.1)) = true then (if bt774.2.2 = bt778.2.2 then ((space_Free.f k x1 x2 x3).bind fun t782 => ((weirkeeperlaw05_refs.f k t782).bind fun t785 => ((space_Free.f k x1 x2 x11).bind fun t788 => ((weirkeeperlaw05_refs.f k t788).bind fun t791 => ((weirkeeperref05_Same.f k t785 t791).bind fun t794 => (if t794 = true then ((space_Right.f k x1 x2 x3).bind fun t795 => ((space_Right.f k x1 x2 x11).bind fun t796 => (if (t795 == t796) = true then ((weirkeeperlaw05_awake.f k).bind fun t797 => (some t797)) else (some false)))) else (some false))))))) else (some false)) else (some false))))
end
def weirkeeperlaw05_SpaceOrder.f (k : Nat) (a0 : Int) (a1 : Int) (a2 : Int) (l3 : List (S66)) (a4 : Int) : Option (Bool) := if (l3.length : Int) > 30 then (weirkeeperlaw05_SpaceOrder.j0 k a0 a1 a2 l3 a4 true) else (weirkeeperlaw05_SpaceOrder.j0 k a0 a1 a2 l3 a4 ((l3.length : Int) == 0))
theorem weirkeeperlaw05_SpaceOrder.mono_l : ∀ k, (∀ y0 y1 y2 y3 y4 y5, LeO (weirkeeperlaw05_SpaceOrder.j0 k y0 y1 y2 y3 y4 y5) (weirkeeperlaw05_SpaceOrder.j0 (k + 1) y0 y1 y2 y3 y4 y5)) ∧ (∀ y0 y1 y2 y3 y4 y5 y6 y7, LeO (weirkeeperlaw05_SpaceOrder.l0 k y0 y1 y2 y3 y4 y5 y6 y7) (weirkeeperlaw05_SpaceOrder.l0 (k + 1) y0 y1 y2 y3 y4 y5 y6 y7))
  | 0 => ⟨fun _ _ _ _ _ _ r h => by simp [weirkeeperlaw05_SpaceOrder.j0] at h, fun _ _ _ _ _ _ _ _ r h => by simp [weirkeeperlaw05_SpaceOrder.l0] at h⟩
  | k + 1 => by
    obtain ⟨ih0, ih1⟩ := weirkeeperlaw05_SpaceOrder.mono_l k
    refine ⟨?_, ?_⟩
    · intro y0 y1 y2 y3 y4 y5
      unfold weirkeeperlaw05_SpaceOrder.j0
      repeat' first
      | (with_reducible exact ih0 _ _ _ _ _ _)
      | (with_reducible exact ih1 _ _ _ _ _ _ _ _)
      | (with_reducible exact space_Fit.mono _ _ _ _ _)
      | (with_reducible exact space_Free.mono _ _ _ _)
      | (with_reducible exact space_Right.mono _ _ _ _)
      | (with_reducible exact weirkeeperlaw05_awake.mono _)
      | (with_reducible exact weirkeeperlaw05_refs.mono _ _)
      | (with_reducible exact weirkeeperref05_Same.mono _ _ _)
      | (with_reducible exact LeO.refl _)
      | (with_reducible exact LeO.none _)
      | (with_reducible refine LeO.ite ?_ ?_)
      | (with_reducible refine LeO.bind ?_ (fun _ => ?_))
      | exact ih0 _ _ _ _ _ _
      | exact ih1 _ _ _ _ _ _ _ _
      | exact space_Fit.mono _ _ _ _ _
      | exact space_Free.mono _ _ _ _
      | exact space_Right.mono _ _ _ _
      | exact weirkeeperlaw05_awake.mono _
      | exact weirkeeperlaw05_refs.mono _ _
      | exact weirkeeperref05_Same.mono _ _ _
      | exact LeO.none _
      | refine LeO.ite ?_ ?_
      | refine LeO.bind ?_ (fun _ => ?_)
    · intro y0 y1 y2 y3 y4 y5 y6 y7
      unfold weirkeeperlaw05_SpaceOrder.l0
      repeat' first
      | (with_reducible exact ih0 _ _ _ _ _ _)
      | (with_reducible exact ih1 _ _ _ _ _ _ _ _)
      | (with_reducible exact space_Fit.mono _ _ _ _ _)
      | (with_reducible exact space_Free.mono _ _ _ _)
      | (with_reducible exact space_Right.mono _ _ _ _)
      | (with_reducible exact weirkeeperlaw05_awake.mono _)
      | (with_reducible exact weirkeeperlaw05_refs.mono _ _)
      | (with_reducible exact weirkeeperref05_Same.mono _ _ _)
      | (with_reducible exact LeO.refl _)
      | (with_reducible exact LeO.none _)
      | (with_reducible refine LeO.ite ?_ ?_)
      | (with_reducible refine LeO.bind ?_ (fun _ => ?_))
      | exact ih0 _ _ _ _ _ _
      | exact ih1 _ _ _ _ _ _ _ _
      | exact space_Fit.mono _ _ _ _ _
      | exact space_Free.mono _ _ _ _
      | exact space_Right.mono _ _ _ _
      | exact weirkeeperlaw05_awake.mono _
      | exact weirkeeperlaw05_refs.mono _ _
      | exact weirkeeperref05_Same.mono _ _ _
      | exact LeO.none _
      | refine LeO.ite ?_ ?_
      | refine LeO.bind ?_ (fun _ => ?_)
theorem weirkeeperlaw05_SpaceOrder.mono : ∀ a0 a1 a2 a3 a4 k, LeO (weirkeeperlaw05_SpaceOrder.f k a0 a1 a2 a3 a4) (weirkeeperlaw05_SpaceOrder.f (k + 1) a0 a1 a2 a3 a4) := by
  intro a0 a1 a2 a3 a4 k
  obtain ⟨ih0, ih1⟩ := weirkeeperlaw05_SpaceOrder.mono_l k
  unfold weirkeeperlaw05_SpaceOrder.f
  repeat' first
      | (with_reducible exact ih0 _ _ _ _ _ _)
      | (with_reducible exact ih1 _ _ _ _ _ _ _ _)
      | (with_reducible exact space_Fit.mono _ _ _ _ _)
      | (with_reducible exact space_Free.mono _ _ _ _)
      | (with_reducible exact space_Right.mono _ _ _ _)
      | (with_reducible exact weirkeeperlaw05_awake.mono _)
      | (with_reducible exact weirkeeperlaw05_refs.mono _ _)
      | (with_reducible exact weirkeeperref05_Same.mono _ _ _)
      | (with_reducible exact LeO.refl _)
      | (with_reducible exact LeO.none _)
      | (with_reducible refine LeO.ite ?_ ?_)
      | (with_reducible refine LeO.bind ?_ (fun _ => ?_))
      | exact ih0 _ _ _ _ _ _
      | exact ih1 _ _ _ _ _ _ _ _
      | exact space_Fit.mono _ _ _ _ _
      | exact space_Free.mono _ _ _ _
      | exact space_Right.mono _ _ _ _
      | exact weirkeeperlaw05_awake.mono _
      | exact weirkeeperlaw05_refs.mono _ _
      | exact weirkeeperref05_Same.mono _ _ _
      | exact LeO.none _
      | refine LeO.ite ?_ ?_
      | refine LeO.bind ?_ (fun _ => ?_)
set_option maxHeartbeats 8000000 in
set_option maxRecDepth 100000 in
theorem weirkeeperlaw05_SpaceOrder.calls (k : Nat) (a0 : Int) (a1 : Int) (a2 : Int) (A3 : Option Addr) (c3 : Nat) (l3 : List (S66)) (a4 : Int) (w : World) (hr3 : Kd.C k66 w A3 l3.length l3) (hc3 : l3.length ≤ c3) (h : weirkeeperlaw05_SpaceOrder.f k a0 a1 a2 l3 a4 = some true) :
    Calls Try.prog 11 #[.int .i64 a0, .int .i64 a1, .int .i64 a2, .slice A3 l3.length c3, .int .u8 a4] w fun e w' => e = .returned (.bool true) ∧ Below w.heap.size w w' := by
  have hu66 := Try.underlying66
  have HR3 := Aside0.mk hr3
  have HC3 := Aside0.mk hc3
  clear hr3 hc3
  have HB := Aside0.mk (Below.refl w.heap.size w)
  have H : (if (l3.length : Int) > 30 then (weirkeeperlaw05_SpaceOrder.j0 k a0 a1 a2 l3 a4 true) else (weirkeeperlaw05_SpaceOrder.j0 k a0 a1 a2 l3 a4 ((l3.length : Int) == 0))) = some true := h
  clear h
  have HC6 := Aside0.mk H
  clear H
  go_enter Try.func11, Try.ntmps11
  go_upto_region 1 with (fail)
  go_cut [24] (fun v24 wc => ∃ (kq : Nat) (x24_5 : Bool), v24 = .bool x24_5 ∧ Aside0 (weirkeeperlaw05_SpaceOrder.j0 kq a0 a1 a2 l3 a4 x24_5 = some true) ∧ Aside0 (kq ≤ k) ∧ Aside0 (Below w.heap.size w wc))
  case first =>
    have H := HC6.out
    clear HC6
    by_cases c7 : (l3.length : Int) > 30
    · rw [if_pos c7] at H
      have c7b0 : decide (30 < (l3.length : Int)) = true := decide_eq_true c7
      have c7b1 : decide (30 < l3.length) = true := decide_eq_true (by omega)
      clear c7
      (first | rw [c7b0] | (simp only [i64_w, i32_w]; rw [c7b0]) | skip)
      have H' := Aside0.mk H
      clear H
      go_wp2
      go_meet
      case rel => exact ⟨_, (true), (by first | rfl | (simp; done) | (simp [*]; done)), H', ⟨by first | omega | exact Nat.le_refl _⟩, ⟨by repeat (first | (with_reducible first | exact HB.out | apply below_alloc | apply pw_below_drewN | apply below_drew1) | exact HB.out)⟩⟩
    · rw [if_neg c7] at H
      have c7b0 : decide (30 < (l3.length : Int)) = false := decide_eq_false c7
      have c7b1 : decide (30 < l3.length) = false := decide_eq_false (by omega)
      clear c7
      (first | rw [c7b0] | (simp only [i64_w, i32_w]; rw [c7b0]) | skip)
      have H' := Aside0.mk H
      clear H
      go_wp2
      go_meet
      case rel => exact ⟨_, (((l3.length : Int) == 0)), (by first | rfl | (simp; done) | (simp [*]; done)), H', ⟨by first | omega | exact Nat.le_refl _⟩, ⟨by repeat (first | (with_reducible first | exact HB.out | apply below_alloc | apply pw_below_drewN | apply below_drew1) | exact HB.out)⟩⟩
  case rest =>
    clear HC6
    try clear c1
    try clear p2
    try clear c3
    try clear c7
    try clear c7b0
    try clear c7b1
    obtain ⟨kq, x24_5, rfl, HA, HJ5, HB⟩ := hcut
    cases kq with
    | zero => exact absurd HA.out (by simp [weirkeeperlaw05_SpaceOrder.j0])
    | succ kj5 =>
      have H := HA.out
      clear HA
      simp only [weirkeeperlaw05_SpaceOrder.j0] at H
      by_cases c8 : x24_5 = true
      · subst c8
        have H1 : ((weirkeeperlaw05_awake.f kj5).bind fun t769 => (some t769)) = some true := by rw [if_pos rfl] at H; exact H
        clear H
        have H := H1
        clear H1
        replace H := Option.bind_eq_some_iff.mp H
        obtain ⟨t769, A90, H⟩ := H
        replace H : (some t769) = some true := H
        have A9 := Aside0.mk A90
        clear A90
        (have H9_ := Option.some.inj H; first | subst H9_ | (have h9_ := Aside0.mk H9_; clear H9_))
        go_wp2_with (first | ((with_reducible refine gate_callee (f := 30) rfl ?_); refine goesL_ (some 25) rfl rfl Try.func30 (by kernel_rfl) rfl #[] rfl (by (try simp only [List.map_toArray, List.map_cons, List.map_nil]); first | done | rfl | (simp only [List.length_drop, List.length_take]; rfl)) ?_; (with_reducible refine (weirkeeperlaw05_awake.calls kj5 _ A9.out).mono ?_); rintro e w10 ⟨rfl, hb⟩; refine ⟨_, rfl, ?_⟩; have n0_ := Aside0.mk (below_step (by repeat (first | (with_reducible first | exact HB.out | apply below_alloc | apply pw_below_drewN | apply below_drew1) | exact HB.out)) hb); clear HB; have HB := n0_; clear n0_; (try clear hb); (try clear hb2); (try clear hk); (try clear hi)))
        go_ret
        exact ⟨by first | rfl | (simp only [h9_.out]; done) | (have h8_ := h9_.out; simp [h8_]; done) | (simp [errW_none, errW_some] <;> rfl) | (simp [*, errW_none, errW_some] <;> rfl), by repeat (first | (with_reducible first | exact HB.out | apply below_alloc | apply pw_below_drewN | apply below_drew1) | exact HB.out)⟩
      · replace c8 := Bool.eq_false_iff.mpr c8
        subst c8
        have H1 : (weirkeeperlaw05_SpaceOrder.l0 kj5 a0 a1 a2 l3 a4 ([] : List (S66)) (l3.length : Int) 0) = some true := by rw [if_neg (show ¬ (false = true) by decide)] at H; exact H
        clear H
        have H := H1
        clear H1
        have H' := Aside0.mk H
        clear H
        go_wp2
        go_loopg [11, 28] kj5 (fun kq v11 v28 w' => ∃ (x11_2 : List (S66)) (x28_2 : Int), v28 = .int .i64 x28_2 ∧ Aside0 (weirkeeperlaw05_SpaceOrder.l0 kq a0 a1 a2 l3 a4 x11_2 (l3.length : Int) x28_2 = some true) ∧ Aside0 (kq ≤ kj5) ∧ Aside0 (Kd.R k66 66 w' w.heap.size (fun _ => True) v11 x11_2) ∧ Aside0 (Below w.heap.size w w'))
        case atStart => exact ⟨(([] : List (S66))), (0), (by first | rfl | (simp; done) | (simp [*]; done)), H', ⟨Nat.le_refl _⟩, ⟨by first | exact Kd.R_nil _ _ _ _ _ | exact Kd.N_nil _ _ _ _ _ | exact Kd.V_nil _ _ _ _ _ | exact Kd.Q_nil _ _ _ _ _ | exact Kd.S_nil _ _ _ _ _⟩, ⟨by repeat (first | (with_reducible first | exact HB.out | apply below_alloc | apply pw_below_drewN | apply below_drew1) | exact HB.out)⟩⟩
        case round =>
          clear H'
          try clear c1
          try clear p2
          try clear c3
          try clear c7
          try clear c7b0
          try clear c7b1
          try clear c8
          try clear p2
          obtain ⟨x11_2, x28_2, rfl, HA, HK2, HO_11, HB⟩ := hrel
          cases gk with
          | zero => exact absurd HA.out (by simp [weirkeeperlaw05_SpaceOrder.l0])
          | succ k2 =>
            have H := HA.out
            clear HA
            simp only [weirkeeperlaw05_SpaceOrder.l0] at H
            by_cases c11 : x28_2 < (l3.length : Int)
            · rw [if_pos c11] at H
              have c11b0 : decide (x28_2 < (l3.length : Int)) = true := decide_eq_true c11
              clear c11
              by_cases c12 : (l3.length : Int) = 0
              · rw [if_pos c12] at H
                exact absurd H (by simp)
              · rw [if_neg c12] at H
                have c12b0 : ((l3.length : Int) == 0) = false := beq_eq_false_iff_ne.mpr c12
                have c12b1 : ((l3.length : Int) != 0) = true := bne_iff_ne.mpr c12
                have c12b2 : ¬ (l3 = []) := fun h_ => c12 (by rw [h_]; rfl)
                obtain ⟨ji13, hji13⟩ : ∃ j_ : Int, (Int.tmod (wrap64 ((wrap64 ((l3.length : Int) - x28_2)) + (wrap64 (a4)))) (l3.length : Int)) = j_ := ⟨_, rfl⟩
                replace H : (if 0 ≤ (ji13) then (if (ji13) < (l3.length : Int) then (if x11_2.length < 8796093022208 then (weirkeeperlaw05_SpaceOrder.l0 k2 a0 a1 a2 l3 a4 (x11_2 ++ [(⟨(rd_T66 l3 (ji13)).f0, (rd_T66 l3 (ji13)).f1⟩ : S66)]) (l3.length : Int) (wrap64 (x28_2 + 1))) else (none)) else (none)) else (none)) = some true := by first | (rw [hji13] at H; exact H) | (simp only [hji13] at H ⊢; exact H)
                by_cases c14 : 0 ≤ (ji13)
                · rw [if_pos c14] at H
                  have c14b0 : decide (0 ≤ (ji13)) = true := decide_eq_true c14
                  clear c14
                  by_cases c15 : (ji13) < (l3.length : Int)
                  · rw [if_pos c15] at H
                    have c15b0 : decide ((ji13) < (l3.length : Int)) = true := decide_eq_true c15
                    clear c15
                    by_cases c16 : x11_2.length < 8796093022208
                    · rw [if_pos c16] at H
                      have LMc16 := Aside0.mk c16
                      clear c16
                      obtain ⟨y771, hy771⟩ : ∃ y_ : List (S66), y_ = (x11_2 ++ [(⟨(rd_T66 l3 (ji13)).f0, (rd_T66 l3 (ji13)).f1⟩ : S66)]) := ⟨_, rfl⟩
                      replace H : (weirkeeperlaw05_SpaceOrder.l0 k2 a0 a1 a2 l3 a4 y771 (l3.length : Int) (wrap64 (x28_2 + 1))) = some true := by first | (rw [hy771]; with_reducible exact H) | (have H2_ := (Option.bind_some _ _).symm.trans H; rw [hy771]; with_reducible exact H2_) | (have H2_ := (Option.bind_some _ _).symm.trans H; with_reducible exact H2_) | with_reducible exact H | (rw [hy771]; exact H) | exact H
                      have Ny771 := Aside0.mk hy771
                      clear hy771
                      have H' := Aside0.mk H
                      clear H
                      have p770 : 0 ≤ ((ji13) : Int) := of_decide_eq_true (by first | (with_reducible assumption) | assumption)
                      have q770 : (ji13) < (l3.length : Int) := of_decide_eq_true (by first | (with_reducible assumption) | assumption)
                      obtain ⟨ad770, e770, hx770_0, hx770_1⟩ := at_T66 HR3.out (ji13) p770 q770
                      cases e770
                      replace hx770_0 := (HB.out.cell (World.block_lt_of_cell? w _ hx770_0)).trans hx770_0
                      replace hx770_1 := (HB.out.cell (World.block_lt_of_cell? w _ hx770_1)).trans hx770_1
                      replace p770 := eq_true p770
                      replace q770 := eq_true q770
                      go_wp2_with (first | ((with_reducible refine gate_builtin (b := .append) (xs := #[.tmp 31, .tmp 45]) rfl ?_); (try (refine gate_guard (by rfl) ?_; dsimp only)); at_builtin; refine Kd.R_append k66 (w0 := w) w.heap.size rfl (.tmp 31) (.tmp 45) 62 66 (.agg #[(.int .i64 0), (.int .i64 0)]) 16 rfl Try.underlying62 info66 rfl (by decide) (by omega) u11 x11_2 (⟨(rd_T66 l3 (ji13)).f0, (rd_T66 l3 (ji13)).f1⟩ : S66) [.int .i64 ((rd_T66 l3 (ji13)).f0), .int .i64 ((rd_T66 l3 (ji13)).f1)] (fun _ => True) (fun _ => False) rfl rfl ?aP (fun _ hk => hk.elim) ?aF ?aO ?aB ?aS ?aL ?_; (case aP => exact k66_mkM _ _ _ (⟨(rd_T66 l3 (ji13)).f0, (rd_T66 l3 (ji13)).f1⟩ : S66)); (case aB => exact (by repeat (first | (with_reducible first | exact HB.out | apply below_alloc | apply pw_below_drewN | apply below_drew1) | exact HB.out))); (case aF => exact (fun _ _ => trivial)); (case aO => exact (by (with_reducible repeat (first | apply Kd.R_alloc | apply Kd.R_drewN | apply Kd.R_drew)); exact HO_11.out)); (case aS => exact (below_size (by repeat (first | (with_reducible first | exact HB.out | apply below_alloc | apply pw_below_drewN | apply below_drew1) | exact HB.out)))); (case aL => have := LMc16.out; omega); intro v772 w17 ho hb hg hat; rw [← Ny771.out] at ho; have n0_ := Aside0.mk (hb); have n1_ := Aside0.mk (ho); clear HB; clear HO_11; have HB := n0_; have HO773 := n1_; clear n0_ n1_; clear ho hb hg hat))
                      go_roundg k2
                      case measure => have := HJ5.out; have := HK2.out; omega
                      case rel => exact ⟨(y771), (wrap64 (x28_2 + 1)), (by first | rfl | (simp; done) | (simp [*]; done)), H', ⟨by have := HJ5.out; have := HK2.out; omega⟩, ⟨by (with_reducible repeat (first | apply Kd.R_alloc | apply Kd.R_drewN | apply Kd.R_drew)); exact HO773.out⟩, ⟨by repeat (first | (with_reducible first | exact HB.out | apply below_alloc | apply pw_below_drewN | apply below_drew1) | exact HB.out)⟩⟩
                    · rw [if_neg c16] at H
                      exact absurd H (by simp)
                  · rw [if_neg c15] at H
                    exact absurd H (by simp)
                · rw [if_neg c14] at H
                  exact absurd H (by simp)
            · rw [if_neg c11] at H
              have c11b0 : decide (x28_2 < (l3.length : Int)) = false := decide_eq_false c11
              clear c11
              replace H := Option.bind_eq_some_iff.mp H
              obtain ⟨⟨t774, t775, t776⟩, A180, H⟩ := H
              replace H : ((space_Fit.f k2 a0 a1 a2 x11_2).bind fun bt778 => (if (t774 == bt778.1 && (t775 == bt778.2.1)) = true then (if t776 = bt778.2.2 then ((space_Free.f k2 a1 a2 l3).bind fun t782 => ((weirkeeperlaw05_refs.f k2 t782).bind fun t785 => ((space_Free.f k2 a1 a2 x11_2).bind fun t788 => ((weirkeeperlaw05_refs.f k2 t788).bind fun t791 => ((weirkeeperref05_Same.f k2 t785 t791).bind fun t794 => (if t794 = true then ((space_Right.f k2 a1 a2 l3).bind fun t795 => ((space_Right.f k2 a1 a2 x11_2).bind fun t796 => (if (t795 == t796) = true then ((weirkeeperlaw05_awake.f k2).bind fun t797 => (some t797)) else (some false)))) else (some false))))))) else (some false)) else (some false))) = some true := H
              have A18 := Aside0.mk A180
              clear A180
              replace H := Option.bind_eq_some_iff.mp H
              obtain ⟨⟨t778, t779, t780⟩, A190, H⟩ := H
              replace H : (if (t774 == t778 && (t775 == t779)) = true then (if t776 = t780 then ((space_Free.f k2 a1 a2 l3).bind fun t782 => ((weirkeeperlaw05_refs.f k2 t782).bind fun t785 => ((space_Free.f k2 a1 a2 x11_2).bind fun t788 => ((weirkeeperlaw05_refs.f k2 t788).bind fun t791 => ((weirkeeperref05_Same.f k2 t785 t791).bind fun t794 => (if t794 = true then ((space_Right.f k2 a1 a2 l3).bind fun t795 => ((space_Right.f k2 a1 a2 x11_2).bind fun t796 => (if (t795 == t796) = true then ((weirkeeperlaw05_awake.f k2).bind fun t797 => (some t797)) else (some false)))) else (some false))))))) else (some false)) else (some false)) = some true := H
              have A19 := Aside0.mk A190
              clear A190
              by_cases c20 : (t774 == t778 && (t775 == t779)) = true
              · rw [if_pos c20] at H
                have c20b0 : (t774 == t778 && (t775 == t779)) = true := c20
                (try (have c20b1 : decide (t774 = t778 && (t775 == t779)) = true := by simpa using c20))
                (try (have c20b2 : (t774 == t778 && (t775 == t779)) = true := by simpa using c20))
                clear c20
                have E_c20 : t774 = t778 ∧ t775 = t779 := by simpa using c20b0
                (try clear c20b0)
                (try clear c20b1)
                (try clear c20b2)
                obtain ⟨e0_, e1_⟩ := E_c20
                (have e0s := e0_.symm; clear e0_; subst e0s)
                (have e1s := e1_.symm; clear e1_; subst e1s)
                by_cases c21 : t776 = t780
                · rw [if_pos c21] at H
                  have c21b0 : (t776 == t780) = true := beq_iff_eq.mpr c21
                  have c21b1 : (t776 != t780) = false := bne_eq_false_iff_eq.mpr c21
                  clear c21
                  replace H := Option.bind_eq_some_iff.mp H
                  obtain ⟨t782, A220, H⟩ := H
                  replace H : ((weirkeeperlaw05_refs.f k2 t782).bind fun t785 => ((space_Free.f k2 a1 a2 x11_2).bind fun t788 => ((weirkeeperlaw05_refs.f k2 t788).bind fun t791 => ((weirkeeperref05_Same.f k2 t785 t791).bind fun t794 => (if t794 = true then ((space_Right.f k2 a1 a2 l3).bind fun t795 => ((space_Right.f k2 a1 a2 x11_2).bind fun t796 => (if (t795 == t796) = true then ((weirkeeperlaw05_awake.f k2).bind fun t797 => (some t797)) else (some false)))) else (some false)))))) = some true := H
                  have A22 := Aside0.mk A220
                  clear A220
                  replace H := Option.bind_eq_some_iff.mp H
                  obtain ⟨t785, A230, H⟩ := H
                  replace H : ((space_Free.f k2 a1 a2 x11_2).bind fun t788 => ((weirkeeperlaw05_refs.f k2 t788).bind fun t791 => ((weirkeeperref05_Same.f k2 t785 t791).bind fun t794 => (if t794 = true then ((space_Right.f k2 a1 a2 l3).bind fun t795 => ((space_Right.f k2 a1 a2 x11_2).bind fun t796 => (if (t795 == t796) = true then ((weirkeeperlaw05_awake.f k2).bind fun t797 => (some t797)) else (some false)))) else (some false))))) = some true := H
                  have A23 := Aside0.mk A230
                  clear A230
                  replace H := Option.bind_eq_some_iff.mp H
                  obtain ⟨t788, A240, H⟩ := H
                  replace H : ((weirkeeperlaw05_refs.f k2 t788).bind fun t791 => ((weirkeeperref05_Same.f k2 t785 t791).bind fun t794 => (if t794 = true then ((space_Right.f k2 a1 a2 l3).bind fun t795 => ((space_Right.f k2 a1 a2 x11_2).bind fun t796 => (if (t795 == t796) = true then ((weirkeeperlaw05_awake.f k2).bind fun t797 => (some t797)) else (some false)))) else (some false)))) = some true := H
                  have A24 := Aside0.mk A240
                  clear A240
                  replace H := Option.bind_eq_some_iff.mp H
                  obtain ⟨t791, A250, H⟩ := H
                  replace H : ((weirkeeperref05_Same.f k2 t785 t791).bind fun t794 => (if t794 = true then ((space_Right.f k2 a1 a2 l3).bind fun t795 => ((space_Right.f k2 a1 a2 x11_2).bind fun t796 => (if (t795 == t796) = true then ((weirkeeperlaw05_awake.f k2).bind fun t797 => (some t797)) else (some false)))) else (some false))) = some true := H
                  have A25 := Aside0.mk A250
                  clear A250
                  replace H := Option.bind_eq_some_iff.mp H
                  obtain ⟨t794, A260, H⟩ := H
                  replace H : (if t794 = true then ((space_Right.f k2 a1 a2 l3).bind fun t795 => ((space_Right.f k2 a1 a2 x11_2).bind fun t796 => (if (t795 == t796) = true then ((weirkeeperlaw05_awake.f k2).bind fun t797 => (some t797)) else (some false)))) else (some false)) = some true := H
                  have A26 := Aside0.mk A260
                  clear A260
                  by_cases c27 : t794 = true
                  · subst c27
                    have H1 : ((space_Right.f k2 a1 a2 l3).bind fun t795 => ((space_Right.f k2 a1 a2 x11_2).bind fun t796 => (if (t795 == t796) = true then ((weirkeeperlaw05_awake.f k2).bind fun t797 => (some t797)) else (some false)))) = some true := by rw [if_pos rfl] at H; exact H
                    clear H
                    have H := H1
                    clear H1
                    replace H := Option.bind_eq_some_iff.mp H
                    obtain ⟨t795, A280, H⟩ := H
                    replace H : ((space_Right.f k2 a1 a2 x11_2).bind fun t796 => (if (t795 == t796) = true then ((weirkeeperlaw05_awake.f k2).bind fun t797 => (some t797)) else (some false))) = some true := H
                    have A28 := Aside0.mk A280
                    clear A280
                    replace H := Option.bind_eq_some_iff.mp H
                    obtain ⟨t796, A290, H⟩ := H
                    replace H : (if (t795 == t796) = true then ((weirkeeperlaw05_awake.f k2).bind fun t797 => (some t797)) else (some false)) = some true := H
                    have A29 := Aside0.mk A290
                    clear A290
                    by_cases c30 : (t795 == t796) = true
                    · rw [if_pos c30] at H
                      have c30b0 : (t795 == t796) = true := c30
                      (try (have c30b1 : decide (t795 = t796) = true := by simpa using c30))
                      (try (have c30b2 : (t795 == t796) = true := by simpa using c30))
                      clear c30
                      replace H := Option.bind_eq_some_iff.mp H
                      obtain ⟨t797, A310, H⟩ := H
                      replace H : (some t797) = some true := H
                      have A31 := Aside0.mk A310
                      clear A310
                      (have H9_ := Option.some.inj H; first | subst H9_ | (have h9_ := Aside0.mk H9_; clear H9_))
                      go_wp2_with (first | ((with_reducible refine gate_callee (f := 32) rfl ?_); refine goesL_ (some 53) rfl rfl Try.func32 (by kernel_rfl) rfl #[.int .i64 a0, .int .i64 a1, .int .i64 a2, .slice A3 l3.length c3] rfl (by (try simp only [List.map_toArray, List.map_cons, List.map_nil]); first | done | rfl | (simp only [List.length_drop, List.length_take]; rfl)) ?_; (with_reducible refine (space_Fit.calls k2 a0 a1 a2 _ _ l3 t778 t779 t776 _ ?side1 ?side2 A18.out).mono ?_); (case side1 => repeat (first | exact (Kd.C_below HR3.out HB.out) | (with_reducible refine Kd.C_alloc ?_ _) | (with_reducible refine Kd.C_drewN ?_ _) | (with_reducible refine Kd.C_drew ?_))); (case side2 => exact HC3.out); rintro e w32 ⟨rfl, hb⟩; refine ⟨_, rfl, ?_⟩; have n0_ := Aside0.mk (Kd.R_below (by (with_reducible repeat (first | apply Kd.R_alloc | apply Kd.R_drewN | apply Kd.R_drew)); exact HO_11.out) hb); have n1_ := Aside0.mk (below_step (by repeat (first | (with_reducible first | exact HB.out | apply below_alloc | apply pw_below_drewN | apply below_drew1) | exact HB.out)) hb); clear HO_11; clear HB; have HO_11 := n0_; have HB := n1_; clear n0_ n1_; (try clear hb); (try clear hb2); (try clear hk); (try clear hi)) | ((with_reducible refine gate_dst (N := 13) rfl ?_); (try (refine gate_guard (by rfl) ?_; dsimp only)); refine box_event ?hg (N := 13) ?hd (cs := #[.int .i64 0, .int .i64 0]) (t := 66) ?hr ?_; (case hd => rfl); (case hg => rfl); (case hr => first | (go_simp; done) | (go_simp; rfl)); intro gb777 hg w33 hbox hb; have n0_ := Aside0.mk (Kd.R_below (Kd.R_elderB (by (with_reducible repeat (first | apply Kd.R_alloc | apply Kd.R_drewN | apply Kd.R_drew)); exact HO_11.out) gb777 (Nat.le_of_eq hg.symm)) hb); have n1_ := Aside0.mk (below_step (by repeat (first | (with_reducible first | exact HB.out | apply below_alloc | apply pw_below_drewN | apply below_drew1) | exact HB.out)) hb); have n2_ := Aside0.mk (hbox); have n3_ := Aside0.mk ((by rw [hg]; exact (below_size (by repeat (first | (with_reducible first | exact HB.out | apply below_alloc | apply pw_below_drewN | apply below_drew1) | exact HB.out))) : w.heap.size ≤ gb777)); have n4_ := Aside0.mk ((by rw [hg]; exact (below_size (by repeat (first | (with_reducible first | exact HB.out | apply below_alloc | apply pw_below_drewN | apply below_drew1) | exact HB.out))) : w.heap.size ≤ gb777)); clear HO_11; clear HB; have HO_11 := n0_; have HB := n1_; have BK777 := n2_; have GW777 := n3_; have GE777 := n4_; clear n0_ n1_ n2_ n3_ n4_; clear hb hbox hg; have hcz34_0 : w33.cell? ⟨gb777, 0, none⟩ = some (.int .i64 0) := (blk_cell BK777.out 0).trans rfl; have hcz34_1 : w33.cell? ⟨gb777, 1, none⟩ = some (.int .i64 0) := (blk_cell BK777.out 1).trans rfl; have hfz34_0 := blk_frozen BK777.out 0; have hfz34_1 := blk_frozen BK777.out 1; obtain ⟨Ao35, co35, eo35⟩ := Kd.R_slice HO_11.out; subst eo35) | ((with_reducible refine gate_callee (f := 32) rfl ?_); refine goesL_ (some 61) rfl rfl Try.func32 (by kernel_rfl) rfl #[.int .i64 a0, .int .i64 a1, .int .i64 a2, .slice Ao35 x11_2.length co35] rfl (by (try simp only [List.map_toArray, List.map_cons, List.map_nil]); first | done | rfl | (simp only [List.length_drop, List.length_take]; rfl)) ?_; (with_reducible refine (space_Fit.calls k2 a0 a1 a2 _ _ x11_2 t778 t779 t780 _ ?side1 ?side2 A19.out).mono ?_); (case side1 => refine (Kd.R_reads' (e := 66) (base := w.heap.size) (ok := fun k_ => (True ∧ k_ ≠ gb777)) (n := x11_2.length) (c := co35) ?_).2.2; exact (by (with_reducible repeat (first | apply Kd.R_alloc | apply Kd.R_drewN | apply Kd.R_drew)); exact (Kd.R_mono (Kd.R_far (p := ⟨gb777, 1, none⟩) (Kd.R_far (p := ⟨gb777, 0, none⟩) (Kd.R_mono HO_11.out (fun k_ hk => (⟨hk, hk.2⟩ : _ ∧ k_ ≠ gb777))) (fun _ hk => hk.2) (.int .i64 t778)) (fun _ hk => hk.2) (.int .i64 t779)) (fun _ h_ => h_.1)))); (case side2 => exact (Kd.R_reads' HO_11.out).2.1); rintro e w36 ⟨rfl, hb⟩; refine ⟨_, rfl, ?_⟩; have n0_ := Aside0.mk (Kd.R_below (by (with_reducible repeat (first | apply Kd.R_alloc | apply Kd.R_drewN | apply Kd.R_drew)); exact (Kd.R_mono (Kd.R_far (p := ⟨gb777, 1, none⟩) (Kd.R_far (p := ⟨gb777, 0, none⟩) (Kd.R_mono HO_11.out (fun k_ hk => (⟨hk, hk.2⟩ : _ ∧ k_ ≠ gb777))) (fun _ hk => hk.2) (.int .i64 t778)) (fun _ hk => hk.2) (.int .i64 t779)) (fun _ h_ => h_.1))) hb); have n1_ := Aside0.mk (blk_below (g := gb777) (o := .cells #[.int .i64 t778, .int .i64 t779] 66 (0, 0)) (by (with_reducible repeat (first | refine blk_drewN ?_ _ | refine blk_drew ?_ | refine blk_alloc ?_ _)); refine blk_put (cs := #[.int .i64 t778, .int .i64 0]) ?_ 1 _ rfl; (with_reducible repeat (first | refine blk_drewN ?_ _ | refine blk_drew ?_ | refine blk_alloc ?_ _)); refine blk_put (cs := #[.int .i64 0, .int .i64 0]) ?_ 0 _ rfl; (with_reducible repeat (first | refine blk_drewN ?_ _ | refine blk_drew ?_ | refine blk_alloc ?_ _)); exact BK777.out) hb); have n2_ := Aside0.mk (below_step (by repeat (first | (with_reducible first | exact HB.out | apply below_alloc | apply pw_below_drewN | apply below_drew1 | refine below_set ?_ GE777.out) | exact HB.out)) hb); clear HO_11; clear BK777; clear HB; have HO_11 := n0_; have BK777 := n1_; have HB := n2_; clear n0_ n1_ n2_; (try clear hb); (try clear hb2); (try clear hk); (try clear hi)) | ((with_reducible refine gate_dst (N := 15) rfl ?_); (try (refine gate_guard (by rfl) ?_; dsimp only)); refine box_event ?hg (N := 15) ?hd (cs := #[.int .i64 0, .int .i64 0]) (t := 66) ?hr ?_; (case hd => rfl); (case hg => rfl); (case hr => first | (go_simp; done) | (go_simp; rfl)); intro gb781 hg w37 hbox hb; have n0_ := Aside0.mk (Kd.R_below (Kd.R_elderB (by (with_reducible repeat (first | apply Kd.R_alloc | apply Kd.R_drewN | apply Kd.R_drew)); exact HO_11.out) gb781 (Nat.le_of_eq hg.symm)) hb); have n1_ := Aside0.mk (blk_below (g := gb777) (o := .cells #[.int .i64 t778, .int .i64 t779] 66 (0, 0)) (by (with_reducible repeat (first | refine blk_drewN ?_ _ | refine blk_drew ?_ | refine blk_alloc ?_ _)); exact BK777.out) hb); have n2_ := Aside0.mk (below_step (by repeat (first | (with_reducible first | exact HB.out | apply below_alloc | apply pw_below_drewN | apply below_drew1 | refine below_set ?_ GE777.out) | exact HB.out)) hb); have n3_ := Aside0.mk (hbox); have n4_ := Aside0.mk ((by rw [hg]; exact (below_size (by repeat (first | (with_reducible first | exact HB.out | apply below_alloc | apply pw_below_drewN | apply below_drew1 | refine below_set ?_ GE777.out) | exact HB.out))) : w.heap.size ≤ gb781)); have n5_ := Aside0.mk ((by rw [hg]; exact (below_size (by repeat (first | (with_reducible first | exact HB.out | apply below_alloc | apply pw_below_drewN | apply below_drew1 | refine below_set ?_ GE777.out) | exact HB.out))) : w.heap.size ≤ gb781)); have n6_ := Aside0.mk ((by rw [hg]; exact Nat.ne_of_lt (blk_lt (g := gb777) (o := .cells #[.int .i64 t778, .int .i64 t779] 66 (0, 0)) (by (with_reducible repeat (first | refine blk_drewN ?_ _ | refine blk_drew ?_ | refine blk_alloc ?_ _)); exact BK777.out)) : gb777 ≠ gb781)); have n7_ := Aside0.mk ((by rw [hg]; exact Nat.ne_of_gt (blk_lt (g := gb777) (o := .cells #[.int .i64 t778, .int .i64 t779] 66 (0, 0)) (by (with_reducible repeat (first | refine blk_drewN ?_ _ | refine blk_drew ?_ | refine blk_alloc ?_ _)); exact BK777.out)) : gb781 ≠ gb777)); clear HO_11; clear BK777; clear HB; have HO_11 := n0_; have BK777 := n1_; have HB := n2_; have BK781 := n3_; have GW781 := n4_; have GE781 := n5_; have NB777_781 := n6_; have NB781_777 := n7_; clear n0_ n1_ n2_ n3_ n4_ n5_ n6_ n7_; clear hb hbox hg; have hnb38 := NB781_777.out; have hnc38 := NB777_781.out; have hcz39_0 : w37.cell? ⟨gb781, 0, none⟩ = some (.int .i64 0) := (blk_cell BK781.out 0).trans rfl; have hcz39_1 : w37.cell? ⟨gb781, 1, none⟩ = some (.int .i64 0) := (blk_cell BK781.out 1).trans rfl; have hfz39_0 := blk_frozen BK781.out 0; have hfz39_1 := blk_frozen BK781.out 1; have hcz40_0 : w37.cell? ⟨gb777, 0, none⟩ = some (.int .i64 t778) := (blk_cell BK777.out 0).trans rfl; have hcz40_1 : w37.cell? ⟨gb777, 1, none⟩ = some (.int .i64 t779) := (blk_cell BK777.out 1).trans rfl; have hfz40_0 := blk_frozen BK777.out 0; have hfz40_1 := blk_frozen BK777.out 1) | (go_at_call 31; (with_reducible refine (space_Free.calls k2 a1 a2 _ _ l3 t782 _ ?side1 ?side2 A22.out).mono ?_); (case side1 => exact Kd.C_below HR3.out (by repeat (first | (with_reducible first | exact HB.out | apply below_alloc | apply pw_below_drewN | apply below_drew1 | refine below_set ?_ GE777.out | refine below_set ?_ GE781.out) | exact HB.out))); (case side2 => exact HC3.out); rintro e w41 ⟨v783, rfl, ho0, hb⟩; have n0_ := Aside0.mk (Kd.R_elder' (by (with_reducible repeat (first | apply Kd.R_alloc | apply Kd.R_drewN | apply Kd.R_drew)); exact (Kd.R_mono (Kd.R_far (p := ⟨gb781, 1, none⟩) (Kd.R_far (p := ⟨gb781, 0, none⟩) (Kd.R_mono HO_11.out (fun k_ hk => (⟨hk, hk.2⟩ : _ ∧ k_ ≠ gb781))) (fun _ hk => hk.2) (.int .i64 t778)) (fun _ hk => hk.2) (.int .i64 t779)) (fun _ h_ => h_.1))) (Kd.R_base ho0) hb); have n1_ := Aside0.mk (Kd.R_lower (Kd.R_newB (Kd.R_newB (Kd.R_new' ho0 (Kd.R_lt (by (with_reducible repeat (first | apply Kd.R_alloc | apply Kd.R_drewN | apply Kd.R_drew)); exact (Kd.R_mono (Kd.R_far (p := ⟨gb781, 1, none⟩) (Kd.R_far (p := ⟨gb781, 0, none⟩) (Kd.R_mono HO_11.out (fun k_ hk => (⟨hk, hk.2⟩ : _ ∧ k_ ≠ gb781))) (fun _ hk => hk.2) (.int .i64 t778)) (fun _ hk => hk.2) (.int .i64 t779)) (fun _ h_ => h_.1))))) (g := gb777) (o := .cells #[.int .i64 t778, .int .i64 t779] 66 (0, 0)) (by (with_reducible repeat (first | refine blk_drewN ?_ _ | refine blk_drew ?_ | refine blk_alloc ?_ _)); refine blk_far ?_ NB777_781.out _; (with_reducible repeat (first | refine blk_drewN ?_ _ | refine blk_drew ?_ | refine blk_alloc ?_ _)); refine blk_far ?_ NB777_781.out _; (with_reducible repeat (first | refine blk_drewN ?_ _ | refine blk_drew ?_ | refine blk_alloc ?_ _)); exact BK777.out)) (g := gb781) (o := .cells #[.int .i64 t778, .int .i64 t779] 66 (0, 0)) (by (with_reducible repeat (first | refine blk_drewN ?_ _ | refine blk_drew ?_ | refine blk_alloc ?_ _)); refine blk_put (cs := #[.int .i64 t778, .int .i64 0]) ?_ 1 _ rfl; (with_reducible repeat (first | refine blk_drewN ?_ _ | refine blk_drew ?_ | refine blk_alloc ?_ _)); refine blk_put (cs := #[.int .i64 0, .int .i64 0]) ?_ 0 _ rfl; (with_reducible repeat (first | refine blk_drewN ?_ _ | refine blk_drew ?_ | refine blk_alloc ?_ _)); exact BK781.out)) (below_size (by repeat (first | (with_reducible first | exact HB.out | apply below_alloc | apply pw_below_drewN | apply below_drew1 | refine below_set ?_ GE777.out | refine below_set ?_ GE781.out) | exact HB.out)))); have n2_ := Aside0.mk (blk_below (g := gb777) (o := .cells #[.int .i64 t778, .int .i64 t779] 66 (0, 0)) (by (with_reducible repeat (first | refine blk_drewN ?_ _ | refine blk_drew ?_ | refine blk_alloc ?_ _)); refine blk_far ?_ NB777_781.out _; (with_reducible repeat (first | refine blk_drewN ?_ _ | refine blk_drew ?_ | refine blk_alloc ?_ _)); refine blk_far ?_ NB777_781.out _; (with_reducible repeat (first | refine blk_drewN ?_ _ | refine blk_drew ?_ | refine blk_alloc ?_ _)); exact BK777.out) hb); have n3_ := Aside0.mk (blk_below (g := gb781) (o := .cells #[.int .i64 t778, .int .i64 t779] 66 (0, 0)) (by (with_reducible repeat (first | refine blk_drewN ?_ _ | refine blk_drew ?_ | refine blk_alloc ?_ _)); refine blk_put (cs := #[.int .i64 t778, .int .i64 0]) ?_ 1 _ rfl; (with_reducible repeat (first | refine blk_drewN ?_ _ | refine blk_drew ?_ | refine blk_alloc ?_ _)); refine blk_put (cs := #[.int .i64 0, .int .i64 0]) ?_ 0 _ rfl; (with_reducible repeat (first | refine blk_drewN ?_ _ | refine blk_drew ?_ | refine blk_alloc ?_ _)); exact BK781.out) hb); have n4_ := Aside0.mk (below_step (by repeat (first | (with_reducible first | exact HB.out | apply below_alloc | apply pw_below_drewN | apply below_drew1 | refine below_set ?_ GE777.out | refine below_set ?_ GE781.out) | exact HB.out)) hb); clear HO_11; clear BK777; clear BK781; clear HB; have HO_11 := n0_; have HO784 := n1_; have BK777 := n2_; have BK781 := n3_; have HB := n4_; clear n0_ n1_ n2_ n3_ n4_; (try clear hb); (try clear hb2); (try clear hk); (try clear hi); (try clear ho0); obtain ⟨Ao42, co42, eo42⟩ := Kd.R_slice HO784.out; subst eo42) | (go_at_call 34; (with_reducible refine (weirkeeperlaw05_refs.calls k2 _ _ t782 t785 _ ?side1 ?side2 A23.out).mono ?_); (case side1 => repeat (first | exact (Kd.R_reads' HO784.out).2.2 | (with_reducible refine Kd.C_alloc ?_ _) | (with_reducible refine Kd.C_drewN ?_ _) | (with_reducible refine Kd.C_drew ?_))); (case side2 => exact (Kd.R_reads' HO784.out).2.1); rintro e w43 ⟨v786, rfl, ho0, hb⟩; have n0_ := Aside0.mk (Kd.R_below (by (with_reducible repeat (first | apply Kd.R_alloc | apply Kd.R_drewN | apply Kd.R_drew)); exact HO_11.out) hb); have n1_ := Aside0.mk (Kd.R_below (by (with_reducible repeat (first | apply Kd.R_alloc | apply Kd.R_drewN | apply Kd.R_drew)); exact HO784.out) hb); have n2_ := Aside0.mk (Kd.R_lower ho0 (below_size (by repeat (first | (with_reducible first | exact HB.out | apply below_alloc | apply pw_below_drewN | apply below_drew1 | refine below_set ?_ GE777.out | refine below_set ?_ GE781.out) | exact HB.out)))); have n3_ := Aside0.mk (blk_below (g := gb777) (o := .cells #[.int .i64 t778, .int .i64 t779] 66 (0, 0)) (by (with_reducible repeat (first | refine blk_drewN ?_ _ | refine blk_drew ?_ | refine blk_alloc ?_ _)); exact BK777.out) hb); have n4_ := Aside0.mk (blk_below (g := gb781) (o := .cells #[.int .i64 t778, .int .i64 t779] 66 (0, 0)) (by (with_reducible repeat (first | refine blk_drewN ?_ _ | refine blk_drew ?_ | refine blk_alloc ?_ _)); exact BK781.out) hb); have n5_ := Aside0.mk (below_step (by repeat (first | (with_reducible first | exact HB.out | apply below_alloc | apply pw_below_drewN | apply below_drew1 | refine below_set ?_ GE777.out | refine below_set ?_ GE781.out) | exact HB.out)) hb); clear HO_11; clear HO784; clear BK777; clear BK781; clear HB; have HO_11 := n0_; have HO784 := n1_; have HO787 := n2_; have BK777 := n3_; have BK781 := n4_; have HB := n5_; clear n0_ n1_ n2_ n3_ n4_ n5_; (try clear hb); (try clear hb2); (try clear hk); (try clear hi); (try clear ho0)) | (go_at_call 31; (with_reducible refine (space_Free.calls k2 a1 a2 _ _ x11_2 t788 _ ?side1 ?side2 A24.out).mono ?_); (case side1 => repeat (first | exact (Kd.R_reads' HO_11.out).2.2 | (with_reducible refine Kd.C_alloc ?_ _) | (with_reducible refine Kd.C_drewN ?_ _) | (with_reducible refine Kd.C_drew ?_))); (case side2 => exact (Kd.R_reads' HO_11.out).2.1); rintro e w44 ⟨v789, rfl, ho0, hb⟩; have n0_ := Aside0.mk (Kd.R_elder' (by (with_reducible repeat (first | apply Kd.R_alloc | apply Kd.R_drewN | apply Kd.R_drew)); exact HO_11.out) (Kd.R_base ho0) hb); have n1_ := Aside0.mk (Kd.R_elder' (by (with_reducible repeat (first | apply Kd.R_alloc | apply Kd.R_drewN | apply Kd.R_drew)); exact HO784.out) (Kd.R_base ho0) hb); have n2_ := Aside0.mk (Kd.R_below (by (with_reducible repeat (first | apply Kd.R_alloc | apply Kd.R_drewN | apply Kd.R_drew)); exact HO787.out) hb); have n3_ := Aside0.mk (Kd.R_lower (Kd.R_newB (Kd.R_newB (Kd.R_new' (Kd.R_new' ho0 (Kd.R_lt (by (with_reducible repeat (first | apply Kd.R_alloc | apply Kd.R_drewN | apply Kd.R_drew)); exact HO_11.out))) (Kd.R_lt (by (with_reducible repeat (first | apply Kd.R_alloc | apply Kd.R_drewN | apply Kd.R_drew)); exact HO784.out))) (g := gb777) (o := .cells #[.int .i64 t778, .int .i64 t779] 66 (0, 0)) (by (with_reducible repeat (first | refine blk_drewN ?_ _ | refine blk_drew ?_ | refine blk_alloc ?_ _)); exact BK777.out)) (g := gb781) (o := .cells #[.int .i64 t778, .int .i64 t779] 66 (0, 0)) (by (with_reducible repeat (first | refine blk_drewN ?_ _ | refine blk_drew ?_ | refine blk_alloc ?_ _)); exact BK781.out)) (below_size (by repeat (first | (with_reducible first | exact HB.out | apply below_alloc | apply pw_below_drewN | apply below_drew1 | refine below_set ?_ GE777.out | refine below_set ?_ GE781.out) | exact HB.out)))); have n4_ := Aside0.mk (blk_below (g := gb777) (o := .cells #[.int .i64 t778, .int .i64 t779] 66 (0, 0)) (by (with_reducible repeat (first | refine blk_drewN ?_ _ | refine blk_drew ?_ | refine blk_alloc ?_ _)); exact BK777.out) hb); have n5_ := Aside0.mk (blk_below (g := gb781) (o := .cells #[.int .i64 t778, .int .i64 t779] 66 (0, 0)) (by (with_reducible repeat (first | refine blk_drewN ?_ _ | refine blk_drew ?_ | refine blk_alloc ?_ _)); exact BK781.out) hb); have n6_ := Aside0.mk (below_step (by repeat (first | (with_reducible first | exact HB.out | apply below_alloc | apply pw_below_drewN | apply below_drew1 | refine below_set ?_ GE777.out | refine below_set ?_ GE781.out) | exact HB.out)) hb); clear HO_11; clear HO784; clear HO787; clear BK777; clear BK781; clear HB; have HO_11 := n0_; have HO784 := n1_; have HO787 := n2_; have HO790 := n3_; have BK777 := n4_; have BK781 := n5_; have HB := n6_; clear n0_ n1_ n2_ n3_ n4_ n5_ n6_; (try clear hb); (try clear hb2); (try clear hk); (try clear hi); (try clear ho0); obtain ⟨Ao45, co45, eo45⟩ := Kd.R_slice HO790.out; subst eo45) | (go_at_call 34; (with_reducible refine (weirkeeperlaw05_refs.calls k2 _ _ t788 t791 _ ?side1 ?side2 A25.out).mono ?_); (case side1 => repeat (first | exact (Kd.R_reads' HO790.out).2.2 | (with_reducible refine Kd.C_alloc ?_ _) | (with_reducible refine Kd.C_drewN ?_ _) | (with_reducible refine Kd.C_drew ?_))); (case side2 => exact (Kd.R_reads' HO790.out).2.1); rintro e w46 ⟨v792, rfl, ho0, hb⟩; have n0_ := Aside0.mk (Kd.R_below (by (with_reducible repeat (first | apply Kd.R_alloc | apply Kd.R_drewN | apply Kd.R_drew)); exact HO_11.out) hb); have n1_ := Aside0.mk (Kd.R_below (by (with_reducible repeat (first | apply Kd.R_alloc | apply Kd.R_drewN | apply Kd.R_drew)); exact HO784.out) hb); have n2_ := Aside0.mk (Kd.R_elder' (by (with_reducible repeat (first | apply Kd.R_alloc | apply Kd.R_drewN | apply Kd.R_drew)); exact HO787.out) (Kd.R_base ho0) hb); have n3_ := Aside0.mk (Kd.R_below (by (with_reducible repeat (first | apply Kd.R_alloc | apply Kd.R_drewN | apply Kd.R_drew)); exact HO790.out) hb); have n4_ := Aside0.mk (Kd.R_lower (Kd.R_new' ho0 (Kd.R_lt (by (with_reducible repeat (first | apply Kd.R_alloc | apply Kd.R_drewN | apply Kd.R_drew)); exact HO787.out))) (below_size (by repeat (first | (with_reducible first | exact HB.out | apply below_alloc | apply pw_below_drewN | apply below_drew1 | refine below_set ?_ GE777.out | refine below_set ?_ GE781.out) | exact HB.out)))); have n5_ := Aside0.mk (blk_below (g := gb777) (o := .cells #[.int .i64 t778, .int .i64 t779] 66 (0, 0)) (by (with_reducible repeat (first | refine blk_drewN ?_ _ | refine blk_drew ?_ | refine blk_alloc ?_ _)); exact BK777.out) hb); have n6_ := Aside0.mk (blk_below (g := gb781) (o := .cells #[.int .i64 t778, .int .i64 t779] 66 (0, 0)) (by (with_reducible repeat (first | refine blk_drewN ?_ _ | refine blk_drew ?_ | refine blk_alloc ?_ _)); exact BK781.out) hb); have n7_ := Aside0.mk (below_step (by repeat (first | (with_reducible first | exact HB.out | apply below_alloc | apply pw_below_drewN | apply below_drew1 | refine below_set ?_ GE777.out | refine below_set ?_ GE781.out) | exact HB.out)) hb); clear HO_11; clear HO784; clear HO787; clear HO790; clear BK777; clear BK781; clear HB; have HO_11 := n0_; have HO784 := n1_; have HO787 := n2_; have HO790 := n3_; have HO793 := n4_; have BK777 := n5_; have BK781 := n6_; have HB := n7_; clear n0_ n1_ n2_ n3_ n4_ n5_ n6_ n7_; (try clear hb); (try clear hb2); (try clear hk); (try clear hi); (try clear ho0); obtain ⟨Ao47, co47, eo47⟩ := Kd.R_slice HO787.out; subst eo47; obtain ⟨Ao48, co48, eo48⟩ := Kd.R_slice HO793.out; subst eo48) | (go_at_call 38; (with_reducible refine (weirkeeperref05_Same.calls k2 _ _ t785 _ _ t791 true _ ?side1 ?side2 ?side3 ?side4 A26.out).mono ?_); (case side1 => repeat (first | exact (Kd.R_reads' HO787.out).2.2 | (with_reducible refine Kd.C_alloc ?_ _) | (with_reducible refine Kd.C_drewN ?_ _) | (with_reducible refine Kd.C_drew ?_))); (case side2 => exact (Kd.R_reads' HO787.out).2.1); (case side3 => repeat (first | exact (Kd.R_reads' HO793.out).2.2 | (with_reducible refine Kd.C_alloc ?_ _) | (with_reducible refine Kd.C_drewN ?_ _) | (with_reducible refine Kd.C_drew ?_))); (case side4 => exact (Kd.R_reads' HO793.out).2.1); rintro e w' ⟨rfl, ⟨nd, rfl⟩⟩) | (go_at_call 36; (with_reducible refine (space_Right.calls k2 a1 a2 _ _ l3 t795 _ ?side1 ?side2 A28.out).mono ?_); (case side1 => repeat (first | exact (Kd.C_below HR3.out (by repeat (first | (with_reducible first | exact HB.out | apply below_alloc | apply pw_below_drewN | apply below_drew1 | refine below_set ?_ GE777.out | refine below_set ?_ GE781.out) | exact HB.out))) | (with_reducible refine Kd.C_alloc ?_ _) | (with_reducible refine Kd.C_drewN ?_ _) | (with_reducible refine Kd.C_drew ?_))); (case side2 => exact HC3.out); rintro e w49 ⟨rfl, hb⟩; have n0_ := Aside0.mk (Kd.R_below (by (with_reducible repeat (first | apply Kd.R_alloc | apply Kd.R_drewN | apply Kd.R_drew)); exact HO_11.out) hb); have n1_ := Aside0.mk (Kd.R_below (by (with_reducible repeat (first | apply Kd.R_alloc | apply Kd.R_drewN | apply Kd.R_drew)); exact HO784.out) hb); have n2_ := Aside0.mk (Kd.R_below (by (with_reducible repeat (first | apply Kd.R_alloc | apply Kd.R_drewN | apply Kd.R_drew)); exact HO787.out) hb); have n3_ := Aside0.mk (Kd.R_below (by (with_reducible repeat (first | apply Kd.R_alloc | apply Kd.R_drewN | apply Kd.R_drew)); exact HO790.out) hb); have n4_ := Aside0.mk (Kd.R_below (by (with_reducible repeat (first | apply Kd.R_alloc | apply Kd.R_drewN | apply Kd.R_drew)); exact HO793.out) hb); have n5_ := Aside0.mk (blk_below (g := gb777) (o := .cells #[.int .i64 t778, .int .i64 t779] 66 (0, 0)) (by (with_reducible repeat (first | refine blk_drewN ?_ _ | refine blk_drew ?_ | refine blk_alloc ?_ _)); exact BK777.out) hb); have n6_ := Aside0.mk (blk_below (g := gb781) (o := .cells #[.int .i64 t778, .int .i64 t779] 66 (0, 0)) (by (with_reducible repeat (first | refine blk_drewN ?_ _ | refine blk_drew ?_ | refine blk_alloc ?_ _)); exact BK781.out) hb); have n7_ := Aside0.mk (below_step (by repeat (first | (with_reducible first | exact HB.out | apply below_alloc | apply pw_below_drewN | apply below_drew1 | refine below_set ?_ GE777.out | refine below_set ?_ GE781.out) | exact HB.out)) hb); clear HO_11; clear HO784; clear HO787; clear HO790; clear HO793; clear BK777; clear BK781; clear HB; have HO_11 := n0_; have HO784 := n1_; have HO787 := n2_; have HO790 := n3_; have HO793 := n4_; have BK777 := n5_; have BK781 := n6_; have HB := n7_; clear n0_ n1_ n2_ n3_ n4_ n5_ n6_ n7_; (try clear hb); (try clear hb2); (try clear hk); (try clear hi)) | (go_at_call 36; (with_reducible refine (space_Right.calls k2 a1 a2 _ _ x11_2 t796 _ ?side1 ?side2 A29.out).mono ?_); (case side1 => repeat (first | exact (Kd.R_reads' HO_11.out).2.2 | (with_reducible refine Kd.C_alloc ?_ _) | (with_reducible refine Kd.C_drewN ?_ _) | (with_reducible refine Kd.C_drew ?_))); (case side2 => exact (Kd.R_reads' HO_11.out).2.1); rintro e w50 ⟨rfl, hb⟩; have n0_ := Aside0.mk (Kd.R_below (by (with_reducible repeat (first | apply Kd.R_alloc | apply Kd.R_drewN | apply Kd.R_drew)); exact HO_11.out) hb); have n1_ := Aside0.mk (Kd.R_below (by (with_reducible repeat (first | apply Kd.R_alloc | apply Kd.R_drewN | apply Kd.R_drew)); exact HO784.out) hb); have n2_ := Aside0.mk (Kd.R_below (by (with_reducible repeat (first | apply Kd.R_alloc | apply Kd.R_drewN | apply Kd.R_drew)); exact HO787.out) hb); have n3_ := Aside0.mk (Kd.R_below (by (with_reducible repeat (first | apply Kd.R_alloc | apply Kd.R_drewN | apply Kd.R_drew)); exact HO790.out) hb); have n4_ := Aside0.mk (Kd.R_below (by (with_reducible repeat (first | apply Kd.R_alloc | apply Kd.R_drewN | apply Kd.R_drew)); exact HO793.out) hb); have n5_ := Aside0.mk (blk_below (g := gb777) (o := .cells #[.int .i64 t778, .int .i64 t779] 66 (0, 0)) (by (with_reducible repeat (first | refine blk_drewN ?_ _ | refine blk_drew ?_ | refine blk_alloc ?_ _)); exact BK777.out) hb); have n6_ := Aside0.mk (blk_below (g := gb781) (o := .cells #[.int .i64 t778, .int .i64 t779] 66 (0, 0)) (by (with_reducible repeat (first | refine blk_drewN ?_ _ | refine blk_drew ?_ | refine blk_alloc ?_ _)); exact BK781.out) hb); have n7_ := Aside0.mk (below_step (by repeat (first | (with_reducible first | exact HB.out | apply below_alloc | apply pw_below_drewN | apply below_drew1 | refine below_set ?_ GE777.out | refine below_set ?_ GE781.out) | exact HB.out)) hb); clear HO_11; clear HO784; clear HO787; clear HO790; clear HO793; clear BK777; clear BK781; clear HB; have HO_11 := n0_; have HO784 := n1_; have HO787 := n2_; have HO790 := n3_; have HO793 := n4_; have BK777 := n5_; have BK781 := n6_; have HB := n7_; clear n0_ n1_ n2_ n3_ n4_ n5_ n6_ n7_; (try clear hb); (try clear hb2); (try clear hk); (try clear hi)) | (go_at_call 30; (with_reducible refine (weirkeeperlaw05_awake.calls k2 _ A31.out).mono ?_); rintro e w51 ⟨rfl, hb⟩; have n0_ := Aside0.mk (Kd.R_below (by (with_reducible repeat (first | apply Kd.R_alloc | apply Kd.R_drewN | apply Kd.R_drew)); exact HO_11.out) hb); have n1_ := Aside0.mk (Kd.R_below (by (with_reducible repeat (first | apply Kd.R_alloc | apply Kd.R_drewN | apply Kd.R_drew)); exact HO784.out) hb); have n2_ := Aside0.mk (Kd.R_below (by (with_reducible repeat (first | apply Kd.R_alloc | apply Kd.R_drewN | apply Kd.R_drew)); exact HO787.out) hb); have n3_ := Aside0.mk (Kd.R_below (by (with_reducible repeat (first | apply Kd.R_alloc | apply Kd.R_drewN | apply Kd.R_drew)); exact HO790.out) hb); have n4_ := Aside0.mk (Kd.R_below (by (with_reducible repeat (first | apply Kd.R_alloc | apply Kd.R_drewN | apply Kd.R_drew)); exact HO793.out) hb); have n5_ := Aside0.mk (blk_below (g := gb777) (o := .cells #[.int .i64 t778, .int .i64 t779] 66 (0, 0)) (by (with_reducible repeat (first | refine blk_drewN ?_ _ | refine blk_drew ?_ | refine blk_alloc ?_ _)); exact BK777.out) hb); have n6_ := Aside0.mk (blk_below (g := gb781) (o := .cells #[.int .i64 t778, .int .i64 t779] 66 (0, 0)) (by (with_reducible repeat (first | refine blk_drewN ?_ _ | refine blk_drew ?_ | refine blk_alloc ?_ _)); exact BK781.out) hb); have n7_ := Aside0.mk (below_step (by repeat (first | (with_reducible first | exact HB.out | apply below_alloc | apply pw_below_drewN | apply below_drew1 | refine below_set ?_ GE777.out | refine below_set ?_ GE781.out) | exact HB.out)) hb); clear HO_11; clear HO784; clear HO787; clear HO790; clear HO793; clear BK777; clear BK781; clear HB; have HO_11 := n0_; have HO784 := n1_; have HO787 := n2_; have HO790 := n3_; have HO793 := n4_; have BK777 := n5_; have BK781 := n6_; have HB := n7_; clear n0_ n1_ n2_ n3_ n4_ n5_ n6_ n7_; (try clear hb); (try clear hb2); (try clear hk); (try clear hi)))
                      go_ret
                      exact ⟨by first | rfl | (simp only [h9_.out]; done) | (have h8_ := h9_.out; simp [h8_]; done) | (simp [errW_none, errW_some] <;> rfl) | (simp [*, errW_none, errW_some] <;> rfl), by repeat (first | (with_reducible first | exact HB.out | apply below_alloc | apply pw_below_drewN | apply below_drew1 | refine below_set ?_ GE777.out | refine below_set ?_ GE781.out) | exact HB.out)⟩
                    · rw [if_neg c30] at H
                      have c30b0 : (t795 == t796) = false := by simpa using c30
                      (try (have c30b1 : decide (t795 = t796) = false := by simpa using c30))
                      (try (have c30b2 : (t795 == t796) = false := by simpa using c30))
                      (try (have c30b3 : ¬ (t795 = t796) := by simpa using c30))
                      clear c30
                      exact absurd H (by simp)
                  · replace c27 := Bool.eq_false_iff.mpr c27
                    subst c27
                    have H1 : (some false) = some true := by rw [if_neg (show ¬ (false = true) by decide)] at H; exact H
                    clear H
                    have H := H1
                    clear H1
                    exact absurd H (by simp)
                · rw [if_neg c21] at H
                  have c21b0 : (t776 == t780) = false := beq_eq_false_iff_ne.mpr c21
                  have c21b1 : (t776 != t780) = true := bne_iff_ne.mpr c21
                  exact absurd H (by simp)
              · rw [if_neg c20] at H
                have c20b0 : (t774 == t778 && (t775 == t779)) = false := by simpa using c20
                (try (have c20b1 : decide (t774 = t778 && (t775 == t779)) = false := by simpa using c20))
                (try (have c20b2 : (t774 == t778 && (t775 == t779)) = false := by simpa using c20))
                (try (have c20b3 : ¬ (t774 = t778 && (t775 == t779)) := by simpa using c20))
                clear c20
                exact absurd H (by simp)

end Go.Proofs.Ythcohkgpbjcliaa.F

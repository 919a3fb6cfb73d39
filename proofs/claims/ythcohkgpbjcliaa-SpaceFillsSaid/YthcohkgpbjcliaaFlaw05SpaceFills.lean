/- Contracts of Go functions of the seat Ythcohkgpbjcliaa: what a call comes to; no condition but those that each theorem names. -/
import Derived.Test.YthcohkgpbjcliaaFPre
import Derived.Test.YthcohkgpbjcliaaFspacex0
import Derived.Test.YthcohkgpbjcliaaFspacex1
import Derived.Test.YthcohkgpbjcliaaFlaw05awake
namespace Go.Proofs.Ythcohkgpbjcliaa.F
open Go.RowKit Go.Proofs.YthcohkgpbjcliaaW.PrintWords Go.Proofs.YthcohkgpbjcliaaW.PrintLast Go.Proofs.YthcohkgpbjcliaaW.PrintMore
attribute [local go_sem] max2_int min2_int max_two min_two max_three min_three max_four min_four   -- for this text's walks alone
set_option linter.unusedVariables false
set_option linter.unusedSimpArgs false

attribute [local go_sem] fieldD25_0 fieldD25_1
/-! ### weirkeeperlaw05_SpaceFills: function 12 -/
mutual
def weirkeeperlaw05_SpaceFills.j0 : Nat → Int → Int → List (S66) → Bool → Option (Bool)
  | 0, _, _, _, _ => none
  | k + 1, x0, x1, x2, x29 => if x29 = true then ((weirkeeperlaw05_awake.f k).bind fun t799 => (some t799)) else ((space_Left.f k x0 x1 x2).bind fun t800 => ((some (([] : List (S66)) : List (S66))).bind fun y801 => (if y801.length + x2.length < 8796093022208 then (weirkeeperlaw05_SpaceFills.l0 k x0 x1 (-1) (y801 ++ x2) t800 0) else (none))))
def weirkeeperlaw05_SpaceFills.l0 : Nat → Int → Int → Int → List (S66) → Int → Int → Option (Bool)
  | 0, _, _, _, _, _, _ => none
  | k + 1, x0, x1, x8, x9, x38, x39 => if x39 < x38 then ((space_Fit.f k 1 x0 x1 x9).bind fun bt807 => (if bt807.2.2 = 0 then (if bt807.2.1 = 1 then (if bt807.1 ≤ x8 then (some false) else (if x9.length < 8796093022208 then (weirkeeperlaw05_SpaceFills.l0 k x0 x1 bt807.1 (x9 ++ [(⟨bt807.1, bt807.2.1⟩ : S66)]) x38 (wrap64 (x39 + 1))) else (none))) else (some false)) else (some false))) else ((space_Fit.f k 1 x0 x1 x9).bind fun bt814 => (if bt814.2.2 = 5 then ((space_Free.f k x0 x1 x9).bind fun t818 => (if (t818.length : Int) = 0 then ((weirkeeperlaw05_awake.f k).bind fun t821 => (some t821)) else (some false))) else (some false)))
end
def weirkeeperlaw05_SpaceFills.f (k : Nat) (a0 : Int) (a1 : Int) (l2 : List (S66)) : Option (Bool) := if (l2.length : Int) > 20 then (weirkeeperlaw05_SpaceFills.j0 k a0 a1 l2 true) else (if (wrap64 (a1 - a0)) > 40 then (weirkeeperlaw05_SpaceFills.j0 k a0 a1 l2 true) else ((space_Right.f k a0 a1 l2).bind fun t798 => (weirkeeperlaw05_SpaceFills.j0 k a0 a1 l2 (!t798))))
theorem weirkeeperlaw05_SpaceFills.mono_l : ∀ k, (∀ y0 y1 y2 y3, LeO (weirkeeperlaw05_SpaceFills.j0 k y0 y1 y2 y3) (weirkeeperlaw05_SpaceFills.j0 (k + 1) y0 y1 y2 y3)) ∧ (∀ y0 y1 y2 y3 y4 y5, LeO (weirkeeperlaw05_SpaceFills.l0 k y0 y1 y2 y3 y4 y5) (weirkeeperlaw05_SpaceFills.l0 (k + 1) y0 y1 y2 y3 y4 y5))
  | 0 => ⟨fun _ _ _ _ r h => by simp [weirkeeperlaw05_SpaceFills.j0] at h, fun _ _ _ _ _ _ r h => by simp [weirkeeperlaw05_SpaceFills.l0] at h⟩
  | k + 1 => by
    obtain ⟨ih0, ih1⟩ := weirkeeperlaw05_SpaceFills.mono_l k
    refine ⟨?_, ?_⟩
    · intro y0 y1 y2 y3
      unfold weirkeeperlaw05_SpaceFills.j0
      repeat' first
      | (with_reducible exact ih0 _ _ _ _)
      | (with_reducible exact ih1 _ _ _ _ _ _)
      | (with_reducible exact space_Fit.mono _ _ _ _ _)
      | (with_reducible exact space_Free.mono _ _ _ _)
      | (with_reducible exact space_Left.mono _ _ _ _)
      | (with_reducible exact space_Right.mono _ _ _ _)
      | (with_reducible exact weirkeeperlaw05_awake.mono _)
      | (with_reducible exact LeO.refl _)
      | (with_reducible exact LeO.none _)
      | (with_reducible refine LeO.ite ?_ ?_)
      | (with_reducible refine LeO.bind ?_ (fun _ => ?_))
      | exact ih0 _ _ _ _
      | exact ih1 _ _ _ _ _ _
      | exact space_Fit.mono _ _ _ _ _
      | exact space_Free.mono _ _ _ _
      | exact space_Left.mono _ _ _ _
      | exact space_Right.mono _ _ _ _
      | exact weirkeeperlaw05_awake.mono _
      | exact LeO.none _
      | refine LeO.ite ?_ ?_
      | refine LeO.bind ?_ (fun _ => ?_)
    · intro y0 y1 y2 y3 y4 y5
      unfold weirkeeperlaw05_SpaceFills.l0
      repeat' first
      | (with_reducible exact ih0 _ _ _ _)
      | (with_reducible exact ih1 _ _ _ _ _ _)
      | (with_reducible exact space_Fit.mono _ _ _ _ _)
      | (with_reducible exact space_Free.mono _ _ _ _)
      | (with_reducible exact space_Left.mono _ _ _ _)
      | (with_reducible exact space_Right.mono _ _ _ _)
      | (with_reducible exact weirkeeperlaw05_awake.mono _)
      | (with_reducible exact LeO.refl _)
      | (with_reducible exact LeO.none _)
      | (with_reducible refine LeO.ite ?_ ?_)
      | (with_reducible refine LeO.bind ?_ (fun _ => ?_))
      | exact ih0 _ _ _ _
      | exact ih1 _ _ _ _ _ _
      | exact space_Fit.mono _ _ _ _ _
      | exact space_Free.mono _ _ _ _
      | exact space_Left.mono _ _ _ _
      | exact space_Right.mono _ _ _ _
      | exact weirkeeperlaw05_awake.mono _
      | exact LeO.none _
      | refine LeO.ite ?_ ?_
      | refine LeO.bind ?_ (fun _ => ?_)
theorem weirkeeperlaw05_SpaceFills.mono : ∀ a0 a1 a2 k, LeO (weirkeeperlaw05_SpaceFills.f k a0 a1 a2) (weirkeeperlaw05_SpaceFills.f (k + 1) a0 a1 a2) := by
  intro a0 a1 a2 k
  obtain ⟨ih0, ih1⟩ := weirkeeperlaw05_SpaceFills.mono_l k
  unfold weirkeeperlaw05_SpaceFills.f
  repeat' first
      | (with_reducible exact ih0 _ _ _ _)
      | (with_reducible exact ih1 _ _ _ _ _ _)
      | (with_reducible exact space_Fit.mono _ _ _ _ _)
      | (with_reducible exact space_Free.mono _ _ _ _)
      | (with_reducible exact space_Left.mono _ _ _ _)
      | (with_reducible exact space_Right.mono _ _ _ _)
      | (with_reducible exact weirkeeperlaw05_awake.mono _)
      | (with_reducible exact LeO.refl _)
      | (with_reducible exact LeO.none _)
      | (with_reducible refine LeO.ite ?_ ?_)
      | (with_reducible refine LeO.bind ?_ (fun _ => ?_))
      | exact ih0 _ _ _ _
      | exact ih1 _ _ _ _ _ _
      | exact space_Fit.mono _ _ _ _ _
      | exact space_Free.mono _ _ _ _
      | exact space_Left.mono _ _ _ _
      | exact space_Right.mono _ _ _ _
      | exact weirkeeperlaw05_awake.mono _
      | exact LeO.none _
      | refine LeO.ite ?_ ?_
      | refine LeO.bind ?_ (fun _ => ?_)
def weirkeeperlaw05_SpaceFills.T11 : Bool × List (List Nat × List Nat) := (true, [([], []), ([0], [0]), ([], []), ([], []), ([3], [3]), ([2, 4], [2, 4]), ([1, 5, 0, 1], [1]), ([5, 6, 0, 1, 2, 3, 4, 5, 6], [2, 5])])
def weirkeeperlaw05_SpaceFills.B11 : List Nat := [0, 1, 0, 0, 8, 28, 63, 127]
theorem weirkeeperlaw05_SpaceFills.tab11 : rtab .any (opsOf Try.f12 11) = weirkeeperlaw05_SpaceFills.T11 := by kernel_rfl
theorem weirkeeperlaw05_SpaceFills.bits11 : waitsOk weirkeeperlaw05_SpaceFills.T11.2 weirkeeperlaw05_SpaceFills.B11 = true := by kernel_rfl
set_option maxHeartbeats 8000000 in
set_option maxRecDepth 100000 in
theorem weirkeeperlaw05_SpaceFills.calls (k : Nat) (a0 : Int) (a1 : Int) (A2 : Option Addr) (c2 : Nat) (l2 : List (S66)) (w : World) (hr2 : Kd.C k66 w A2 l2.length l2) (hc2 : l2.length ≤ c2) (h : weirkeeperlaw05_SpaceFills.f k a0 a1 l2 = some true) :
    Calls Try.prog 12 #[.int .i64 a0, .int .i64 a1, .slice A2 l2.length c2] w fun e w' => e = .returned (.bool true) ∧ Below w.heap.size w w' := by
  have hu66 := Try.underlying66
  have HR2 := Aside0.mk hr2
  have HC2 := Aside0.mk hc2
  clear hr2 hc2
  have HB := Aside0.mk (Below.refl w.heap.size w)
  have H : (if (l2.length : Int) > 20 then (weirkeeperlaw05_SpaceFills.j0 k a0 a1 l2 true) else (if (wrap64 (a1 - a0)) > 40 then (weirkeeperlaw05_SpaceFills.j0 k a0 a1 l2 true) else ((space_Right.f k a0 a1 l2).bind fun t798 => (weirkeeperlaw05_SpaceFills.j0 k a0 a1 l2 (!t798))))) = some true := h
  clear h
  have HC4 := Aside0.mk H
  clear H
  go_enter Try.func12, Try.ntmps12
  go_upto_region 1 with (fail)
  go_cut [29] (fun v29 wc => ∃ (kq : Nat) (x29_3 : Bool), v29 = .bool x29_3 ∧ Aside0 (weirkeeperlaw05_SpaceFills.j0 kq a0 a1 l2 x29_3 = some true) ∧ Aside0 (kq ≤ k) ∧ Aside0 (Below w.heap.size w wc))
  case first =>
    have H := HC4.out
    clear HC4
    by_cases c5 : (l2.length : Int) > 20
    · rw [if_pos c5] at H
      have c5b0 : decide (20 < (l2.length : Int)) = true := decide_eq_true c5
      have c5b1 : decide (20 < l2.length) = true := decide_eq_true (by omega)
      clear c5
      (first | rw [c5b0] | (simp only [i64_w, i32_w]; rw [c5b0]) | skip)
      have H' := Aside0.mk H
      clear H
      go_wp2
      go_meet
      case rel => exact ⟨_, (true), (by first | rfl | (simp; done) | (simp [*]; done)), H', ⟨by first | omega | exact Nat.le_refl _⟩, ⟨by repeat (first | (with_reducible first | exact HB.out | apply below_alloc | apply pw_below_drewN | apply below_drew1) | exact HB.out)⟩⟩
    · rw [if_neg c5] at H
      have c5b0 : decide (20 < (l2.length : Int)) = false := decide_eq_false c5
      have c5b1 : decide (20 < l2.length) = false := decide_eq_false (by omega)
      clear c5
      (first | rw [c5b0] | (simp only [i64_w, i32_w]; rw [c5b0]) | skip)
      by_cases c6 : (wrap64 (a1 - a0)) > 40
      · rw [if_pos c6] at H
        have c6b0 : decide (40 < (wrap64 (a1 - a0))) = true := decide_eq_true c6
        clear c6
        have H' := Aside0.mk H
        clear H
        go_wp2
        go_meet
        case rel => exact ⟨_, (true), (by first | rfl | (simp; done) | (simp [*]; done)), H', ⟨by first | omega | exact Nat.le_refl _⟩, ⟨by repeat (first | (with_reducible first | exact HB.out | apply below_alloc | apply pw_below_drewN | apply below_drew1) | exact HB.out)⟩⟩
      · rw [if_neg c6] at H
        have c6b0 : decide (40 < (wrap64 (a1 - a0))) = false := decide_eq_false c6
        clear c6
        replace H := Option.bind_eq_some_iff.mp H
        obtain ⟨t798, A70, H⟩ := H
        replace H : (weirkeeperlaw05_SpaceFills.j0 k a0 a1 l2 (!t798)) = some true := H
        have A7 := Aside0.mk A70
        clear A70
        have H' := Aside0.mk H
        clear H
        go_wp2_with (first | (go_at_call 36; (with_reducible refine (space_Right.calls k a0 a1 _ _ l2 t798 _ ?side1 ?side2 A7.out).mono ?_); (case side1 => repeat (first | exact (Kd.C_below HR2.out HB.out) | (with_reducible refine Kd.C_alloc ?_ _) | (with_reducible refine Kd.C_drewN ?_ _) | (with_reducible refine Kd.C_drew ?_))); (case side2 => exact HC2.out); rintro e w8 ⟨rfl, hb⟩; have n0_ := Aside0.mk (below_step (by repeat (first | (with_reducible first | exact HB.out | apply below_alloc | apply pw_below_drewN | apply below_drew1) | exact HB.out)) hb); clear HB; have HB := n0_; clear n0_; (try clear hb); (try clear hb2); (try clear hk); (try clear hi)))
        go_meet
        case rel => exact ⟨_, (!t798), (by first | rfl | (simp; done) | (simp [*]; done)), H', ⟨by first | omega | exact Nat.le_refl _⟩, ⟨by repeat (first | (with_reducible first | exact HB.out | apply below_alloc | apply pw_below_drewN | apply below_drew1) | exact HB.out)⟩⟩
  case rest =>
    clear HC4
    try clear c1
    try clear c2
    try clear p2
    try clear c5
    try clear c5b0
    try clear c5b1
    try clear c6
    try clear c6b0
    try clear p6
    obtain ⟨kq, x29_3, rfl, HA, HJ3, HB⟩ := hcut
    cases kq with
    | zero => exact absurd HA.out (by simp [weirkeeperlaw05_SpaceFills.j0])
    | succ kj3 =>
      have H := HA.out
      clear HA
      simp only [weirkeeperlaw05_SpaceFills.j0] at H
      by_cases c9 : x29_3 = true
      · subst c9
        have H1 : ((weirkeeperlaw05_awake.f kj3).bind fun t799 => (some t799)) = some true := by rw [if_pos rfl] at H; exact H
        clear H
        have H := H1
        clear H1
        replace H := Option.bind_eq_some_iff.mp H
        obtain ⟨t799, A100, H⟩ := H
        replace H : (some t799) = some true := H
        have A10 := Aside0.mk A100
        clear A100
        (have H9_ := Option.some.inj H; first | subst H9_ | (have h9_ := Aside0.mk H9_; clear H9_))
        go_wp2_with (first | ((with_reducible refine gate_callee (f := 30) rfl ?_); refine goesL_ (some 30) rfl rfl Try.func30 (by kernel_rfl) rfl #[] rfl (by (try simp only [List.map_toArray, List.map_cons, List.map_nil]); first | done | rfl | (simp only [List.length_drop, List.length_take]; rfl)) ?_; (with_reducible refine (weirkeeperlaw05_awake.calls kj3 _ A10.out).mono ?_); rintro e w11 ⟨rfl, hb⟩; refine ⟨_, rfl, ?_⟩; have n0_ := Aside0.mk (below_step (by repeat (first | (with_reducible first | exact HB.out | apply below_alloc | apply pw_below_drewN | apply below_drew1) | exact HB.out)) hb); clear HB; have HB := n0_; clear n0_; (try clear hb); (try clear hb2); (try clear hk); (try clear hi)))
        go_ret
        exact ⟨by first | rfl | (simp only [h9_.out]; done) | (have h8_ := h9_.out; simp [h8_]; done) | (simp [errW_none, errW_some] <;> rfl) | (simp [*, errW_none, errW_some] <;> rfl), by repeat (first | (with_reducible first | exact HB.out | apply below_alloc | apply pw_below_drewN | apply below_drew1) | exact HB.out)⟩
      · replace c9 := Bool.eq_false_iff.mpr c9
        subst c9
        have H1 : ((space_Left.f kj3 a0 a1 l2).bind fun t800 => ((some (([] : List (S66)) : List (S66))).bind fun y801 => (if y801.length + l2.length < 8796093022208 then (weirkeeperlaw05_SpaceFills.l0 kj3 a0 a1 (-1) (y801 ++ l2) t800 0) else (none)))) = some true := by rw [if_neg (show ¬ (false = true) by decide)] at H; exact H
        clear H
        have H := H1
        clear H1
        replace H := Option.bind_eq_some_iff.mp H
        obtain ⟨t800, A120, H⟩ := H
        replace H : ((some (([] : List (S66)) : List (S66))).bind fun y801 => (if y801.length + l2.length < 8796093022208 then (weirkeeperlaw05_SpaceFills.l0 kj3 a0 a1 (-1) (y801 ++ l2) t800 0) else (none))) = some true := H
        have A12 := Aside0.mk A120
        clear A120
        obtain ⟨y801, hy801⟩ : ∃ y_ : List (S66), y_ = (([] : List (S66))) := ⟨_, rfl⟩
        replace H : (if y801.length + l2.length < 8796093022208 then (weirkeeperlaw05_SpaceFills.l0 kj3 a0 a1 (-1) (y801 ++ l2) t800 0) else (none)) = some true := by first | (rw [hy801]; with_reducible exact H) | (have H2_ := (Option.bind_some _ _).symm.trans H; rw [hy801]; with_reducible exact H2_) | (have H2_ := (Option.bind_some _ _).symm.trans H; with_reducible exact H2_) | with_reducible exact H | (rw [hy801]; exact H) | exact H
        have Ny801 := Aside0.mk hy801
        clear hy801
        by_cases c13 : y801.length + l2.length < 8796093022208
        · rw [if_pos c13] at H
          have LMc13 := Aside0.mk c13
          clear c13
          obtain ⟨y804, hy804⟩ : ∃ y_ : List (S66), y_ = (y801 ++ l2) := ⟨_, rfl⟩
          replace H : (weirkeeperlaw05_SpaceFills.l0 kj3 a0 a1 (-1) y804 t800 0) = some true := by first | (rw [hy804]; with_reducible exact H) | (have H2_ := (Option.bind_some _ _).symm.trans H; rw [hy804]; with_reducible exact H2_) | (have H2_ := (Option.bind_some _ _).symm.trans H; with_reducible exact H2_) | with_reducible exact H | (rw [hy804]; exact H) | exact H
          have Ny804 := Aside0.mk hy804
          clear hy804
          have H' := Aside0.mk H
          clear H
          go_wp2_with (first | ((with_reducible refine gate_callee (f := 39) rfl ?_); refine goesL_ (some 34) rfl rfl Try.func39 (by kernel_rfl) rfl #[.int .i64 a0, .int .i64 a1, .slice A2 l2.length c2] rfl (by (try simp only [List.map_toArray, List.map_cons, List.map_nil]); first | done | rfl | (simp only [List.length_drop, List.length_take]; rfl)) ?_; (with_reducible refine (space_Left.calls kj3 a0 a1 _ _ l2 t800 _ ?side1 ?side2 A12.out).mono ?_); (case side1 => repeat (first | exact (Kd.C_below HR2.out HB.out) | (with_reducible refine Kd.C_alloc ?_ _) | (with_reducible refine Kd.C_drewN ?_ _) | (with_reducible refine Kd.C_drew ?_))); (case side2 => exact HC2.out); rintro e w14 ⟨rfl, hb⟩; refine ⟨_, rfl, ?_⟩; have n0_ := Aside0.mk (below_step (by repeat (first | (with_reducible first | exact HB.out | apply below_alloc | apply pw_below_drewN | apply below_drew1) | exact HB.out)) hb); clear HB; have HB := n0_; clear n0_; (try clear hb); (try clear hb2); (try clear hk); (try clear hi)) | ((with_reducible refine gate_dst (N := 35) rfl ?_); (try (refine gate_guard (by rfl) ?_; dsimp only)); refine Kd.R_lit k66 _ 66 ?hg (N := 35) ?hd (xs := ([] : List (S66))) (inner := []) (ok := fun _ => True) (okp := fun _ => True) ?hr ?hp (fun _ hk => hk) trivial (Below.refl _ _) (Nat.le_refl _) (by simp) ?_; (case hd => rfl); (case hg => rfl); (case hr => first | (go_simp; done) | (go_simp; rfl)); (case hp => exact (Reps.none _ _)); intro v802 w15 ho16 hb hg_ hnew_; clear hg_ hnew_; (first | rw [← Ny801.out] at ho16 | (simp only [Int.reduceToNat] at ho16; rw [← Ny801.out] at ho16)); have n0_ := Aside0.mk (Kd.R_lower ho16 (below_size (by repeat (first | (with_reducible first | exact HB.out | apply below_alloc | apply pw_below_drewN | apply below_drew1) | exact HB.out)))); have n1_ := Aside0.mk (below_step (by repeat (first | (with_reducible first | exact HB.out | apply below_alloc | apply pw_below_drewN | apply below_drew1) | exact HB.out)) hb); clear HB; have HO803 := n0_; have HB := n1_; clear n0_ n1_; clear hb ho16) | ((with_reducible refine gate_builtin (b := .append) (xs := #[.tmp 35, .tmp 36]) rfl ?_); (try (refine gate_guard (by rfl) ?_; dsimp only)); at_builtin; refine Kd.R_append_rows k66 (w0 := w) w.heap.size rfl (.tmp 35) (.tmp 36) 62 66 (.agg #[(.int .i64 0), (.int .i64 0)]) 16 rfl Try.underlying62 info66 rfl (by decide) (by omega) v802 y801 l2 _ _ _ (fun _ => True) (fun _ => False) rfl rfl ?aO ?aR (fun _ _ h => h) (fun _ h => h.elim) ?aF ?aB ?aS ?aL ?_; (case aR => repeat (first | exact (Kd.C_below HR2.out HB.out) | (with_reducible refine Kd.C_alloc ?_ _) | (with_reducible refine Kd.C_drewN ?_ _) | (with_reducible refine Kd.C_drew ?_))); (case aB => exact (by repeat (first | (with_reducible first | exact HB.out | apply below_alloc | apply pw_below_drewN | apply below_drew1) | exact HB.out))); (case aF => exact (fun _ _ => trivial)); (case aO => exact (by (with_reducible repeat (first | apply Kd.R_alloc | apply Kd.R_drewN | apply Kd.R_drew)); exact HO803.out)); (case aS => exact (below_size (by repeat (first | (with_reducible first | exact HB.out | apply below_alloc | apply pw_below_drewN | apply below_drew1) | exact HB.out)))); (case aL => have := LMc13.out; omega); intro v805 w17 ho hb hg hat; rw [← Ny804.out] at ho; have n0_ := Aside0.mk (hb); have n1_ := Aside0.mk (ho); clear HB; clear HO803; have HB := n0_; have HO806 := n1_; clear n0_ n1_; clear ho hb hg hat))
          go_loopg [8, 9, 39] kj3 (fun kq v8 v9 v39 w' => ∃ (x8_2 : Int) (x9_2 : List (S66)) (x39_2 : Int), v8 = .int .i64 x8_2 ∧ v39 = .int .i64 x39_2 ∧ Aside0 (weirkeeperlaw05_SpaceFills.l0 kq a0 a1 x8_2 x9_2 t800 x39_2 = some true) ∧ Aside0 (kq ≤ kj3) ∧ Aside0 (Kd.R k66 66 w' w.heap.size (fun _ => True) v9 x9_2) ∧ Aside0 (Below w.heap.size w w'))
          case atStart => exact ⟨((-1)), (y804), (0), (by first | rfl | (simp; done) | (simp [*]; done)), (by first | rfl | (simp; done) | (simp [*]; done)), H', ⟨Nat.le_refl _⟩, ⟨by (with_reducible repeat (first | apply Kd.R_alloc | apply Kd.R_drewN | apply Kd.R_drew)); exact HO806.out⟩, ⟨by repeat (first | (with_reducible first | exact HB.out | apply below_alloc | apply pw_below_drewN | apply below_drew1) | exact HB.out)⟩⟩
          case round =>
            clear H'
            try clear c1
            try clear c2
            try clear p2
            try clear c3
            try clear c5
            try clear c5b0
            try clear c5b1
            try clear c6
            try clear c6b0
            try clear p6
            try clear c9
            try clear c12
            try clear c13
            try clear p2
            try clear p6
            obtain ⟨x8_2, x9_2, x39_2, rfl, rfl, HA, HK2, HO_9, HB⟩ := hrel
            cases gk with
            | zero => exact absurd HA.out (by simp [weirkeeperlaw05_SpaceFills.l0])
            | succ k2 =>
              have H := HA.out
              clear HA
              simp only [weirkeeperlaw05_SpaceFills.l0] at H
              by_cases c18 : x39_2 < t800
              · rw [if_pos c18] at H
                have c18b0 : decide (x39_2 < t800) = true := decide_eq_true c18
                clear c18
                replace H := Option.bind_eq_some_iff.mp H
                obtain ⟨⟨t807, t808, t809⟩, A190, H⟩ := H
                replace H : (if t809 = 0 then (if t808 = 1 then (if t807 ≤ x8_2 then (some false) else (if x9_2.length < 8796093022208 then (weirkeeperlaw05_SpaceFills.l0 k2 a0 a1 t807 (x9_2 ++ [(⟨t807, t808⟩ : S66)]) t800 (wrap64 (x39_2 + 1))) else (none))) else (some false)) else (some false)) = some true := H
                have A19 := Aside0.mk A190
                clear A190
                by_cases c20 : t809 = 0
                · rw [if_pos c20] at H
                  have c20b0 : (t809 == 0) = true := beq_iff_eq.mpr c20
                  have c20b1 : (t809 != 0) = false := bne_eq_false_iff_eq.mpr c20
                  clear c20
                  by_cases c21 : t808 = 1
                  · rw [if_pos c21] at H
                    have c21b0 : (t808 == 1) = true := beq_iff_eq.mpr c21
                    have c21b1 : (t808 != 1) = false := bne_eq_false_iff_eq.mpr c21
                    clear c21
                    by_cases c22 : t807 ≤ x8_2
                    · rw [if_pos c22] at H
                      have c22b0 : decide (t807 ≤ x8_2) = true := decide_eq_true c22
                      clear c22
                      exact absurd H (by simp)
                    · rw [if_neg c22] at H
                      have c22b0 : decide (t807 ≤ x8_2) = false := decide_eq_false c22
                      clear c22
                      by_cases c23 : x9_2.length < 8796093022208
                      · rw [if_pos c23] at H
                        have LMc23 := Aside0.mk c23
                        clear c23
                        obtain ⟨y811, hy811⟩ : ∃ y_ : List (S66), y_ = (x9_2 ++ [(⟨t807, t808⟩ : S66)]) := ⟨_, rfl⟩
                        replace H : (weirkeeperlaw05_SpaceFills.l0 k2 a0 a1 t807 y811 t800 (wrap64 (x39_2 + 1))) = some true := by first | (rw [hy811]; with_reducible exact H) | (have H2_ := (Option.bind_some _ _).symm.trans H; rw [hy811]; with_reducible exact H2_) | (have H2_ := (Option.bind_some _ _).symm.trans H; with_reducible exact H2_) | with_reducible exact H | (rw [hy811]; exact H) | exact H
                        have Ny811 := Aside0.mk hy811
                        clear hy811
                        have H' := Aside0.mk H
                        clear H
                        obtain ⟨Ao24, co24, eo24⟩ := Kd.R_slice HO_9.out
                        subst eo24
                        try go_wp2_with (first | ((with_reducible refine gate_callee (f := 32) rfl ?_); refine goesL_ (some 45) rfl rfl Try.func32 (by kernel_rfl) rfl #[.int .i64 1, .int .i64 a0, .int .i64 a1, .slice Ao24 x9_2.length co24] rfl (by (try simp only [List.map_toArray, List.map_cons, List.map_nil]); first | done | rfl | (simp only [List.length_drop, List.length_take]; rfl)) ?_; (with_reducible refine (space_Fit.calls k2 1 a0 a1 _ _ x9_2 t807 t808 t809 _ ?side1 ?side2 A19.out).mono ?_); (case side1 => repeat (first | exact (Kd.R_reads' HO_9.out).2.2 | (with_reducible refine Kd.C_alloc ?_ _) | (with_reducible refine Kd.C_drewN ?_ _) | (with_reducible refine Kd.C_drew ?_))); (case side2 => exact (Kd.R_reads' HO_9.out).2.1); rintro e w25 ⟨rfl, hb⟩; refine ⟨_, rfl, ?_⟩; have n0_ := Aside0.mk (Kd.R_below (by (with_reducible repeat (first | apply Kd.R_alloc | apply Kd.R_drewN | apply Kd.R_drew)); exact HO_9.out) hb); have n1_ := Aside0.mk (below_step (by repeat (first | (with_reducible first | exact HB.out | apply below_alloc | apply pw_below_drewN | apply below_drew1) | exact HB.out)) hb); clear HO_9; clear HB; have HO_9 := n0_; have HB := n1_; clear n0_ n1_; (try clear hb); (try clear hb2); (try clear hk); (try clear hi)) | ((with_reducible refine gate_dst (N := 10) rfl ?_); (try (refine gate_guard (by rfl) ?_; dsimp only)); refine box_event ?hg (N := 10) ?hd (cs := #[.int .i64 0, .int .i64 0]) (t := 66) ?hr ?_; (case hd => rfl); (case hg => rfl); (case hr => first | (go_simp; done) | (go_simp; rfl)); intro gb810 hg w26 hbox hb; have n0_ := Aside0.mk (Kd.R_below (Kd.R_elderB (by (with_reducible repeat (first | apply Kd.R_alloc | apply Kd.R_drewN | apply Kd.R_drew)); exact HO_9.out) gb810 (Nat.le_of_eq hg.symm)) hb); have n1_ := Aside0.mk (below_step (by repeat (first | (with_reducible first | exact HB.out | apply below_alloc | apply pw_below_drewN | apply below_drew1) | exact HB.out)) hb); have n2_ := Aside0.mk (hbox); have n3_ := Aside0.mk ((by rw [hg]; exact (below_size (by repeat (first | (with_reducible first | exact HB.out | apply below_alloc | apply pw_below_drewN | apply below_drew1) | exact HB.out))) : w.heap.size ≤ gb810)); have n4_ := Aside0.mk ((by rw [hg]; exact (below_size (by repeat (first | (with_reducible first | exact HB.out | apply below_alloc | apply pw_below_drewN | apply below_drew1) | exact HB.out))) : w.heap.size ≤ gb810)); clear HO_9; clear HB; have HO_9 := n0_; have HB := n1_; have BK810 := n2_; have GW810 := n3_; have GE810 := n4_; clear n0_ n1_ n2_ n3_ n4_; clear hb hbox hg; have hcz27_0 : w26.cell? ⟨gb810, 0, none⟩ = some (.int .i64 0) := (blk_cell BK810.out 0).trans rfl; have hcz27_1 : w26.cell? ⟨gb810, 1, none⟩ = some (.int .i64 0) := (blk_cell BK810.out 1).trans rfl; have hfz27_0 := blk_frozen BK810.out 0; have hfz27_1 := blk_frozen BK810.out 1))
                        have n0_ : Aside0 (Kd.R k66 66 ((w26.setCell ⟨gb810, 0, none⟩ (.int .i64 t807)).setCell ⟨gb810, 1, none⟩ (.int .i64 t808)) w.heap.size (fun k_ => k_ ≠ gb810) (.slice Ao24 x9_2.length co24) x9_2) := ⟨by (with_reducible repeat (first | apply Kd.R_alloc | apply Kd.R_drewN | apply Kd.R_drew)); exact Kd.R_mono (Kd.R_far (p := ⟨gb810, 1, none⟩) (Kd.R_far (p := ⟨gb810, 0, none⟩) (Kd.R_mono HO_9.out (fun k_ hk => (⟨hk, hk.2⟩ : _ ∧ k_ ≠ gb810))) (fun _ hk => hk.2) (.int .i64 t807)) (fun _ hk => hk.2) (.int .i64 t808)) (fun _ hk => hk.1.2)⟩
                        have n1_ : Aside0 (((w26.setCell ⟨gb810, 0, none⟩ (.int .i64 t807)).setCell ⟨gb810, 1, none⟩ (.int .i64 t808)).heap[gb810]? = some (.cells #[.int .i64 t807, .int .i64 t808] 66 (0, 0))) := ⟨by (with_reducible repeat (first | refine blk_drewN ?_ _ | refine blk_drew ?_ | refine blk_alloc ?_ _)); refine blk_put (cs := #[.int .i64 t807, .int .i64 0]) ?_ 1 _ rfl; (with_reducible repeat (first | refine blk_drewN ?_ _ | refine blk_drew ?_ | refine blk_alloc ?_ _)); refine blk_put (cs := #[.int .i64 0, .int .i64 0]) ?_ 0 _ rfl; (with_reducible repeat (first | refine blk_drewN ?_ _ | refine blk_drew ?_ | refine blk_alloc ?_ _)); exact BK810.out⟩
                        have n2_ : Aside0 (Below w.heap.size w ((w26.setCell ⟨gb810, 0, none⟩ (.int .i64 t807)).setCell ⟨gb810, 1, none⟩ (.int .i64 t808))) := ⟨by repeat (first | (with_reducible first | exact HB.out | apply below_alloc | apply pw_below_drewN | apply below_drew1 | refine below_set ?_ GE810.out) | exact HB.out)⟩
                        (try clear HO_9)
                        (try clear BK810)
                        (try clear HB)
                        generalize ((w26.setCell ⟨gb810, 0, none⟩ (.int .i64 t807)).setCell ⟨gb810, 1, none⟩ (.int .i64 t808)) = w28 at n0_ n1_ n2_ ⊢
                        have HO_9 := n0_
                        have BK810 := n1_
                        have HB := n2_
                        clear n0_ n1_ n2_
                        have n0_ := Aside0.mk (Kd.R_drew HO_9.out)
                        have n1_ := Aside0.mk (blk_drew BK810.out)
                        have n2_ := Aside0.mk (below_drew1 HB.out)
                        clear HO_9
                        clear BK810
                        clear HB
                        have HO_9 := n0_
                        have BK810 := n1_
                        have HB := n2_
                        clear n0_ n1_ n2_
                        refine start_ (n := 8) (S := fun w' => w'.cell? ⟨gb810, 0, none⟩ = some (.int .i64 t807) ∧ w'.cell? ⟨gb810, 1, none⟩ = some (.int .i64 t808)) (ds := []) #[false, false, false, false, false, false, false, false] (by kernel_rfl) rfl rfl ⟨(blk_cell BK810.out 0).trans rfl, (blk_cell BK810.out 1).trans rfl⟩ (fun hHeld => ?_); refine with_tabW weirkeeperlaw05_SpaceFills.tab11 weirkeeperlaw05_SpaceFills.bits11 (fun HT_ HW_ => ?_)
                        generalize w28.drew = w29 at HO_9 BK810 HB hHeld ⊢
                        refine pure_ (i := 0) (N := some 61) (v := ?_) (a' := ?_) #[true, false, false, false, false, false, false, false] rfl rfl (any_of HT_.out (by kernel_rfl)) (fun _ _ _ h => h) (Or.inl ⟨by rfl, ?_⟩) ?_ ?_
                        rotate_left
                        · intro w'
                          go_simp
                          with_reducible rfl
                        rotate_left
                        · simp only [Act.put, List.setIfInBounds_toArray, List.set_cons_zero, List.set_cons_succ, i64_w, i32_w]
                          rfl
                        refine pure_ (i := 2) (N := some 63) (v := ?_) (a' := ?_) #[true, false, true, false, false, false, false, false] rfl rfl (any_of HT_.out (by kernel_rfl)) (fun _ _ _ h => h) (Or.inl ⟨by rfl, ?_⟩) ?_ ?_
                        rotate_left
                        · intro w'
                          go_simp
                          with_reducible rfl
                        rotate_left
                        · simp only [Act.put, List.setIfInBounds_toArray, List.set_cons_zero, List.set_cons_succ, i64_w, i32_w]
                          rfl
                        refine take_ (i := 1) (N := some 62) (v := ?_) (a' := ?_) #[true, true, true, false, false, false, false, false] rfl rfl (take_ofW HT_.out HW_.out (by kernel_rfl)) (fun _ _ _ h => h) (Or.inl ⟨by rfl, ?_⟩) hHeld ?_ ?_
                        rotate_left
                        · rintro w' ⟨s0, s1⟩
                          go_simp
                          with_reducible rfl
                        rotate_left
                        · simp only [Act.put, List.setIfInBounds_toArray, List.set_cons_zero, List.set_cons_succ, i64_w, i32_w]
                          rfl
                        refine take_ (i := 3) (N := some 64) (v := ?_) (a' := ?_) #[true, true, true, true, false, false, false, false] rfl rfl (take_ofW HT_.out HW_.out (by kernel_rfl)) (fun _ _ _ h => h) (Or.inl ⟨by rfl, ?_⟩) hHeld ?_ ?_
                        rotate_left
                        · rintro w' ⟨s0, s1⟩
                          go_simp
                          with_reducible rfl
                        rotate_left
                        · simp only [Act.put, List.setIfInBounds_toArray, List.set_cons_zero, List.set_cons_succ, i64_w, i32_w]
                          rfl
                        refine one_ (i := 4) (N := some 65) #[true, true, true, true, true, false, false, false] rfl rfl (one_of HT_.out (by kernel_rfl)) (by decide) (fun K hK => ?_)
                        refine value_ (w1 := ?_) (v := ?_) (by rfl) rfl ?_ ?_
                        rotate_left 2
                        · go_simp
                          constructor
                          · rfl
                          · rfl
                        refine hK.out _ _ ⟨(blk_cell (blk_alloc BK810.out _) 0).trans rfl, (blk_cell (blk_alloc BK810.out _) 1).trans rfl⟩ (fun hHeld => ?_)
                        clear hK K
                        refine norm_ (a' := ?_) ?_ ?_
                        rotate_left
                        · show Act.put _ (some 65) _ = _
                          simp only [Act.put, List.setIfInBounds_toArray, List.set_cons_zero, List.set_cons_succ, i64_w, i32_w]
                          rfl
                        refine one_ (i := 5) (N := some 66) #[true, true, true, true, true, true, false, false] rfl rfl (one_of HT_.out (by kernel_rfl)) (by decide) (fun K hK => ?_)
                        refine Kd.R_append_step k66 (w0 := w) w.heap.size (by rfl) (.tmp 63) (.tmp 65) 62 66 (.agg #[(.int .i64 0), (.int .i64 0)]) 16 rfl Try.underlying62 info66 rfl (by decide) (by omega) (.slice Ao24 x9_2.length co24) x9_2 (⟨t807, t808⟩ : S66) [.int .i64 t807, .int .i64 t808] (fun k_ => k_ ≠ gb810) (fun _ => False) rfl rfl ?aP (fun _ hk => hk.elim) ?aF ?aO ?aB ?aS ?aL ?_
                        (case aP => exact k66_mkM _ _ _ (⟨t807, t808⟩ : S66))
                        (case aB => exact (by repeat (first | (with_reducible first | exact HB.out | apply below_alloc | apply pw_below_drewN | apply below_drew1 | refine below_set ?_ GE810.out) | exact HB.out)))
                        (case aF => exact (fun k_ hk => Kd.freshB (g := gb810) (o := .cells #[.int .i64 t807, .int .i64 t808] 66 (0, 0)) (by (with_reducible repeat (first | refine blk_drewN ?_ _ | refine blk_drew ?_ | refine blk_alloc ?_ _)); exact BK810.out) k_ hk))
                        (case aO => exact (by (with_reducible repeat (first | apply Kd.R_alloc | apply Kd.R_drewN | apply Kd.R_drew)); exact HO_9.out))
                        (case aS => exact (below_size (by repeat (first | (with_reducible first | exact HB.out | apply below_alloc | apply pw_below_drewN | apply below_drew1 | refine below_set ?_ GE810.out) | exact HB.out))))
                        (case aL => have := LMc23.out; omega)
                        intro v812 w30 ho hb hg hat
                        rw [← Ny811.out] at ho
                        have n0_ := Aside0.mk (blk_grown (g := gb810) (o := .cells #[.int .i64 t807, .int .i64 t808] 66 (0, 0)) (by (with_reducible repeat (first | refine blk_drewN ?_ _ | refine blk_drew ?_ | refine blk_alloc ?_ _)); exact BK810.out) hg (Kd.R_away HO_9.out (fun _ hk => hk)))
                        have n1_ := Aside0.mk (hb)
                        have n2_ := Aside0.mk (ho)
                        clear BK810
                        clear HB
                        clear HO_9
                        have BK810 := n0_
                        have HB := n1_
                        have HO813 := n2_
                        clear n0_ n1_ n2_
                        clear ho hb hg hat
                        refine hK.out _ _ ⟨(blk_cell BK810.out 0).trans rfl, (blk_cell BK810.out 1).trans rfl⟩ (fun hHeld => ?_)
                        clear hK K
                        refine norm_ (a' := ?_) ?_ ?_
                        rotate_left
                        · show Act.put _ (some 66) _ = _
                          simp only [Act.put, List.setIfInBounds_toArray, List.set_cons_zero, List.set_cons_succ, i64_w, i32_w]
                          rfl
                        refine pure_ (i := 6) (N := some 8) (v := ?_) (a' := ?_) #[true, true, true, true, true, true, true, false] rfl rfl (any_of HT_.out (by kernel_rfl)) (fun _ _ _ h => h) (Or.inl ⟨by rfl, ?_⟩) ?_ ?_
                        rotate_left
                        · intro w'
                          go_simp
                          with_reducible rfl
                        rotate_left
                        · simp only [Act.put, List.setIfInBounds_toArray, List.set_cons_zero, List.set_cons_succ, i64_w, i32_w]
                          rfl
                        refine pure_ (i := 7) (N := some 9) (v := ?_) (a' := ?_) #[true, true, true, true, true, true, true, true] rfl rfl (any_of HT_.out (by kernel_rfl)) (fun _ _ _ h => h) (Or.inl ⟨by rfl, ?_⟩) ?_ ?_
                        rotate_left
                        · intro w'
                          go_simp
                          with_reducible rfl
                        rotate_left
                        · simp only [Act.put, List.setIfInBounds_toArray, List.set_cons_zero, List.set_cons_succ, i64_w, i32_w]
                          rfl
                        refine done_ (done_of HT_.out (by kernel_rfl)) ?_
                        try go_wp2
                        go_roundg k2
                        case measure => have := HJ3.out; have := HK2.out; omega
                        case rel => exact ⟨(t807), (y811), (wrap64 (x39_2 + 1)), (by first | rfl | (simp; done) | (simp [*]; done)), (by first | rfl | (simp; done) | (simp [*]; done)), H', ⟨by have := HJ3.out; have := HK2.out; omega⟩, ⟨by (with_reducible repeat (first | apply Kd.R_alloc | apply Kd.R_drewN | apply Kd.R_drew)); exact Kd.R_mono HO813.out (fun _ hk => trivial)⟩, ⟨by repeat (first | (with_reducible first | exact HB.out | apply below_alloc | apply pw_below_drewN | apply below_drew1 | refine below_set ?_ GE810.out) | exact HB.out)⟩⟩
                      · rw [if_neg c23] at H
                        exact absurd H (by simp)
                  · rw [if_neg c21] at H
                    have c21b0 : (t808 == 1) = false := beq_eq_false_iff_ne.mpr c21
                    have c21b1 : (t808 != 1) = true := bne_iff_ne.mpr c21
                    exact absurd H (by simp)
                · rw [if_neg c20] at H
                  have c20b0 : (t809 == 0) = false := beq_eq_false_iff_ne.mpr c20
                  have c20b1 : (t809 != 0) = true := bne_iff_ne.mpr c20
                  exact absurd H (by simp)
              · rw [if_neg c18] at H
                have c18b0 : decide (x39_2 < t800) = false := decide_eq_false c18
                clear c18
                replace H := Option.bind_eq_some_iff.mp H
                obtain ⟨⟨t814, t815, t816⟩, A310, H⟩ := H
                replace H : (if t816 = 5 then ((space_Free.f k2 a0 a1 x9_2).bind fun t818 => (if (t818.length : Int) = 0 then ((weirkeeperlaw05_awake.f k2).bind fun t821 => (some t821)) else (some false))) else (some false)) = some true := H
                have A31 := Aside0.mk A310
                clear A310
                by_cases c32 : t816 = 5
                · rw [if_pos c32] at H
                  have c32b0 : (t816 == 5) = true := beq_iff_eq.mpr c32
                  have c32b1 : (t816 != 5) = false := bne_eq_false_iff_eq.mpr c32
                  clear c32
                  replace H := Option.bind_eq_some_iff.mp H
                  obtain ⟨t818, A330, H⟩ := H
                  replace H : (if (t818.length : Int) = 0 then ((weirkeeperlaw05_awake.f k2).bind fun t821 => (some t821)) else (some false)) = some true := H
                  have A33 := Aside0.mk A330
                  clear A330
                  by_cases c34 : (t818.length : Int) = 0
                  · rw [if_pos c34] at H
                    have c34b0 : ((t818.length : Int) == 0) = true := beq_iff_eq.mpr c34
                    have c34b1 : ((t818.length : Int) != 0) = false := bne_eq_false_iff_eq.mpr c34
                    clear c34
                    replace H := Option.bind_eq_some_iff.mp H
                    obtain ⟨t821, A350, H⟩ := H
                    replace H : (some t821) = some true := H
                    have A35 := Aside0.mk A350
                    clear A350
                    (have H9_ := Option.some.inj H; first | subst H9_ | (have h9_ := Aside0.mk H9_; clear H9_))
                    obtain ⟨Ao36, co36, eo36⟩ := Kd.R_slice HO_9.out
                    subst eo36
                    go_wp2_with (first | ((with_reducible refine gate_callee (f := 32) rfl ?_); refine goesL_ (some 72) rfl rfl Try.func32 (by kernel_rfl) rfl #[.int .i64 1, .int .i64 a0, .int .i64 a1, .slice Ao36 x9_2.length co36] rfl (by (try simp only [List.map_toArray, List.map_cons, List.map_nil]); first | done | rfl | (simp only [List.length_drop, List.length_take]; rfl)) ?_; (with_reducible refine (space_Fit.calls k2 1 a0 a1 _ _ x9_2 t814 t815 t816 _ ?side1 ?side2 A31.out).mono ?_); (case side1 => repeat (first | exact (Kd.R_reads' HO_9.out).2.2 | (with_reducible refine Kd.C_alloc ?_ _) | (with_reducible refine Kd.C_drewN ?_ _) | (with_reducible refine Kd.C_drew ?_))); (case side2 => exact (Kd.R_reads' HO_9.out).2.1); rintro e w37 ⟨rfl, hb⟩; refine ⟨_, rfl, ?_⟩; have n0_ := Aside0.mk (Kd.R_below (by (with_reducible repeat (first | apply Kd.R_alloc | apply Kd.R_drewN | apply Kd.R_drew)); exact HO_9.out) hb); have n1_ := Aside0.mk (below_step (by repeat (first | (with_reducible first | exact HB.out | apply below_alloc | apply pw_below_drewN | apply below_drew1) | exact HB.out)) hb); clear HO_9; clear HB; have HO_9 := n0_; have HB := n1_; clear n0_ n1_; (try clear hb); (try clear hb2); (try clear hk); (try clear hi)) | ((with_reducible refine gate_dst (N := 12) rfl ?_); (try (refine gate_guard (by rfl) ?_; dsimp only)); refine box_event ?hg (N := 12) ?hd (cs := #[.int .i64 0, .int .i64 0]) (t := 66) ?hr ?_; (case hd => rfl); (case hg => rfl); (case hr => first | (go_simp; done) | (go_simp; rfl)); intro gb817 hg w38 hbox hb; have n0_ := Aside0.mk (Kd.R_below (Kd.R_elderB (by (with_reducible repeat (first | apply Kd.R_alloc | apply Kd.R_drewN | apply Kd.R_drew)); exact HO_9.out) gb817 (Nat.le_of_eq hg.symm)) hb); have n1_ := Aside0.mk (below_step (by repeat (first | (with_reducible first | exact HB.out | apply below_alloc | apply pw_below_drewN | apply below_drew1) | exact HB.out)) hb); have n2_ := Aside0.mk (hbox); have n3_ := Aside0.mk ((by rw [hg]; exact (below_size (by repeat (first | (with_reducible first | exact HB.out | apply below_alloc | apply pw_below_drewN | apply below_drew1) | exact HB.out))) : w.heap.size ≤ gb817)); have n4_ := Aside0.mk ((by rw [hg]; exact (below_size (by repeat (first | (with_reducible first | exact HB.out | apply below_alloc | apply pw_below_drewN | apply below_drew1) | exact HB.out))) : w.heap.size ≤ gb817)); clear HO_9; clear HB; have HO_9 := n0_; have HB := n1_; have BK817 := n2_; have GW817 := n3_; have GE817 := n4_; clear n0_ n1_ n2_ n3_ n4_; clear hb hbox hg; have hcz39_0 : w38.cell? ⟨gb817, 0, none⟩ = some (.int .i64 0) := (blk_cell BK817.out 0).trans rfl; have hcz39_1 : w38.cell? ⟨gb817, 1, none⟩ = some (.int .i64 0) := (blk_cell BK817.out 1).trans rfl; have hfz39_0 := blk_frozen BK817.out 0; have hfz39_1 := blk_frozen BK817.out 1) | (go_at_call 31; (with_reducible refine (space_Free.calls k2 a0 a1 _ _ x9_2 t818 _ ?side1 ?side2 A33.out).mono ?_); (case side1 => refine (Kd.R_reads' (e := 66) (base := w.heap.size) (ok := fun k_ => (True ∧ k_ ≠ gb817)) (n := x9_2.length) (c := co36) ?_).2.2; exact (by (with_reducible repeat (first | apply Kd.R_alloc | apply Kd.R_drewN | apply Kd.R_drew)); exact (Kd.R_mono (Kd.R_far (p := ⟨gb817, 1, none⟩) (Kd.R_far (p := ⟨gb817, 0, none⟩) (Kd.R_mono HO_9.out (fun k_ hk => (⟨hk, hk.2⟩ : _ ∧ k_ ≠ gb817))) (fun _ hk => hk.2) (.int .i64 t814)) (fun _ hk => hk.2) (.int .i64 t815)) (fun _ h_ => h_.1)))); (case side2 => exact (Kd.R_reads' HO_9.out).2.1); rintro e w40 ⟨v819, rfl, ho0, hb⟩; have n0_ := Aside0.mk (Kd.R_elder' (by (with_reducible repeat (first | apply Kd.R_alloc | apply Kd.R_drewN | apply Kd.R_drew)); exact (Kd.R_mono (Kd.R_far (p := ⟨gb817, 1, none⟩) (Kd.R_far (p := ⟨gb817, 0, none⟩) (Kd.R_mono HO_9.out (fun k_ hk => (⟨hk, hk.2⟩ : _ ∧ k_ ≠ gb817))) (fun _ hk => hk.2) (.int .i64 t814)) (fun _ hk => hk.2) (.int .i64 t815)) (fun _ h_ => h_.1))) (Kd.R_base ho0) hb); have n1_ := Aside0.mk (Kd.R_lower (Kd.R_newB (Kd.R_new' ho0 (Kd.R_lt (by (with_reducible repeat (first | apply Kd.R_alloc | apply Kd.R_drewN | apply Kd.R_drew)); exact (Kd.R_mono (Kd.R_far (p := ⟨gb817, 1, none⟩) (Kd.R_far (p := ⟨gb817, 0, none⟩) (Kd.R_mono HO_9.out (fun k_ hk => (⟨hk, hk.2⟩ : _ ∧ k_ ≠ gb817))) (fun _ hk => hk.2) (.int .i64 t814)) (fun _ hk => hk.2) (.int .i64 t815)) (fun _ h_ => h_.1))))) (g := gb817) (o := .cells #[.int .i64 t814, .int .i64 t815] 66 (0, 0)) (by (with_reducible repeat (first | refine blk_drewN ?_ _ | refine blk_drew ?_ | refine blk_alloc ?_ _)); refine blk_put (cs := #[.int .i64 t814, .int .i64 0]) ?_ 1 _ rfl; (with_reducible repeat (first | refine blk_drewN ?_ _ | refine blk_drew ?_ | refine blk_alloc ?_ _)); refine blk_put (cs := #[.int .i64 0, .int .i64 0]) ?_ 0 _ rfl; (with_reducible repeat (first | refine blk_drewN ?_ _ | refine blk_drew ?_ | refine blk_alloc ?_ _)); exact BK817.out)) (below_size (by repeat (first | (with_reducible first | exact HB.out | apply below_alloc | apply pw_below_drewN | apply below_drew1 | refine below_set ?_ GE817.out) | exact HB.out)))); have n2_ := Aside0.mk (blk_below (g := gb817) (o := .cells #[.int .i64 t814, .int .i64 t815] 66 (0, 0)) (by (with_reducible repeat (first | refine blk_drewN ?_ _ | refine blk_drew ?_ | refine blk_alloc ?_ _)); refine blk_put (cs := #[.int .i64 t814, .int .i64 0]) ?_ 1 _ rfl; (with_reducible repeat (first | refine blk_drewN ?_ _ | refine blk_drew ?_ | refine blk_alloc ?_ _)); refine blk_put (cs := #[.int .i64 0, .int .i64 0]) ?_ 0 _ rfl; (with_reducible repeat (first | refine blk_drewN ?_ _ | refine blk_drew ?_ | refine blk_alloc ?_ _)); exact BK817.out) hb); have n3_ := Aside0.mk (below_step (by repeat (first | (with_reducible first | exact HB.out | apply below_alloc | apply pw_below_drewN | apply below_drew1 | refine below_set ?_ GE817.out) | exact HB.out)) hb); clear HO_9; clear BK817; clear HB; have HO_9 := n0_; have HO820 := n1_; have BK817 := n2_; have HB := n3_; clear n0_ n1_ n2_ n3_; (try clear hb); (try clear hb2); (try clear hk); (try clear hi); (try clear ho0); obtain ⟨Ao41, co41, eo41⟩ := Kd.R_slice HO820.out; subst eo41) | (go_at_call 30; (with_reducible refine (weirkeeperlaw05_awake.calls k2 _ A35.out).mono ?_); rintro e w42 ⟨rfl, hb⟩; have n0_ := Aside0.mk (Kd.R_below (by (with_reducible repeat (first | apply Kd.R_alloc | apply Kd.R_drewN | apply Kd.R_drew)); exact HO_9.out) hb); have n1_ := Aside0.mk (Kd.R_below (by (with_reducible repeat (first | apply Kd.R_alloc | apply Kd.R_drewN | apply Kd.R_drew)); exact HO820.out) hb); have n2_ := Aside0.mk (blk_below (g := gb817) (o := .cells #[.int .i64 t814, .int .i64 t815] 66 (0, 0)) (by (with_reducible repeat (first | refine blk_drewN ?_ _ | refine blk_drew ?_ | refine blk_alloc ?_ _)); exact BK817.out) hb); have n3_ := Aside0.mk (below_step (by repeat (first | (with_reducible first | exact HB.out | apply below_alloc | apply pw_below_drewN | apply below_drew1 | refine below_set ?_ GE817.out) | exact HB.out)) hb); clear HO_9; clear HO820; clear BK817; clear HB; have HO_9 := n0_; have HO820 := n1_; have BK817 := n2_; have HB := n3_; clear n0_ n1_ n2_ n3_; (try clear hb); (try clear hb2); (try clear hk); (try clear hi)))
                    go_ret
                    exact ⟨by first | rfl | (simp only [h9_.out]; done) | (have h8_ := h9_.out; simp [h8_]; done) | (simp [errW_none, errW_some] <;> rfl) | (simp [*, errW_none, errW_some] <;> rfl), by repeat (first | (with_reducible first | exact HB.out | apply below_alloc | apply pw_below_drewN | apply below_drew1 | refine below_set ?_ GE817.out) | exact HB.out)⟩
                  · rw [if_neg c34] at H
                    have c34b0 : ((t818.length : Int) == 0) = false := beq_eq_false_iff_ne.mpr c34
                    have c34b1 : ((t818.length : Int) != 0) = true := bne_iff_ne.mpr c34
                    have c34b2 : ¬ (t818 = []) := fun h_ => c34 (by rw [h_]; rfl)
                    exact absurd H (by simp)
                · rw [if_neg c32] at H
                  have c32b0 : (t816 == 5) = false := beq_eq_false_iff_ne.mpr c32
                  have c32b1 : (t816 != 5) = true := bne_iff_ne.mpr c32
                  exact absurd H (by simp)
        · rw [if_neg c13] at H
          exact absurd H (by simp)

end Go.Proofs.Ythcohkgpbjcliaa.F

/- Contracts of Go functions of the seat Ythcohkgpbjcliaa: what a call comes to; no condition but those that each theorem names. -/
import Derived.Test.YthcohkgpbjcliaaFPre
import Derived.Test.YthcohkgpbjcliaaFspacex0
import Derived.Test.YthcohkgpbjcliaaFspacex1
import Derived.Test.YthcohkgpbjcliaaFlaw05awake
import Derived.Test.YthcohkgpbjcliaaFlaw05before
namespace Go.Proofs.Ythcohkgpbjcliaa.F
open Go.RowKit Go.Proofs.YthcohkgpbjcliaaW.PrintWords Go.Proofs.YthcohkgpbjcliaaW.PrintLast Go.Proofs.YthcohkgpbjcliaaW.PrintMore
attribute [local go_sem] max2_int min2_int max_two min_two max_three min_three max_four min_four   -- for this text's walks alone
set_option linter.unusedVariables false
set_option linter.unusedSimpArgs false

attribute [local go_sem] fieldD25_0 fieldD25_1
theorem ite_ok_law05SpaceFits {α} (c : Prop) [Decidable c] (a b : α) (w : World) : (if c then Result.ok a w else Result.ok b w) = Result.ok (if c then a else b) w := by split <;> rfl
theorem ite_ff_law05SpaceFits (a b : Bool) : (if (!a) = true then false else b) = (a && b) := by cases a <;> rfl
theorem ite_fg_law05SpaceFits (a b : Bool) : (if a = false then false else b) = (a && b) := by cases a <;> rfl
attribute [local go_sem] ite_ok_law05SpaceFits ite_ff_law05SpaceFits ite_fg_law05SpaceFits Bool.not_and Bool.and_true
/-! ### weirkeeperlaw05_SpaceFits: function 9 -/
def weirkeeperlaw05_SpaceFits.j0 : Nat → Int → Int → List (S66) → Bool → Int → Int → Option (Bool)
  | 0, _, _, _, _, _, _ => none
  | k + 1, x0, x1, x3, x80, x714000, x714001 => if x80 = true then (some false) else ((weirkeeperlaw05_before.f k x3 x714000).bind fun t733 => ((space_Fit.f k x0 x1 (wrap64 ((wrap64 (x714000 + x0)) - 1)) t733).bind fun bt736 => (if x714000 = x1 then ((weirkeeperlaw05_awake.f k).bind fun t740 => (some t740)) else (if bt736.2.2 = 0 then (some false) else ((weirkeeperlaw05_awake.f k).bind fun t741 => (some t741))))))
def weirkeeperlaw05_SpaceFits.f (k : Nat) (a0 : Int) (a1 : Int) (a2 : Int) (l3 : List (S66)) : Option (Bool) := if (l3.length : Int) > 30 then ((weirkeeperlaw05_awake.f k).bind fun t709 => (some t709)) else ((space_Fit.f k a0 a1 a2 l3).bind fun bt710 => (if bt710.2.2 = 0 then ((some (([] : List (S66)) : List (S66))).bind fun y718 => (if y718.length + l3.length < 8796093022208 then ((some (y718 ++ l3 : List (S66))).bind fun y721 => ((some (([(⟨bt710.1, bt710.2.1⟩ : S66)] : List (S66)) : List (S66))).bind fun y724 => (if y721.length + y724.length < 8796093022208 then ((some (y721 ++ y724 : List (S66))).bind fun y727 => ((space_Right.f k a1 a2 y727).bind fun t730 => (if t730 = true then (if bt710.2.1 = a0 then ((space_Left.f k a1 a2 y727).bind fun t731 => ((space_Left.f k a1 a2 l3).bind fun t732 => (weirkeeperlaw05_SpaceFits.j0 k a0 a1 l3 (t731 != (wrap64 (t732 - a0))) bt710.1 bt710.2.1))) else (weirkeeperlaw05_SpaceFits.j0 k a0 a1 l3 true bt710.1 bt710.2.1)) else (weirkeeperlaw05_SpaceFits.j0 k a0 a1 l3 true bt710.1 bt710.2.1)))) else (none)))) else (none))) else (if (bt710.1 == 0 && (bt710.2.1 == 0)) = true then ((space_Right.f k a1 a2 l3).bind fun t714 => (if t714 = true then (if a0 ≥ 1 then (if ((bt710.2.2 == 5) == (decide (a0 ≤ 2147483647))) = true then ((weirkeeperlaw05_awake.f k).bind fun t715 => (some t715)) else (some false)) else (if ((bt710.2.2 == 5) == false) = true then ((weirkeeperlaw05_awake.f k).bind fun t716 => (some t716)) else (some false))) else (if ((bt710.2.2 == 5) == false) = true then ((weirkeeperlaw05_awake.f k).bind fun t717 => (some t717)) else (some false)))) else (some false))))
theorem weirkeeperlaw05_SpaceFits.mono_l : ∀ k, (∀ y0 y1 y2 y3 y4 y5, LeO (weirkeeperlaw05_SpaceFits.j0 k y0 y1 y2 y3 y4 y5) (weirkeeperlaw05_SpaceFits.j0 (k + 1) y0 y1 y2 y3 y4 y5))
  | 0 => fun _ _ _ _ _ _ r h => by simp [weirkeeperlaw05_SpaceFits.j0] at h
  | k + 1 => by
    have ih0 := weirkeeperlaw05_SpaceFits.mono_l k
    · intro y0 y1 y2 y3 y4 y5
      unfold weirkeeperlaw05_SpaceFits.j0
      repeat' first
      | (with_reducible exact ih0 _ _ _ _ _ _)
      | (with_reducible exact space_Fit.mono _ _ _ _ _)
      | (with_reducible exact space_Left.mono _ _ _ _)
      | (with_reducible exact space_Right.mono _ _ _ _)
      | (with_reducible exact weirkeeperlaw05_awake.mono _)
      | (with_reducible exact weirkeeperlaw05_before.mono _ _ _)
      | (with_reducible exact LeO.refl _)
      | (with_reducible exact LeO.none _)
      | (with_reducible refine LeO.ite ?_ ?_)
      | (with_reducible refine LeO.bind ?_ (fun _ => ?_))
      | exact ih0 _ _ _ _ _ _
      | exact space_Fit.mono _ _ _ _ _
      | exact space_Left.mono _ _ _ _
      | exact space_Right.mono _ _ _ _
      | exact weirkeeperlaw05_awake.mono _
      | exact weirkeeperlaw05_before.mono _ _ _
      | exact LeO.none _
      | refine LeO.ite ?_ ?_
      | refine LeO.bind ?_ (fun _ => ?_)
theorem weirkeeperlaw05_SpaceFits.mono : ∀ a0 a1 a2 a3 k, LeO (weirkeeperlaw05_SpaceFits.f k a0 a1 a2 a3) (weirkeeperlaw05_SpaceFits.f (k + 1) a0 a1 a2 a3) := by
  intro a0 a1 a2 a3 k
  have ih0 := weirkeeperlaw05_SpaceFits.mono_l k
  unfold weirkeeperlaw05_SpaceFits.f
  repeat' first
      | (with_reducible exact ih0 _ _ _ _ _ _)
      | (with_reducible exact space_Fit.mono _ _ _ _ _)
      | (with_reducible exact space_Left.mono _ _ _ _)
      | (with_reducible exact space_Right.mono _ _ _ _)
      | (with_reducible exact weirkeeperlaw05_awake.mono _)
      | (with_reducible exact weirkeeperlaw05_before.mono _ _ _)
      | (with_reducible exact LeO.refl _)
      | (with_reducible exact LeO.none _)
      | (with_reducible refine LeO.ite ?_ ?_)
      | (with_reducible refine LeO.bind ?_ (fun _ => ?_))
      | exact ih0 _ _ _ _ _ _
      | exact space_Fit.mono _ _ _ _ _
      | exact space_Left.mono _ _ _ _
      | exact space_Right.mono _ _ _ _
      | exact weirkeeperlaw05_awake.mono _
      | exact weirkeeperlaw05_before.mono _ _ _
      | exact LeO.none _
      | refine LeO.ite ?_ ?_
      | refine LeO.bind ?_ (fun _ => ?_)
def weirkeeperlaw05_SpaceFits.T9 : Bool × List (List Nat × List Nat) := (true, [([], []), ([], []), ([], []), ([2], [2]), ([], []), ([3, 4], [3, 4]), ([5], [5]), ([], []), ([], []), ([8], [8]), ([7, 9], [7, 9]), ([0, 1, 6, 10, 10], [0, 1, 6, 10]), ([11], [11]), ([12], [12]), ([12], [12]), ([], []), ([15, 13, 11, 0, 1, 2, 3, 4, 5, 6, 7, 8, 9, 10, 11, 12, 13, 15], [13, 15]), ([14, 16, 0, 1, 2, 3, 4, 5, 6, 7, 8, 9, 10, 11, 12, 13, 14, 15, 16], [14])])
def weirkeeperlaw05_SpaceFits.B9 : List Nat := [0, 0, 0, 4, 0, 28, 60, 0, 0, 256, 896, 2047, 4095, 8191, 8191, 0, 49151, 131071]
theorem weirkeeperlaw05_SpaceFits.tab9 : rtab .any (opsOf Try.f9 9) = weirkeeperlaw05_SpaceFits.T9 := by kernel_rfl
theorem weirkeeperlaw05_SpaceFits.bits9 : waitsOk weirkeeperlaw05_SpaceFits.T9.2 weirkeeperlaw05_SpaceFits.B9 = true := by kernel_rfl
set_option maxHeartbeats 8000000 in
set_option maxRecDepth 100000 in
theorem weirkeeperlaw05_SpaceFits.calls (k : Nat) (a0 : Int) (a1 : Int) (a2 : Int) (A3 : Option Addr) (c3 : Nat) (l3 : List (S66)) (w : World) (hr3 : Kd.C k66 w A3 l3.length l3) (hc3 : l3.length ≤ c3) (h : weirkeeperlaw05_SpaceFits.f k a0 a1 a2 l3 = some true) :
    Calls Try.prog 9 #[.int .i64 a0, .int .i64 a1, .int .i64 a2, .slice A3 l3.length c3] w fun e w' => e = .returned (.bool true) ∧ Below w.heap.size w w' := by
  have hu66 := Try.underlying66
  have HR3 := Aside0.mk hr3
  have HC3 := Aside0.mk hc3
  clear hr3 hc3
  have HB := Aside0.mk (Below.refl w.heap.size w)
  have H : (if (l3.length : Int) > 30 then ((weirkeeperlaw05_awake.f k).bind fun t709 => (some t709)) else ((space_Fit.f k a0 a1 a2 l3).bind fun bt710 => (if bt710.2.2 = 0 then ((some (([] : List (S66)) : List (S66))).bind fun y718 => (if y718.length + l3.length < 8796093022208 then ((some (y718 ++ l3 : List (S66))).bind fun y721 => ((some (([(⟨bt710.1, bt710.2.1⟩ : S66)] : List (S66)) : List (S66))).bind fun y724 => (if y721.length + y724.length < 8796093022208 then ((some (y721 ++ y724 : List (S66))).bind fun y727 => ((space_Right.f k a1 a2 y727).bind fun t730 => (if t730 = true then (if bt710.2.1 = a0 then ((space_Left.f k a1 a2 y727).bind fun t731 => ((space_Left.f k a1 a2 l3).bind fun t732 => (weirkeeperlaw05_SpaceFits.j0 k a0 a1 l3 (t731 != (wrap64 (t732 - a0))) bt710.1 bt710.2.1))) else (weirkeeperlaw05_SpaceFits.j0 k a0 a1 l3 true bt710.1 bt710.2.1)) else (weirkeeperlaw05_SpaceFits.j0 k a0 a1 l3 true bt710.1 bt710.2.1)))) else (none)))) else (none))) else (if (bt710.1 == 0 && (bt710.2.1 == 0)) = true then ((space_Right.f k a1 a2 l3).bind fun t714 => (if t714 = true then (if a0 ≥ 1 then (if ((bt710.2.2 == 5) == (decide (a0 ≤ 2147483647))) = true then ((weirkeeperlaw05_awake.f k).bind fun t715 => (some t715)) else (some false)) else (if ((bt710.2.2 == 5) == false) = true then ((weirkeeperlaw05_awake.f k).bind fun t716 => (some t716)) else (some false))) else (if ((bt710.2.2 == 5) == false) = true then ((weirkeeperlaw05_awake.f k).bind fun t717 => (some t717)) else (some false)))) else (some false))))) = some true := h
  clear h
  by_cases c5 : (l3.length : Int) > 30
  · rw [if_pos c5] at H
    have c5b0 : decide (30 < (l3.length : Int)) = true := decide_eq_true c5
    have c5b1 : decide (30 < l3.length) = true := decide_eq_true (by omega)
    clear c5
    replace H := Option.bind_eq_some_iff.mp H
    obtain ⟨t709, A60, H⟩ := H
    replace H : (some t709) = some true := H
    have A6 := Aside0.mk A60
    clear A60
    (have H9_ := Option.some.inj H; first | subst H9_ | (have h9_ := Aside0.mk H9_; clear H9_))
    go_enter Try.func9, Try.ntmps9
    go_wp2_with (first | ((with_reducible refine gate_callee (f := 30) rfl ?_); refine goesL_ (some 17) rfl rfl Try.func30 (by kernel_rfl) rfl #[] rfl (by (try simp only [List.map_toArray, List.map_cons, List.map_nil]); first | done | rfl | (simp only [List.length_drop, List.length_take]; rfl)) ?_; (with_reducible refine (weirkeeperlaw05_awake.calls k _ A6.out).mono ?_); rintro e w7 ⟨rfl, hb⟩; refine ⟨_, rfl, ?_⟩; have n0_ := Aside0.mk (below_step (by repeat (first | (with_reducible first | exact HB.out | apply below_alloc | apply pw_below_drewN | apply below_drew1) | exact HB.out)) hb); clear HB; have HB := n0_; clear n0_; (try clear hb); (try clear hb2); (try clear hk); (try clear hi)))
    go_ret
    exact ⟨by first | rfl | (simp only [h9_.out]; done) | (have h8_ := h9_.out; simp [h8_]; done) | (simp [errW_none, errW_some] <;> rfl) | (simp [*, errW_none, errW_some] <;> rfl), by repeat (first | (with_reducible first | exact HB.out | apply below_alloc | apply pw_below_drewN | apply below_drew1) | exact HB.out)⟩
  · rw [if_neg c5] at H
    have c5b0 : decide (30 < (l3.length : Int)) = false := decide_eq_false c5
    have c5b1 : decide (30 < l3.length) = false := decide_eq_false (by omega)
    clear c5
    replace H := Option.bind_eq_some_iff.mp H
    obtain ⟨⟨t710, t711, t712⟩, A80, H⟩ := H
    replace H : (if t712 = 0 then ((some (([] : List (S66)) : List (S66))).bind fun y718 => (if y718.length + l3.length < 8796093022208 then ((some (y718 ++ l3 : List (S66))).bind fun y721 => ((some (([(⟨t710, t711⟩ : S66)] : List (S66)) : List (S66))).bind fun y724 => (if y721.length + y724.length < 8796093022208 then ((some (y721 ++ y724 : List (S66))).bind fun y727 => ((space_Right.f k a1 a2 y727).bind fun t730 => (if t730 = true then (if t711 = a0 then ((space_Left.f k a1 a2 y727).bind fun t731 => ((space_Left.f k a1 a2 l3).bind fun t732 => (weirkeeperlaw05_SpaceFits.j0 k a0 a1 l3 (t731 != (wrap64 (t732 - a0))) t710 t711))) else (weirkeeperlaw05_SpaceFits.j0 k a0 a1 l3 true t710 t711)) else (weirkeeperlaw05_SpaceFits.j0 k a0 a1 l3 true t710 t711)))) else (none)))) else (none))) else (if (t710 == 0 && (t711 == 0)) = true then ((space_Right.f k a1 a2 l3).bind fun t714 => (if t714 = true then (if a0 ≥ 1 then (if ((t712 == 5) == (decide (a0 ≤ 2147483647))) = true then ((weirkeeperlaw05_awake.f k).bind fun t715 => (some t715)) else (some false)) else (if ((t712 == 5) == false) = true then ((weirkeeperlaw05_awake.f k).bind fun t716 => (some t716)) else (some false))) else (if ((t712 == 5) == false) = true then ((weirkeeperlaw05_awake.f k).bind fun t717 => (some t717)) else (some false)))) else (some false))) = some true := H
    have A8 := Aside0.mk A80
    clear A80
    by_cases c9 : t712 = 0
    · rw [if_pos c9] at H
      have c9b0 : (t712 == 0) = true := beq_iff_eq.mpr c9
      have c9b1 : (t712 != 0) = false := bne_eq_false_iff_eq.mpr c9
      clear c9
      obtain ⟨y718, hy718⟩ : ∃ y_ : List (S66), y_ = (([] : List (S66))) := ⟨_, rfl⟩
      replace H : (if y718.length + l3.length < 8796093022208 then ((some (y718 ++ l3 : List (S66))).bind fun y721 => ((some (([(⟨t710, t711⟩ : S66)] : List (S66)) : List (S66))).bind fun y724 => (if y721.length + y724.length < 8796093022208 then ((some (y721 ++ y724 : List (S66))).bind fun y727 => ((space_Right.f k a1 a2 y727).bind fun t730 => (if t730 = true then (if t711 = a0 then ((space_Left.f k a1 a2 y727).bind fun t731 => ((space_Left.f k a1 a2 l3).bind fun t732 => (weirkeeperlaw05_SpaceFits.j0 k a0 a1 l3 (t731 != (wrap64 (t732 - a0))) t710 t711))) else (weirkeeperlaw05_SpaceFits.j0 k a0 a1 l3 true t710 t711)) else (weirkeeperlaw05_SpaceFits.j0 k a0 a1 l3 true t710 t711)))) else (none)))) else (none)) = some true := by first | (rw [hy718]; with_reducible exact H) | (have H2_ := (Option.bind_some _ _).symm.trans H; rw [hy718]; with_reducible exact H2_) | (have H2_ := (Option.bind_some _ _).symm.trans H; with_reducible exact H2_) | with_reducible exact H | (rw [hy718]; exact H) | exact H
      have Ny718 := Aside0.mk hy718
      clear hy718
      by_cases c10 : y718.length + l3.length < 8796093022208
      · rw [if_pos c10] at H
        have LMc10 := Aside0.mk c10
        clear c10
        obtain ⟨y721, hy721⟩ : ∃ y_ : List (S66), y_ = (y718 ++ l3) := ⟨_, rfl⟩
        replace H : ((some (([(⟨t710, t711⟩ : S66)] : List (S66)) : List (S66))).bind fun y724 => (if y721.length + y724.length < 8796093022208 then ((some (y721 ++ y724 : List (S66))).bind fun y727 => ((space_Right.f k a1 a2 y727).bind fun t730 => (if t730 = true then (if t711 = a0 then ((space_Left.f k a1 a2 y727).bind fun t731 => ((space_Left.f k a1 a2 l3).bind fun t732 => (weirkeeperlaw05_SpaceFits.j0 k a0 a1 l3 (t731 != (wrap64 (t732 - a0))) t710 t711))) else (weirkeeperlaw05_SpaceFits.j0 k a0 a1 l3 true t710 t711)) else (weirkeeperlaw05_SpaceFits.j0 k a0 a1 l3 true t710 t711)))) else (none))) = some true := by first | (rw [hy721]; with_reducible exact H) | (have H2_ := (Option.bind_some _ _).symm.trans H; rw [hy721]; with_reducible exact H2_) | (have H2_ := (Option.bind_some _ _).symm.trans H; with_reducible exact H2_) | with_reducible exact H | (rw [hy721]; exact H) | exact H
        have Ny721 := Aside0.mk hy721
        clear hy721
        obtain ⟨y724, hy724⟩ : ∃ y_ : List (S66), y_ = (([(⟨t710, t711⟩ : S66)] : List (S66))) := ⟨_, rfl⟩
        replace H : (if y721.length + y724.length < 8796093022208 then ((some (y721 ++ y724 : List (S66))).bind fun y727 => ((space_Right.f k a1 a2 y727).bind fun t730 => (if t730 = true then (if t711 = a0 then ((space_Left.f k a1 a2 y727).bind fun t731 => ((space_Left.f k a1 a2 l3).bind fun t732 => (weirkeeperlaw05_SpaceFits.j0 k a0 a1 l3 (t731 != (wrap64 (t732 - a0))) t710 t711))) else (weirkeeperlaw05_SpaceFits.j0 k a0 a1 l3 true t710 t711)) else (weirkeeperlaw05_SpaceFits.j0 k a0 a1 l3 true t710 t711)))) else (none)) = some true := by first | (rw [hy724]; with_reducible exact H) | (have H2_ := (Option.bind_some _ _).symm.trans H; rw [hy724]; with_reducible exact H2_) | (have H2_ := (Option.bind_some _ _).symm.trans H; with_reducible exact H2_) | with_reducible exact H | (rw [hy724]; exact H) | exact H
        have Ny724 := Aside0.mk hy724
        clear hy724
        by_cases c11 : y721.length + y724.length < 8796093022208
        · rw [if_pos c11] at H
          have LMc11 := Aside0.mk c11
          clear c11
          obtain ⟨y727, hy727⟩ : ∃ y_ : List (S66), y_ = (y721 ++ y724) := ⟨_, rfl⟩
          replace H : ((space_Right.f k a1 a2 y727).bind fun t730 => (if t730 = true then (if t711 = a0 then ((space_Left.f k a1 a2 y727).bind fun t731 => ((space_Left.f k a1 a2 l3).bind fun t732 => (weirkeeperlaw05_SpaceFits.j0 k a0 a1 l3 (t731 != (wrap64 (t732 - a0))) t710 t711))) else (weirkeeperlaw05_SpaceFits.j0 k a0 a1 l3 true t710 t711)) else (weirkeeperlaw05_SpaceFits.j0 k a0 a1 l3 true t710 t711))) = some true := by first | (rw [hy727]; with_reducible exact H) | (have H2_ := (Option.bind_some _ _).symm.trans H; rw [hy727]; with_reducible exact H2_) | (have H2_ := (Option.bind_some _ _).symm.trans H; with_reducible exact H2_) | with_reducible exact H | (rw [hy727]; exact H) | exact H
          have Ny727 := Aside0.mk hy727
          clear hy727
          have HC12 := Aside0.mk H
          clear H
          go_enter Try.func9, Try.ntmps9
          try go_wp2_with (first | ((with_reducible refine gate_callee (f := 32) rfl ?_); refine goesL_ (some 23) rfl rfl Try.func32 (by kernel_rfl) rfl #[.int .i64 a0, .int .i64 a1, .int .i64 a2, .slice A3 l3.length c3] rfl (by (try simp only [List.map_toArray, List.map_cons, List.map_nil]); first | done | rfl | (simp only [List.length_drop, List.length_take]; rfl)) ?_; (with_reducible refine (space_Fit.calls k a0 a1 a2 _ _ l3 t710 t711 t712 _ ?side1 ?side2 A8.out).mono ?_); (case side1 => repeat (first | exact HR3.out | (with_reducible refine Kd.C_alloc ?_ _) | (with_reducible refine Kd.C_drewN ?_ _) | (with_reducible refine Kd.C_drew ?_))); (case side2 => exact HC3.out); rintro e w13 ⟨rfl, hb⟩; refine ⟨_, rfl, ?_⟩; have n0_ := Aside0.mk (below_step (by repeat (first | (with_reducible first | exact HB.out | apply below_alloc | apply pw_below_drewN | apply below_drew1) | exact HB.out)) hb); clear HB; have HB := n0_; clear n0_; (try clear hb); (try clear hb2); (try clear hk); (try clear hi)) | ((with_reducible refine gate_dst (N := 9) rfl ?_); refine box_event ?hg (N := 9) ?hd (cs := #[.int .i64 0, .int .i64 0]) (t := 66) ?hr ?_; (case hd => rfl); (case hg => rfl); (case hr => first | (go_simp; done) | (go_simp; rfl)); intro gb713 hg w14 hbox hb; have n0_ := Aside0.mk (below_step (by repeat (first | (with_reducible first | exact HB.out | apply below_alloc | apply pw_below_drewN | apply below_drew1) | exact HB.out)) hb); have n1_ := Aside0.mk (hbox); have n2_ := Aside0.mk ((by rw [hg]; exact (below_size (by repeat (first | (with_reducible first | exact HB.out | apply below_alloc | apply pw_below_drewN | apply below_drew1) | exact HB.out))) : w.heap.size ≤ gb713)); have n3_ := Aside0.mk ((by rw [hg]; exact (below_size (by repeat (first | (with_reducible first | exact HB.out | apply below_alloc | apply pw_below_drewN | apply below_drew1) | exact HB.out))) : w.heap.size ≤ gb713)); clear HB; have HB := n0_; have BK713 := n1_; have GW713 := n2_; have GE713 := n3_; clear n0_ n1_ n2_ n3_; clear hb hbox hg; have hcz15_0 : w14.cell? ⟨gb713, 0, none⟩ = some (.int .i64 0) := (blk_cell BK713.out 0).trans rfl; have hcz15_1 : w14.cell? ⟨gb713, 1, none⟩ = some (.int .i64 0) := (blk_cell BK713.out 1).trans rfl; have hfz15_0 := blk_frozen BK713.out 0; have hfz15_1 := blk_frozen BK713.out 1))
          have n0_ : Aside0 (((w14.setCell ⟨gb713, 0, none⟩ (.int .i64 t710)).setCell ⟨gb713, 1, none⟩ (.int .i64 t711)).heap[gb713]? = some (.cells #[.int .i64 t710, .int .i64 t711] 66 (0, 0))) := ⟨by (with_reducible repeat (first | refine blk_drewN ?_ _ | refine blk_drew ?_ | refine blk_alloc ?_ _)); refine blk_put (cs := #[.int .i64 t710, .int .i64 0]) ?_ 1 _ rfl; (with_reducible repeat (first | refine blk_drewN ?_ _ | refine blk_drew ?_ | refine blk_alloc ?_ _)); refine blk_put (cs := #[.int .i64 0, .int .i64 0]) ?_ 0 _ rfl; (with_reducible repeat (first | refine blk_drewN ?_ _ | refine blk_drew ?_ | refine blk_alloc ?_ _)); exact BK713.out⟩
          have n1_ : Aside0 (Below w.heap.size w ((w14.setCell ⟨gb713, 0, none⟩ (.int .i64 t710)).setCell ⟨gb713, 1, none⟩ (.int .i64 t711))) := ⟨by repeat (first | (with_reducible first | exact HB.out | apply below_alloc | apply pw_below_drewN | apply below_drew1 | refine below_set ?_ GE713.out) | exact HB.out)⟩
          (try clear BK713)
          (try clear HB)
          generalize ((w14.setCell ⟨gb713, 0, none⟩ (.int .i64 t710)).setCell ⟨gb713, 1, none⟩ (.int .i64 t711)) = w16 at n0_ n1_ ⊢
          have BK713 := n0_
          have HB := n1_
          clear n0_ n1_
          have n0_ := Aside0.mk (blk_drew BK713.out)
          have n1_ := Aside0.mk (below_drew1 HB.out)
          clear BK713
          clear HB
          have BK713 := n0_
          have HB := n1_
          clear n0_ n1_
          refine start_ (n := 7) (S := fun w' => w'.cell? ⟨gb713, 0, none⟩ = some (.int .i64 t710) ∧ w'.cell? ⟨gb713, 1, none⟩ = some (.int .i64 t711)) (ds := []) #[false, false, false, false, false, false, false] (by kernel_rfl) rfl rfl ⟨(blk_cell BK713.out 0).trans rfl, (blk_cell BK713.out 1).trans rfl⟩ (fun hHeld => ?_)
          generalize w16.drew = w17 at BK713 HB hHeld ⊢
          refine pure_ (i := 1) (N := some 52) (v := ?_) (a' := ?_) #[false, true, false, false, false, false, false] rfl rfl (by kernel_rfl) (fun _ _ _ h => h) (Or.inl ⟨by rfl, ?_⟩) ?_ ?_
          rotate_left
          · intro w'
            go_simp
            with_reducible rfl
          rotate_left
          · simp only [Act.put, List.setIfInBounds_toArray, List.set_cons_zero, List.set_cons_succ, i64_w, i32_w]
            rfl
          refine take_ (i := 3) (N := some 54) (v := ?_) (a' := ?_) #[false, true, false, true, false, false, false] rfl rfl (by kernel_rfl) (fun _ _ _ h => h) (Or.inl ⟨by rfl, ?_⟩) hHeld ?_ ?_
          rotate_left
          · rintro w' ⟨s0, s1⟩
            go_simp
            with_reducible rfl
          rotate_left
          · simp only [Act.put, List.setIfInBounds_toArray, List.set_cons_zero, List.set_cons_succ, i64_w, i32_w]
            rfl
          refine join_ (σ := Value × Value × Value) 2 #[true, true, true, true, true, false, false] (fun s_ => [(51, s_.1), (53, s_.2.1), (55, s_.2.2)]) (fun s_ w' => (w'.cell? ⟨gb713, 0, none⟩ = some (.int .i64 t710) ∧ w'.cell? ⟨gb713, 1, none⟩ = some (.int .i64 t711)) ∧ (Kd.R k66 66 w' w.heap.size (fun k_ => some k_ ≠ (s_.2.2 : Value).ownBlock ∧ k_ ≠ gb713) s_.2.1 y721) ∧ (Kd.R k66 66 w' w.heap.size (fun k_ => some k_ ≠ (s_.2.1 : Value).ownBlock ∧ k_ ≠ gb713) s_.2.2 y724) ∧ (w'.heap[gb713]? = some (.cells #[.int .i64 t710, .int .i64 t711] 66 (0, 0))) ∧ (Below w.heap.size w w')) ?_ ?_
          rotate_left
          · intro hCont
            refine two_ (i := 0) (j := 4) (Ni := some 51) (Nj := some 55) #[true, true, false, true, false, false, false] #[false, true, false, true, true, false, false] rfl rfl rfl rfl (by kernel_rfl) (by decide) (by decide) (fun K hK => ?_) (fun K hK => ?_)
            · skip
              refine Kd.R_lit_step k66 _ 66 ?hg (N := 51) ?hd (xs := ([] : List (S66))) (inner := []) (ok := fun _ => True) (okp := fun _ => True) ?hr ?hp (fun _ hk => hk) trivial (Below.refl _ _) (Nat.le_refl _) (by simp) ?_; (case hd => rfl); (case hg => rfl); (case hr => first | (go_simp; done) | (go_simp; rfl)); (case hp => exact (Reps.none _ _))
              intro v719 w18 ho19 hb hg_ hnew_
              clear hg_ hnew_
              (first | rw [← Ny718.out] at ho19 | (simp only [Int.reduceToNat] at ho19; rw [← Ny718.out] at ho19))
              have n0_ := Aside0.mk (Kd.R_lower (Kd.R_newB ho19 (g := gb713) (o := .cells #[.int .i64 t710, .int .i64 t711] 66 (0, 0)) (by (with_reducible repeat (first | refine blk_drewN ?_ _ | refine blk_drew ?_ | refine blk_alloc ?_ _)); exact BK713.out)) (below_size (by repeat (first | (with_reducible first | exact HB.out | apply below_alloc | apply pw_below_drewN | apply below_drew1 | refine below_set ?_ GE713.out) | exact HB.out))))
              have n1_ := Aside0.mk (blk_below (g := gb713) (o := .cells #[.int .i64 t710, .int .i64 t711] 66 (0, 0)) (by (with_reducible repeat (first | refine blk_drewN ?_ _ | refine blk_drew ?_ | refine blk_alloc ?_ _)); exact BK713.out) hb)
              have n2_ := Aside0.mk (below_step (by repeat (first | (with_reducible first | exact HB.out | apply below_alloc | apply pw_below_drewN | apply below_drew1 | refine below_set ?_ GE713.out) | exact HB.out)) hb)
              clear BK713
              clear HB
              have HO720 := n0_
              have BK713 := n1_
              have HB := n2_
              clear n0_ n1_ n2_
              clear hb ho19
              refine hK.out _ _ ⟨(blk_cell BK713.out 0).trans rfl, (blk_cell BK713.out 1).trans rfl⟩ (fun hHeld => ?_)
              clear hK K
              refine norm_ (a' := ?_) ?_ ?_
              rotate_left
              · show Act.put _ (some 51) _ = _
                simp only [Act.put, List.setIfInBounds_toArray, List.set_cons_zero, List.set_cons_succ, i64_w, i32_w]
                rfl
              refine two_ (i := 2) (j := 4) (Ni := some 53) (Nj := some 55) #[true, true, true, true, false, false, false] #[true, true, false, true, true, false, false] rfl rfl rfl rfl (by kernel_rfl) (by decide) (by decide) (fun K hK => ?_) (fun K hK => ?_)
              · skip
                refine Kd.R_append_rows_step k66 (w0 := w) w.heap.size (by rfl) (.tmp 51) (.tmp 52) 62 66 (.agg #[(.int .i64 0), (.int .i64 0)]) 16 rfl Try.underlying62 info66 rfl (by decide) (by omega) v719 y718 l3 _ _ _ (fun k_ => k_ ≠ gb713) (fun _ => False) rfl rfl ?aO ?aR (fun _ _ h => h) (fun _ h => h.elim) ?aF ?aB ?aS ?aL ?_
                (case aR => repeat (first | exact (Kd.C_below HR3.out HB.out) | (with_reducible refine Kd.C_alloc ?_ _) | (with_reducible refine Kd.C_drewN ?_ _) | (with_reducible refine Kd.C_drew ?_)))
                (case aB => exact (by repeat (first | (with_reducible first | exact HB.out | apply below_alloc | apply pw_below_drewN | apply below_drew1 | refine below_set ?_ GE713.out) | exact HB.out)))
                (case aF => exact (fun k_ hk => Kd.freshB (g := gb713) (o := .cells #[.int .i64 t710, .int .i64 t711] 66 (0, 0)) (by (with_reducible repeat (first | refine blk_drewN ?_ _ | refine blk_drew ?_ | refine blk_alloc ?_ _)); exact BK713.out) k_ hk))
                (case aO => exact (by (with_reducible repeat (first | apply Kd.R_alloc | apply Kd.R_drewN | apply Kd.R_drew)); exact Kd.R_mono HO720.out (fun _ hk => hk.2)))
                (case aS => exact (below_size (by repeat (first | (with_reducible first | exact HB.out | apply below_alloc | apply pw_below_drewN | apply below_drew1 | refine below_set ?_ GE713.out) | exact HB.out))))
                (case aL => have := LMc10.out; omega)
                intro v722 w20 ho hb hg hat
                rw [← Ny721.out] at ho
                have n0_ := Aside0.mk (blk_grown (g := gb713) (o := .cells #[.int .i64 t710, .int .i64 t711] 66 (0, 0)) (by (with_reducible repeat (first | refine blk_drewN ?_ _ | refine blk_drew ?_ | refine blk_alloc ?_ _)); exact BK713.out) hg (Kd.R_away HO720.out (fun _ hk => hk.2)))
                have n1_ := Aside0.mk (hb)
                have n2_ := Aside0.mk (ho)
                clear BK713
                clear HB
                clear HO720
                have BK713 := n0_
                have HB := n1_
                have HO723 := n2_
                clear n0_ n1_ n2_
                clear ho hb hg hat
                refine hK.out _ _ ⟨(blk_cell BK713.out 0).trans rfl, (blk_cell BK713.out 1).trans rfl⟩ (fun hHeld => ?_)
                clear hK K
                refine norm_ (a' := ?_) ?_ ?_
                rotate_left
                · show Act.put _ (some 53) _ = _
                  simp only [Act.put, List.setIfInBounds_toArray, List.set_cons_zero, List.set_cons_succ, i64_w, i32_w]
                  rfl
                refine one_ (i := 4) (N := some 55) #[true, true, true, true, true, false, false] rfl rfl (by kernel_rfl) (by decide) (fun K hK => ?_)
                refine Kd.R_lit_step k66 _ 66 ?hg (N := 55) ?hd (xs := ([(⟨t710, t711⟩ : S66)] : List (S66))) (inner := [.int .i64 t710, .int .i64 t711]) (ok := fun _ => True) (okp := fun _ => True) ?hr ?hp (fun _ hk => hk) trivial (Below.refl _ _) (Nat.le_refl _) (by simp) ?_; (case hd => rfl); (case hg => rfl); (case hr => first | (go_simp; done) | (go_simp; rfl)); (case hp => exact (Reps.c2 (show Kd.M k66 _ _ _ (⟨t710, t711⟩ : S66) [.int .i64 t710, .int .i64 t711] from (k66_mkM _ _ _ (⟨t710, t711⟩ : S66) )) (Reps.none _ _)))
                intro v725 w21 ho22 hb hg_ hnew_
                clear hg_ hnew_
                (first | rw [← Ny724.out] at ho22 | (simp only [Int.reduceToNat] at ho22; rw [← Ny724.out] at ho22))
                have n0_ := Aside0.mk (Kd.R_elder' (by (with_reducible repeat (first | apply Kd.R_alloc | apply Kd.R_drewN | apply Kd.R_drew)); exact HO723.out) (Kd.R_base ho22) hb)
                have n1_ := Aside0.mk (Kd.R_lower (Kd.R_newB (Kd.R_new' ho22 (Kd.R_lt (by (with_reducible repeat (first | apply Kd.R_alloc | apply Kd.R_drewN | apply Kd.R_drew)); exact HO723.out))) (g := gb713) (o := .cells #[.int .i64 t710, .int .i64 t711] 66 (0, 0)) (by (with_reducible repeat (first | refine blk_drewN ?_ _ | refine blk_drew ?_ | refine blk_alloc ?_ _)); exact BK713.out)) (below_size (by repeat (first | (with_reducible first | exact HB.out | apply below_alloc | apply pw_below_drewN | apply below_drew1 | refine below_set ?_ GE713.out) | exact HB.out))))
                have n2_ := Aside0.mk (blk_below (g := gb713) (o := .cells #[.int .i64 t710, .int .i64 t711] 66 (0, 0)) (by (with_reducible repeat (first | refine blk_drewN ?_ _ | refine blk_drew ?_ | refine blk_alloc ?_ _)); exact BK713.out) hb)
                have n3_ := Aside0.mk (below_step (by repeat (first | (with_reducible first | exact HB.out | apply below_alloc | apply pw_below_drewN | apply below_drew1 | refine below_set ?_ GE713.out) | exact HB.out)) hb)
                clear HO723
                clear BK713
                clear HB
                have HO723 := n0_
                have HO726 := n1_
                have BK713 := n2_
                have HB := n3_
                clear n0_ n1_ n2_ n3_
                clear hb ho22
                refine hK.out _ _ ⟨(blk_cell BK713.out 0).trans rfl, (blk_cell BK713.out 1).trans rfl⟩ (fun hHeld => ?_)
                clear hK K
                refine norm_ (a' := ?_) ?_ ?_
                rotate_left
                · show Act.put _ (some 55) _ = _
                  simp only [Act.put, List.setIfInBounds_toArray, List.set_cons_zero, List.set_cons_succ, i64_w, i32_w]
                  rfl
                exact norm_ (by simp only [putAll, Act.put, List.setIfInBounds_toArray, List.set_cons_zero, List.set_cons_succ]) (hCont (v719, v722, v725) _ ⟨hHeld, (by (with_reducible repeat (first | apply Kd.R_alloc | apply Kd.R_drewN | apply Kd.R_drew)); exact Kd.R_mono HO723.out (fun _ hk => ⟨hk.2, hk.1⟩)), (by (with_reducible repeat (first | apply Kd.R_alloc | apply Kd.R_drewN | apply Kd.R_drew)); exact Kd.R_mono HO726.out (fun _ hk => ⟨hk.1.2, hk.2⟩)), (by (with_reducible repeat (first | refine blk_drewN ?_ _ | refine blk_drew ?_ | refine blk_alloc ?_ _)); exact BK713.out), (by repeat (first | (with_reducible first | exact HB.out | apply below_alloc | apply pw_below_drewN | apply below_drew1 | refine below_set ?_ GE713.out) | exact HB.out))⟩)
              · skip
                refine Kd.R_lit_step k66 _ 66 ?hg (N := 55) ?hd (xs := ([(⟨t710, t711⟩ : S66)] : List (S66))) (inner := [.int .i64 t710, .int .i64 t711]) (ok := fun _ => True) (okp := fun _ => True) ?hr ?hp (fun _ hk => hk) trivial (Below.refl _ _) (Nat.le_refl _) (by simp) ?_; (case hd => rfl); (case hg => rfl); (case hr => first | (go_simp; done) | (go_simp; rfl)); (case hp => exact (Reps.c2 (show Kd.M k66 _ _ _ (⟨t710, t711⟩ : S66) [.int .i64 t710, .int .i64 t711] from (k66_mkM _ _ _ (⟨t710, t711⟩ : S66) )) (Reps.none _ _)))
                intro v725 w20 ho21 hb hg_ hnew_
                clear hg_ hnew_
                (first | rw [← Ny724.out] at ho21 | (simp only [Int.reduceToNat] at ho21; rw [← Ny724.out] at ho21))
                have n0_ := Aside0.mk (Kd.R_elder' (by (with_reducible repeat (first | apply Kd.R_alloc | apply Kd.R_drewN | apply Kd.R_drew)); exact HO720.out) (Kd.R_base ho21) hb)
                have n1_ := Aside0.mk (Kd.R_lower (Kd.R_newB (Kd.R_new' ho21 (Kd.R_lt (by (with_reducible repeat (first | apply Kd.R_alloc | apply Kd.R_drewN | apply Kd.R_drew)); exact HO720.out))) (g := gb713) (o := .cells #[.int .i64 t710, .int .i64 t711] 66 (0, 0)) (by (with_reducible repeat (first | refine blk_drewN ?_ _ | refine blk_drew ?_ | refine blk_alloc ?_ _)); exact BK713.out)) (below_size (by repeat (first | (with_reducible first | exact HB.out | apply below_alloc | apply pw_below_drewN | apply below_drew1 | refine below_set ?_ GE713.out) | exact HB.out))))
                have n2_ := Aside0.mk (blk_below (g := gb713) (o := .cells #[.int .i64 t710, .int .i64 t711] 66 (0, 0)) (by (with_reducible repeat (first | refine blk_drewN ?_ _ | refine blk_drew ?_ | refine blk_alloc ?_ _)); exact BK713.out) hb)
                have n3_ := Aside0.mk (below_step (by repeat (first | (with_reducible first | exact HB.out | apply below_alloc | apply pw_below_drewN | apply below_drew1 | refine below_set ?_ GE713.out) | exact HB.out)) hb)
                clear HO720
                clear BK713
                clear HB
                have HO720 := n0_
                have HO726 := n1_
                have BK713 := n2_
                have HB := n3_
                clear n0_ n1_ n2_ n3_
                clear hb ho21
                refine hK.out _ _ ⟨(blk_cell BK713.out 0).trans rfl, (blk_cell BK713.out 1).trans rfl⟩ (fun hHeld => ?_)
                clear hK K
                refine norm_ (a' := ?_) ?_ ?_
                rotate_left
                · show Act.put _ (some 55) _ = _
                  simp only [Act.put, List.setIfInBounds_toArray, List.set_cons_zero, List.set_cons_succ, i64_w, i32_w]
                  rfl
                refine one_ (i := 2) (N := some 53) #[true, true, true, true, true, false, false] rfl rfl (by kernel_rfl) (by decide) (fun K hK => ?_)
                refine Kd.R_append_rows_step k66 (w0 := w) w.heap.size (by rfl) (.tmp 51) (.tmp 52) 62 66 (.agg #[(.int .i64 0), (.int .i64 0)]) 16 rfl Try.underlying62 info66 rfl (by decide) (by omega) v719 y718 l3 _ _ _ (fun k_ => some k_ ≠ (v725 : Value).ownBlock ∧ k_ ≠ gb713) (fun _ => False) rfl rfl ?aO ?aR (fun _ _ h => h) (fun _ h => h.elim) ?aF ?aB ?aS ?aL ?_
                (case aR => repeat (first | exact (Kd.C_below HR3.out HB.out) | (with_reducible refine Kd.C_alloc ?_ _) | (with_reducible refine Kd.C_drewN ?_ _) | (with_reducible refine Kd.C_drew ?_)))
                (case aB => exact (by repeat (first | (with_reducible first | exact HB.out | apply below_alloc | apply pw_below_drewN | apply below_drew1 | refine below_set ?_ GE713.out) | exact HB.out)))
                (case aF => exact (fun k_ hk => ⟨Kd.fresh' (Kd.R_lt (by (with_reducible repeat (first | apply Kd.R_alloc | apply Kd.R_drewN | apply Kd.R_drew)); exact HO726.out)) k_ hk, Kd.freshB (g := gb713) (o := .cells #[.int .i64 t710, .int .i64 t711] 66 (0, 0)) (by (with_reducible repeat (first | refine blk_drewN ?_ _ | refine blk_drew ?_ | refine blk_alloc ?_ _)); exact BK713.out) k_ hk⟩))
                (case aO => exact (by (with_reducible repeat (first | apply Kd.R_alloc | apply Kd.R_drewN | apply Kd.R_drew)); exact Kd.R_mono HO720.out (fun _ hk => ⟨hk.2, hk.1.2⟩)))
                (case aS => exact (below_size (by repeat (first | (with_reducible first | exact HB.out | apply below_alloc | apply pw_below_drewN | apply below_drew1 | refine below_set ?_ GE713.out) | exact HB.out))))
                (case aL => have := LMc10.out; omega)
                intro v722 w22 ho hb hg hat
                rw [← Ny721.out] at ho
                have n0_ := Aside0.mk (blk_grown (g := gb713) (o := .cells #[.int .i64 t710, .int .i64 t711] 66 (0, 0)) (by (with_reducible repeat (first | refine blk_drewN ?_ _ | refine blk_drew ?_ | refine blk_alloc ?_ _)); exact BK713.out) hg (Kd.R_away HO720.out (fun _ hk => hk.1.2)))
                have n1_ := Aside0.mk (Kd.R_after (ok := (fun k_ => k_ ≠ gb713)) (by (with_reducible repeat (first | apply Kd.R_alloc | apply Kd.R_drewN | apply Kd.R_drew)); exact Kd.R_mono HO726.out (fun _ hk => ⟨hk.2, hk.1.2⟩)) hg hat)
                have n2_ := Aside0.mk (hb)
                have n3_ := Aside0.mk (ho)
                clear BK713
                clear HO726
                clear HB
                clear HO720
                have BK713 := n0_
                have HO726 := n1_
                have HB := n2_
                have HO723 := n3_
                clear n0_ n1_ n2_ n3_
                clear ho hb hg hat
                refine hK.out _ _ ⟨(blk_cell BK713.out 0).trans rfl, (blk_cell BK713.out 1).trans rfl⟩ (fun hHeld => ?_)
                clear hK K
                refine norm_ (a' := ?_) ?_ ?_
                rotate_left
                · show Act.put _ (some 53) _ = _
                  simp only [Act.put, List.setIfInBounds_toArray, List.set_cons_zero, List.set_cons_succ, i64_w, i32_w]
                  rfl
                exact norm_ (by simp only [putAll, Act.put, List.setIfInBounds_toArray, List.set_cons_zero, List.set_cons_succ]) (hCont (v719, v722, v725) _ ⟨hHeld, (by (with_reducible repeat (first | apply Kd.R_alloc | apply Kd.R_drewN | apply Kd.R_drew)); exact HO723.out), (by (with_reducible repeat (first | apply Kd.R_alloc | apply Kd.R_drewN | apply Kd.R_drew)); exact Kd.R_mono HO726.out (fun _ hk => ⟨hk.2, hk.1⟩)), (by (with_reducible repeat (first | refine blk_drewN ?_ _ | refine blk_drew ?_ | refine blk_alloc ?_ _)); exact BK713.out), (by repeat (first | (with_reducible first | exact HB.out | apply below_alloc | apply pw_below_drewN | apply below_drew1 | refine below_set ?_ GE713.out) | exact HB.out))⟩)
            · skip
              refine Kd.R_lit_step k66 _ 66 ?hg (N := 55) ?hd (xs := ([(⟨t710, t711⟩ : S66)] : List (S66))) (inner := [.int .i64 t710, .int .i64 t711]) (ok := fun _ => True) (okp := fun _ => True) ?hr ?hp (fun _ hk => hk) trivial (Below.refl _ _) (Nat.le_refl _) (by simp) ?_; (case hd => rfl); (case hg => rfl); (case hr => first | (go_simp; done) | (go_simp; rfl)); (case hp => exact (Reps.c2 (show Kd.M k66 _ _ _ (⟨t710, t711⟩ : S66) [.int .i64 t710, .int .i64 t711] from (k66_mkM _ _ _ (⟨t710, t711⟩ : S66) )) (Reps.none _ _)))
              intro v725 w18 ho19 hb hg_ hnew_
              clear hg_ hnew_
              (first | rw [← Ny724.out] at ho19 | (simp only [Int.reduceToNat] at ho19; rw [← Ny724.out] at ho19))
              have n0_ := Aside0.mk (Kd.R_lower (Kd.R_newB ho19 (g := gb713) (o := .cells #[.int .i64 t710, .int .i64 t711] 66 (0, 0)) (by (with_reducible repeat (first | refine blk_drewN ?_ _ | refine blk_drew ?_ | refine blk_alloc ?_ _)); exact BK713.out)) (below_size (by repeat (first | (with_reducible first | exact HB.out | apply below_alloc | apply pw_below_drewN | apply below_drew1 | refine below_set ?_ GE713.out) | exact HB.out))))
              have n1_ := Aside0.mk (blk_below (g := gb713) (o := .cells #[.int .i64 t710, .int .i64 t711] 66 (0, 0)) (by (with_reducible repeat (first | refine blk_drewN ?_ _ | refine blk_drew ?_ | refine blk_alloc ?_ _)); exact BK713.out) hb)
              have n2_ := Aside0.mk (below_step (by repeat (first | (with_reducible first | exact HB.out | apply below_alloc | apply pw_below_drewN | apply below_drew1 | refine below_set ?_ GE713.out) | exact HB.out)) hb)
              clear BK713
              clear HB
              have HO726 := n0_
              have BK713 := n1_
              have HB := n2_
              clear n0_ n1_ n2_
              clear hb ho19
              refine hK.out _ _ ⟨(blk_cell BK713.out 0).trans rfl, (blk_cell BK713.out 1).trans rfl⟩ (fun hHeld => ?_)
              clear hK K
              refine norm_ (a' := ?_) ?_ ?_
              rotate_left
              · show Act.put _ (some 55) _ = _
                simp only [Act.put, List.setIfInBounds_toArray, List.set_cons_zero, List.set_cons_succ, i64_w, i32_w]
                rfl
              refine one_ (i := 0) (N := some 51) #[true, true, false, true, true, false, false] rfl rfl (by kernel_rfl) (by decide) (fun K hK => ?_)
              refine Kd.R_lit_step k66 _ 66 ?hg (N := 51) ?hd (xs := ([] : List (S66))) (inner := []) (ok := fun _ => True) (okp := fun _ => True) ?hr ?hp (fun _ hk => hk) trivial (Below.refl _ _) (Nat.le_refl _) (by simp) ?_; (case hd => rfl); (case hg => rfl); (case hr => first | (go_simp; done) | (go_simp; rfl)); (case hp => exact (Reps.none _ _))
              intro v719 w20 ho21 hb hg_ hnew_
              clear hg_ hnew_
              (first | rw [← Ny718.out] at ho21 | (simp only [Int.reduceToNat] at ho21; rw [← Ny718.out] at ho21))
              have n0_ := Aside0.mk (Kd.R_elder' (by (with_reducible repeat (first | apply Kd.R_alloc | apply Kd.R_drewN | apply Kd.R_drew)); exact HO726.out) (Kd.R_base ho21) hb)
              have n1_ := Aside0.mk (Kd.R_lower (Kd.R_newB (Kd.R_new' ho21 (Kd.R_lt (by (with_reducible repeat (first | apply Kd.R_alloc | apply Kd.R_drewN | apply Kd.R_drew)); exact HO726.out))) (g := gb713) (o := .cells #[.int .i64 t710, .int .i64 t711] 66 (0, 0)) (by (with_reducible repeat (first | refine blk_drewN ?_ _ | refine blk_drew ?_ | refine blk_alloc ?_ _)); exact BK713.out)) (below_size (by repeat (first | (with_reducible first | exact HB.out | apply below_alloc | apply pw_below_drewN | apply below_drew1 | refine below_set ?_ GE713.out) | exact HB.out))))
              have n2_ := Aside0.mk (blk_below (g := gb713) (o := .cells #[.int .i64 t710, .int .i64 t711] 66 (0, 0)) (by (with_reducible repeat (first | refine blk_drewN ?_ _ | refine blk_drew ?_ | refine blk_alloc ?_ _)); exact BK713.out) hb)
              have n3_ := Aside0.mk (below_step (by repeat (first | (with_reducible first | exact HB.out | apply below_alloc | apply pw_below_drewN | apply below_drew1 | refine below_set ?_ GE713.out) | exact HB.out)) hb)
              clear HO726
              clear BK713
              clear HB
              have HO726 := n0_
              have HO720 := n1_
              have BK713 := n2_
              have HB := n3_
              clear n0_ n1_ n2_ n3_
              clear hb ho21
              refine hK.out _ _ ⟨(blk_cell BK713.out 0).trans rfl, (blk_cell BK713.out 1).trans rfl⟩ (fun hHeld => ?_)
              clear hK K
              refine norm_ (a' := ?_) ?_ ?_
              rotate_left
              · show Act.put _ (some 51) _ = _
                simp only [Act.put, List.setIfInBounds_toArray, List.set_cons_zero, List.set_cons_succ, i64_w, i32_w]
                rfl
              refine one_ (i := 2) (N := some 53) #[true, true, true, true, true, false, false] rfl rfl (by kernel_rfl) (by decide) (fun K hK => ?_)
              refine Kd.R_append_rows_step k66 (w0 := w) w.heap.size (by rfl) (.tmp 51) (.tmp 52) 62 66 (.agg #[(.int .i64 0), (.int .i64 0)]) 16 rfl Try.underlying62 info66 rfl (by decide) (by omega) v719 y718 l3 _ _ _ (fun k_ => some k_ ≠ (v725 : Value).ownBlock ∧ k_ ≠ gb713) (fun _ => False) rfl rfl ?aO ?aR (fun _ _ h => h) (fun _ h => h.elim) ?aF ?aB ?aS ?aL ?_
              (case aR => repeat (first | exact (Kd.C_below HR3.out HB.out) | (with_reducible refine Kd.C_alloc ?_ _) | (with_reducible refine Kd.C_drewN ?_ _) | (with_reducible refine Kd.C_drew ?_)))
              (case aB => exact (by repeat (first | (with_reducible first | exact HB.out | apply below_alloc | apply pw_below_drewN | apply below_drew1 | refine below_set ?_ GE713.out) | exact HB.out)))
              (case aF => exact (fun k_ hk => ⟨Kd.fresh' (Kd.R_lt (by (with_reducible repeat (first | apply Kd.R_alloc | apply Kd.R_drewN | apply Kd.R_drew)); exact HO726.out)) k_ hk, Kd.freshB (g := gb713) (o := .cells #[.int .i64 t710, .int .i64 t711] 66 (0, 0)) (by (with_reducible repeat (first | refine blk_drewN ?_ _ | refine blk_drew ?_ | refine blk_alloc ?_ _)); exact BK713.out) k_ hk⟩))
              (case aO => exact (by (with_reducible repeat (first | apply Kd.R_alloc | apply Kd.R_drewN | apply Kd.R_drew)); exact Kd.R_mono HO720.out (fun _ hk => ⟨hk.1.2, hk.2⟩)))
              (case aS => exact (below_size (by repeat (first | (with_reducible first | exact HB.out | apply below_alloc | apply pw_below_drewN | apply below_drew1 | refine below_set ?_ GE713.out) | exact HB.out))))
              (case aL => have := LMc10.out; omega)
              intro v722 w22 ho hb hg hat
              rw [← Ny721.out] at ho
              have n0_ := Aside0.mk (blk_grown (g := gb713) (o := .cells #[.int .i64 t710, .int .i64 t711] 66 (0, 0)) (by (with_reducible repeat (first | refine blk_drewN ?_ _ | refine blk_drew ?_ | refine blk_alloc ?_ _)); exact BK713.out) hg (Kd.R_away HO720.out (fun _ hk => hk.2)))
              have n1_ := Aside0.mk (Kd.R_after (ok := (fun k_ => k_ ≠ gb713)) (by (with_reducible repeat (first | apply Kd.R_alloc | apply Kd.R_drewN | apply Kd.R_drew)); exact Kd.R_mono HO726.out (fun _ hk => ⟨hk.1.2, hk.2⟩)) hg hat)
              have n2_ := Aside0.mk (hb)
              have n3_ := Aside0.mk (ho)
              clear BK713
              clear HO726
              clear HB
              clear HO720
              have BK713 := n0_
              have HO726 := n1_
              have HB := n2_
              have HO723 := n3_
              clear n0_ n1_ n2_ n3_
              clear ho hb hg hat
              refine hK.out _ _ ⟨(blk_cell BK713.out 0).trans rfl, (blk_cell BK713.out 1).trans rfl⟩ (fun hHeld => ?_)
              clear hK K
              refine norm_ (a' := ?_) ?_ ?_
              rotate_left
              · show Act.put _ (some 53) _ = _
                simp only [Act.put, List.setIfInBounds_toArray, List.set_cons_zero, List.set_cons_succ, i64_w, i32_w]
                rfl
              exact norm_ (by simp only [putAll, Act.put, List.setIfInBounds_toArray, List.set_cons_zero, List.set_cons_succ]) (hCont (v719, v722, v725) _ ⟨hHeld, (by (with_reducible repeat (first | apply Kd.R_alloc | apply Kd.R_drewN | apply Kd.R_drew)); exact HO723.out), (by (with_reducible repeat (first | apply Kd.R_alloc | apply Kd.R_drewN | apply Kd.R_drew)); exact Kd.R_mono HO726.out (fun _ hk => ⟨hk.2, hk.1⟩)), (by (with_reducible repeat (first | refine blk_drewN ?_ _ | refine blk_drew ?_ | refine blk_alloc ?_ _)); exact BK713.out), (by repeat (first | (with_reducible first | exact HB.out | apply below_alloc | apply pw_below_drewN | apply below_drew1 | refine below_set ?_ GE713.out) | exact HB.out))⟩)
          rintro ⟨v719, v722, v725⟩ w23 ⟨hS_, h0_, h1_, h2_, h3_⟩
          have n0_ : Aside0 (Kd.R k66 66 w23 w.heap.size (fun k_ => some k_ ≠ (v725 : Value).ownBlock ∧ k_ ≠ gb713) v722 y721) := ⟨h0_⟩
          have n1_ : Aside0 (Kd.R k66 66 w23 w.heap.size (fun k_ => some k_ ≠ (v722 : Value).ownBlock ∧ k_ ≠ gb713) v725 y724) := ⟨h1_⟩
          have n2_ : Aside0 (w23.heap[gb713]? = some (.cells #[.int .i64 t710, .int .i64 t711] 66 (0, 0))) := ⟨h2_⟩
          have n3_ : Aside0 (Below w.heap.size w w23) := ⟨h3_⟩
          clear BK713
          clear HB
          clear h0_ h1_ h2_ h3_
          have HO723 := n0_
          have HO726 := n1_
          have BK713 := n2_
          have HB := n3_
          clear n0_ n1_ n2_ n3_
          have hHeld : w23.cell? ⟨gb713, 0, none⟩ = some (.int .i64 t710) ∧ w23.cell? ⟨gb713, 1, none⟩ = some (.int .i64 t711) := hS_
          obtain ⟨Ao25, co25, eo25⟩ := Kd.R_slice HO726.out
          (first | subst eo25 | (injection eo25 with f1_ f2_ f3_; have f4_ := f1_.symm; have f5_ := f3_.symm; clear f1_ f2_ f3_; subst f4_; subst f5_))
          refine norm_ (a' := ?_) ?_ ?_
          rotate_left
          · simp only [putAll, Act.put, List.setIfInBounds_toArray, List.set_cons_zero, List.set_cons_succ]
            rfl
          refine one_ (i := 5) (N := some 56) #[true, true, true, true, true, true, false] rfl rfl (by kernel_rfl) (by decide) (fun K hK => ?_)
          refine Kd.R_append_rows_step k66 (w0 := w) w.heap.size (by rfl) (.tmp 53) (.tmp 55) 62 66 (.agg #[(.int .i64 0), (.int .i64 0)]) 16 rfl Try.underlying62 info66 rfl (by decide) (by omega) v722 y721 y724 _ _ _ (fun k_ => some k_ ≠ (.slice Ao25 y724.length co25 : Value).ownBlock ∧ k_ ≠ gb713) (fun _ => False) rfl rfl ?aO ?aR (fun _ _ h => h) (fun _ h => h.elim) ?aF ?aB ?aS ?aL ?_
          (case aR => repeat (first | exact (Kd.R_reads' HO726.out).2.2 | (with_reducible refine Kd.C_alloc ?_ _) | (with_reducible refine Kd.C_drewN ?_ _) | (with_reducible refine Kd.C_drew ?_)))
          (case aB => exact (by repeat (first | (with_reducible first | exact HB.out | apply below_alloc | apply pw_below_drewN | apply below_drew1 | refine below_set ?_ GE713.out) | exact HB.out)))
          (case aF => exact (fun k_ hk => ⟨Kd.fresh' (Kd.R_lt (by (with_reducible repeat (first | apply Kd.R_alloc | apply Kd.R_drewN | apply Kd.R_drew)); exact HO726.out)) k_ hk, Kd.freshB (g := gb713) (o := .cells #[.int .i64 t710, .int .i64 t711] 66 (0, 0)) (by (with_reducible repeat (first | refine blk_drewN ?_ _ | refine blk_drew ?_ | refine blk_alloc ?_ _)); exact BK713.out) k_ hk⟩))
          (case aO => exact (by (with_reducible repeat (first | apply Kd.R_alloc | apply Kd.R_drewN | apply Kd.R_drew)); exact HO723.out))
          (case aS => exact (below_size (by repeat (first | (with_reducible first | exact HB.out | apply below_alloc | apply pw_below_drewN | apply below_drew1 | refine below_set ?_ GE713.out) | exact HB.out))))
          (case aL => have := LMc11.out; omega)
          intro v728 w24 ho hb hg hat
          rw [← Ny727.out] at ho
          have n0_ := Aside0.mk (blk_grown (g := gb713) (o := .cells #[.int .i64 t710, .int .i64 t711] 66 (0, 0)) (by (with_reducible repeat (first | refine blk_drewN ?_ _ | refine blk_drew ?_ | refine blk_alloc ?_ _)); exact BK713.out) hg (Kd.R_away HO723.out (fun _ hk => hk.2)))
          have n1_ := Aside0.mk (Kd.R_after (ok := (fun k_ => k_ ≠ gb713)) (by (with_reducible repeat (first | apply Kd.R_alloc | apply Kd.R_drewN | apply Kd.R_drew)); exact Kd.R_mono HO726.out (fun _ hk => ⟨hk.2, hk.1⟩)) hg hat)
          have n2_ := Aside0.mk (hb)
          have n3_ := Aside0.mk (ho)
          clear BK713
          clear HO726
          clear HB
          clear HO723
          have BK713 := n0_
          have HO726 := n1_
          have HB := n2_
          have HO729 := n3_
          clear n0_ n1_ n2_ n3_
          clear ho hb hg hat
          refine hK.out _ _ ⟨(blk_cell BK713.out 0).trans rfl, (blk_cell BK713.out 1).trans rfl⟩ (fun hHeld => ?_)
          clear hK K
          refine norm_ (a' := ?_) ?_ ?_
          rotate_left
          · show Act.put _ (some 56) _ = _
            simp only [Act.put, List.setIfInBounds_toArray, List.set_cons_zero, List.set_cons_succ, i64_w, i32_w]
            rfl
          refine pure_ (i := 6) (N := some 11) (v := ?_) (a' := ?_) #[true, true, true, true, true, true, true] rfl rfl (by kernel_rfl) (fun _ _ _ h => h) (Or.inl ⟨by rfl, ?_⟩) ?_ ?_
          rotate_left
          · intro w'
            go_simp
            with_reducible rfl
          rotate_left
          · simp only [Act.put, List.setIfInBounds_toArray, List.set_cons_zero, List.set_cons_succ, i64_w, i32_w]
            rfl
          refine done_ (by kernel_rfl) ?_
          go_upto_region 7 with (fail)
          go_cut [80] (fun v80 wc => ∃ (kq : Nat) (x80_11 : Bool), v80 = .bool x80_11 ∧ Aside0 (weirkeeperlaw05_SpaceFits.j0 kq a0 a1 l3 x80_11 t710 t711 = some true) ∧ Aside0 (kq ≤ k) ∧ Aside0 (wc.heap[gb713]? = some (.cells #[.int .i64 t710, .int .i64 t711] 66 (0, 0))) ∧ Aside0 (Below w.heap.size w wc))
          case first =>
            have H := HC12.out
            clear HC12
            replace H := Option.bind_eq_some_iff.mp H
            obtain ⟨t730, A260, H⟩ := H
            replace H : (if t730 = true then (if t711 = a0 then ((space_Left.f k a1 a2 y727).bind fun t731 => ((space_Left.f k a1 a2 l3).bind fun t732 => (weirkeeperlaw05_SpaceFits.j0 k a0 a1 l3 (t731 != (wrap64 (t732 - a0))) t710 t711))) else (weirkeeperlaw05_SpaceFits.j0 k a0 a1 l3 true t710 t711)) else (weirkeeperlaw05_SpaceFits.j0 k a0 a1 l3 true t710 t711)) = some true := H
            have A26 := Aside0.mk A260
            clear A260
            by_cases c27 : t730 = true
            · subst c27
              have H1 : (if t711 = a0 then ((space_Left.f k a1 a2 y727).bind fun t731 => ((space_Left.f k a1 a2 l3).bind fun t732 => (weirkeeperlaw05_SpaceFits.j0 k a0 a1 l3 (t731 != (wrap64 (t732 - a0))) t710 t711))) else (weirkeeperlaw05_SpaceFits.j0 k a0 a1 l3 true t710 t711)) = some true := by rw [if_pos rfl] at H; exact H
              clear H
              have H := H1
              clear H1
              by_cases c28 : t711 = a0
              · rw [if_pos c28] at H
                have c28b0 : (t711 == a0) = true := beq_iff_eq.mpr c28
                have c28b1 : (t711 != a0) = false := bne_eq_false_iff_eq.mpr c28
                clear c28
                (first | rw [c28b0] | (simp only [i64_w, i32_w]; rw [c28b0]) | skip)
                replace H := Option.bind_eq_some_iff.mp H
                obtain ⟨t731, A290, H⟩ := H
                replace H : ((space_Left.f k a1 a2 l3).bind fun t732 => (weirkeeperlaw05_SpaceFits.j0 k a0 a1 l3 (t731 != (wrap64 (t732 - a0))) t710 t711)) = some true := H
                have A29 := Aside0.mk A290
                clear A290
                replace H := Option.bind_eq_some_iff.mp H
                obtain ⟨t732, A300, H⟩ := H
                replace H : (weirkeeperlaw05_SpaceFits.j0 k a0 a1 l3 (t731 != (wrap64 (t732 - a0))) t710 t711) = some true := H
                have A30 := Aside0.mk A300
                clear A300
                have H' := Aside0.mk H
                clear H
                obtain ⟨Ao31, co31, eo31⟩ := Kd.R_slice HO729.out
                subst eo31
                go_wp2_with (first | ((with_reducible refine gate_callee (f := 36) rfl ?_); refine goesL_ (some 60) rfl rfl Try.func36 (by kernel_rfl) rfl #[.int .i64 a1, .int .i64 a2, .slice Ao31 y727.length co31] rfl (by (try simp only [List.map_toArray, List.map_cons, List.map_nil]); first | done | rfl | (simp only [List.length_drop, List.length_take]; rfl)) ?_; (with_reducible refine (space_Right.calls k a1 a2 _ _ y727 true _ ?side1 ?side2 A26.out).mono ?_); (case side1 => repeat (first | exact (Kd.R_reads' HO729.out).2.2 | (with_reducible refine Kd.C_alloc ?_ _) | (with_reducible refine Kd.C_drewN ?_ _) | (with_reducible refine Kd.C_drew ?_))); (case side2 => exact (Kd.R_reads' HO729.out).2.1); rintro e w32 ⟨rfl, hb⟩; refine ⟨_, rfl, ?_⟩; have n0_ := Aside0.mk (Kd.R_below (by (with_reducible repeat (first | apply Kd.R_alloc | apply Kd.R_drewN | apply Kd.R_drew)); exact HO726.out) hb); have n1_ := Aside0.mk (Kd.R_below (by (with_reducible repeat (first | apply Kd.R_alloc | apply Kd.R_drewN | apply Kd.R_drew)); exact HO729.out) hb); have n2_ := Aside0.mk (blk_below (g := gb713) (o := .cells #[.int .i64 t710, .int .i64 t711] 66 (0, 0)) (by (with_reducible repeat (first | refine blk_drewN ?_ _ | refine blk_drew ?_ | refine blk_alloc ?_ _)); exact BK713.out) hb); have n3_ := Aside0.mk (below_step (by repeat (first | (with_reducible first | exact HB.out | apply below_alloc | apply pw_below_drewN | apply below_drew1 | refine below_set ?_ GE713.out) | exact HB.out)) hb); clear HO726; clear HO729; clear BK713; clear HB; have HO726 := n0_; have HO729 := n1_; have BK713 := n2_; have HB := n3_; clear n0_ n1_ n2_ n3_; (try clear hb); (try clear hb2); (try clear hk); (try clear hi); have hcz33_0 : w32.cell? ⟨gb713, 0, none⟩ = some (.int .i64 t710) := (blk_cell BK713.out 0).trans rfl; have hcz33_1 : w32.cell? ⟨gb713, 1, none⟩ = some (.int .i64 t711) := (blk_cell BK713.out 1).trans rfl; have hfz33_0 := blk_frozen BK713.out 0; have hfz33_1 := blk_frozen BK713.out 1) | (go_at_call 39; (with_reducible refine (space_Left.calls k a1 a2 _ _ y727 t731 _ ?side1 ?side2 A29.out).mono ?_); (case side1 => repeat (first | exact (Kd.R_reads' HO729.out).2.2 | (with_reducible refine Kd.C_alloc ?_ _) | (with_reducible refine Kd.C_drewN ?_ _) | (with_reducible refine Kd.C_drew ?_))); (case side2 => exact (Kd.R_reads' HO729.out).2.1); rintro e w34 ⟨rfl, hb⟩; have n0_ := Aside0.mk (Kd.R_below (by (with_reducible repeat (first | apply Kd.R_alloc | apply Kd.R_drewN | apply Kd.R_drew)); exact HO726.out) hb); have n1_ := Aside0.mk (Kd.R_below (by (with_reducible repeat (first | apply Kd.R_alloc | apply Kd.R_drewN | apply Kd.R_drew)); exact HO729.out) hb); have n2_ := Aside0.mk (blk_below (g := gb713) (o := .cells #[.int .i64 t710, .int .i64 t711] 66 (0, 0)) (by (with_reducible repeat (first | refine blk_drewN ?_ _ | refine blk_drew ?_ | refine blk_alloc ?_ _)); exact BK713.out) hb); have n3_ := Aside0.mk (below_step (by repeat (first | (with_reducible first | exact HB.out | apply below_alloc | apply pw_below_drewN | apply below_drew1 | refine below_set ?_ GE713.out) | exact HB.out)) hb); clear HO726; clear HO729; clear BK713; clear HB; have HO726 := n0_; have HO729 := n1_; have BK713 := n2_; have HB := n3_; clear n0_ n1_ n2_ n3_; (try clear hb); (try clear hb2); (try clear hk); (try clear hi)) | (go_at_call 39; (with_reducible refine (space_Left.calls k a1 a2 _ _ l3 t732 _ ?side1 ?side2 A30.out).mono ?_); (case side1 => repeat (first | exact (Kd.C_below HR3.out HB.out) | (with_reducible refine Kd.C_alloc ?_ _) | (with_reducible refine Kd.C_drewN ?_ _) | (with_reducible refine Kd.C_drew ?_))); (case side2 => exact HC3.out); rintro e w35 ⟨rfl, hb⟩; have n0_ := Aside0.mk (Kd.R_below (by (with_reducible repeat (first | apply Kd.R_alloc | apply Kd.R_drewN | apply Kd.R_drew)); exact HO726.out) hb); have n1_ := Aside0.mk (Kd.R_below (by (with_reducible repeat (first | apply Kd.R_alloc | apply Kd.R_drewN | apply Kd.R_drew)); exact HO729.out) hb); have n2_ := Aside0.mk (blk_below (g := gb713) (o := .cells #[.int .i64 t710, .int .i64 t711] 66 (0, 0)) (by (with_reducible repeat (first | refine blk_drewN ?_ _ | refine blk_drew ?_ | refine blk_alloc ?_ _)); exact BK713.out) hb); have n3_ := Aside0.mk (below_step (by repeat (first | (with_reducible first | exact HB.out | apply below_alloc | apply pw_below_drewN | apply below_drew1 | refine below_set ?_ GE713.out) | exact HB.out)) hb); clear HO726; clear HO729; clear BK713; clear HB; have HO726 := n0_; have HO729 := n1_; have BK713 := n2_; have HB := n3_; clear n0_ n1_ n2_ n3_; (try clear hb); (try clear hb2); (try clear hk); (try clear hi)))
                go_meet
                case rel => exact ⟨_, ((t731 != (wrap64 (t732 - a0)))), (by first | rfl | (simp; done) | (simp [*]; done)), H', ⟨by first | omega | exact Nat.le_refl _⟩, ⟨by (with_reducible repeat (first | refine blk_drewN ?_ _ | refine blk_drew ?_ | refine blk_alloc ?_ _)); exact BK713.out⟩, ⟨by repeat (first | (with_reducible first | exact HB.out | apply below_alloc | apply pw_below_drewN | apply below_drew1 | refine below_set ?_ GE713.out) | exact HB.out)⟩⟩
              · rw [if_neg c28] at H
                have c28b0 : (t711 == a0) = false := beq_eq_false_iff_ne.mpr c28
                have c28b1 : (t711 != a0) = true := bne_iff_ne.mpr c28
                (first | rw [c28b0] | (simp only [i64_w, i32_w]; rw [c28b0]) | skip)
                have H' := Aside0.mk H
                clear H
                obtain ⟨Ao36, co36, eo36⟩ := Kd.R_slice HO729.out
                subst eo36
                go_wp2_with (first | ((with_reducible refine gate_callee (f := 36) rfl ?_); refine goesL_ (some 60) rfl rfl Try.func36 (by kernel_rfl) rfl #[.int .i64 a1, .int .i64 a2, .slice Ao36 y727.length co36] rfl (by (try simp only [List.map_toArray, List.map_cons, List.map_nil]); first | done | rfl | (simp only [List.length_drop, List.length_take]; rfl)) ?_; (with_reducible refine (space_Right.calls k a1 a2 _ _ y727 true _ ?side1 ?side2 A26.out).mono ?_); (case side1 => repeat (first | exact (Kd.R_reads' HO729.out).2.2 | (with_reducible refine Kd.C_alloc ?_ _) | (with_reducible refine Kd.C_drewN ?_ _) | (with_reducible refine Kd.C_drew ?_))); (case side2 => exact (Kd.R_reads' HO729.out).2.1); rintro e w37 ⟨rfl, hb⟩; refine ⟨_, rfl, ?_⟩; have n0_ := Aside0.mk (Kd.R_below (by (with_reducible repeat (first | apply Kd.R_alloc | apply Kd.R_drewN | apply Kd.R_drew)); exact HO726.out) hb); have n1_ := Aside0.mk (Kd.R_below (by (with_reducible repeat (first | apply Kd.R_alloc | apply Kd.R_drewN | apply Kd.R_drew)); exact HO729.out) hb); have n2_ := Aside0.mk (blk_below (g := gb713) (o := .cells #[.int .i64 t710, .int .i64 t711] 66 (0, 0)) (by (with_reducible repeat (first | refine blk_drewN ?_ _ | refine blk_drew ?_ | refine blk_alloc ?_ _)); exact BK713.out) hb); have n3_ := Aside0.mk (below_step (by repeat (first | (with_reducible first | exact HB.out | apply below_alloc | apply pw_below_drewN | apply below_drew1 | refine below_set ?_ GE713.out) | exact HB.out)) hb); clear HO726; clear HO729; clear BK713; clear HB; have HO726 := n0_; have HO729 := n1_; have BK713 := n2_; have HB := n3_; clear n0_ n1_ n2_ n3_; (try clear hb); (try clear hb2); (try clear hk); (try clear hi); have hcz38_0 : w37.cell? ⟨gb713, 0, none⟩ = some (.int .i64 t710) := (blk_cell BK713.out 0).trans rfl; have hcz38_1 : w37.cell? ⟨gb713, 1, none⟩ = some (.int .i64 t711) := (blk_cell BK713.out 1).trans rfl; have hfz38_0 := blk_frozen BK713.out 0; have hfz38_1 := blk_frozen BK713.out 1))
                go_meet
                case rel => exact ⟨_, (true), (by first | rfl | (simp; done) | (simp [*]; done)), H', ⟨by first | omega | exact Nat.le_refl _⟩, ⟨by (with_reducible repeat (first | refine blk_drewN ?_ _ | refine blk_drew ?_ | refine blk_alloc ?_ _)); exact BK713.out⟩, ⟨by repeat (first | (with_reducible first | exact HB.out | apply below_alloc | apply pw_below_drewN | apply below_drew1 | refine below_set ?_ GE713.out) | exact HB.out)⟩⟩
            · replace c27 := Bool.eq_false_iff.mpr c27
              subst c27
              have H1 : (weirkeeperlaw05_SpaceFits.j0 k a0 a1 l3 true t710 t711) = some true := by rw [if_neg (show ¬ (false = true) by decide)] at H; exact H
              clear H
              have H := H1
              clear H1
              have H' := Aside0.mk H
              clear H
              obtain ⟨Ao39, co39, eo39⟩ := Kd.R_slice HO729.out
              subst eo39
              go_wp2_with (first | ((with_reducible refine gate_callee (f := 36) rfl ?_); refine goesL_ (some 60) rfl rfl Try.func36 (by kernel_rfl) rfl #[.int .i64 a1, .int .i64 a2, .slice Ao39 y727.length co39] rfl (by (try simp only [List.map_toArray, List.map_cons, List.map_nil]); first | done | rfl | (simp only [List.length_drop, List.length_take]; rfl)) ?_; (with_reducible refine (space_Right.calls k a1 a2 _ _ y727 false _ ?side1 ?side2 A26.out).mono ?_); (case side1 => repeat (first | exact (Kd.R_reads' HO729.out).2.2 | (with_reducible refine Kd.C_alloc ?_ _) | (with_reducible refine Kd.C_drewN ?_ _) | (with_reducible refine Kd.C_drew ?_))); (case side2 => exact (Kd.R_reads' HO729.out).2.1); rintro e w40 ⟨rfl, hb⟩; refine ⟨_, rfl, ?_⟩; have n0_ := Aside0.mk (Kd.R_below (by (with_reducible repeat (first | apply Kd.R_alloc | apply Kd.R_drewN | apply Kd.R_drew)); exact HO726.out) hb); have n1_ := Aside0.mk (Kd.R_below (by (with_reducible repeat (first | apply Kd.R_alloc | apply Kd.R_drewN | apply Kd.R_drew)); exact HO729.out) hb); have n2_ := Aside0.mk (blk_below (g := gb713) (o := .cells #[.int .i64 t710, .int .i64 t711] 66 (0, 0)) (by (with_reducible repeat (first | refine blk_drewN ?_ _ | refine blk_drew ?_ | refine blk_alloc ?_ _)); exact BK713.out) hb); have n3_ := Aside0.mk (below_step (by repeat (first | (with_reducible first | exact HB.out | apply below_alloc | apply pw_below_drewN | apply below_drew1 | refine below_set ?_ GE713.out) | exact HB.out)) hb); clear HO726; clear HO729; clear BK713; clear HB; have HO726 := n0_; have HO729 := n1_; have BK713 := n2_; have HB := n3_; clear n0_ n1_ n2_ n3_; (try clear hb); (try clear hb2); (try clear hk); (try clear hi)))
              go_meet
              case rel => exact ⟨_, (true), (by first | rfl | (simp; done) | (simp [*]; done)), H', ⟨by first | omega | exact Nat.le_refl _⟩, ⟨by (with_reducible repeat (first | refine blk_drewN ?_ _ | refine blk_drew ?_ | refine blk_alloc ?_ _)); exact BK713.out⟩, ⟨by repeat (first | (with_reducible first | exact HB.out | apply below_alloc | apply pw_below_drewN | apply below_drew1 | refine below_set ?_ GE713.out) | exact HB.out)⟩⟩
          case rest =>
            clear HC12
            try clear c1
            try clear c2
            try clear p2
            try clear c3
            try clear c5
            try clear c5b0
            try clear c5b1
            try clear p6
            try clear c9
            try clear c9b0
            try clear c9b1
            try clear c10
            try clear c11
            try clear c27
            try clear c28
            try clear c28b0
            try clear c28b1
            try clear c30
            try clear c32
            try clear c36
            try clear hcz15_0
            try clear hcz15_1
            try clear hcz33_0
            try clear hcz33_1
            try clear hcz38_0
            try clear hcz38_1
            try clear hfz15_0
            try clear hfz15_1
            try clear hfz33_0
            try clear hfz33_1
            try clear hfz38_0
            try clear hfz38_1
            obtain ⟨kq, x80_11, rfl, HA, HJ11, BK713, HB⟩ := hcut
            cases kq with
            | zero => exact absurd HA.out (by simp [weirkeeperlaw05_SpaceFits.j0])
            | succ kj11 =>
              have H := HA.out
              clear HA
              simp only [weirkeeperlaw05_SpaceFits.j0] at H
              by_cases c41 : x80_11 = true
              · subst c41
                have H1 : (some false) = some true := by rw [if_pos rfl] at H; exact H
                clear H
                have H := H1
                clear H1
                exact absurd H (by simp)
              · replace c41 := Bool.eq_false_iff.mpr c41
                subst c41
                have H1 : ((weirkeeperlaw05_before.f kj11 l3 t710).bind fun t733 => ((space_Fit.f kj11 a0 a1 (wrap64 ((wrap64 (t710 + a0)) - 1)) t733).bind fun bt736 => (if t710 = a1 then ((weirkeeperlaw05_awake.f kj11).bind fun t740 => (some t740)) else (if bt736.2.2 = 0 then (some false) else ((weirkeeperlaw05_awake.f kj11).bind fun t741 => (some t741)))))) = some true := by rw [if_neg (show ¬ (false = true) by decide)] at H; exact H
                clear H
                have H := H1
                clear H1
                replace H := Option.bind_eq_some_iff.mp H
                obtain ⟨t733, A420, H⟩ := H
                replace H : ((space_Fit.f kj11 a0 a1 (wrap64 ((wrap64 (t710 + a0)) - 1)) t733).bind fun bt736 => (if t710 = a1 then ((weirkeeperlaw05_awake.f kj11).bind fun t740 => (some t740)) else (if bt736.2.2 = 0 then (some false) else ((weirkeeperlaw05_awake.f kj11).bind fun t741 => (some t741))))) = some true := H
                have A42 := Aside0.mk A420
                clear A420
                replace H := Option.bind_eq_some_iff.mp H
                obtain ⟨⟨t736, t737, t738⟩, A430, H⟩ := H
                replace H : (if t710 = a1 then ((weirkeeperlaw05_awake.f kj11).bind fun t740 => (some t740)) else (if t738 = 0 then (some false) else ((weirkeeperlaw05_awake.f kj11).bind fun t741 => (some t741)))) = some true := H
                have A43 := Aside0.mk A430
                clear A430
                by_cases c44 : t710 = a1
                · rw [if_pos c44] at H
                  have c44b0 : (t710 == a1) = true := beq_iff_eq.mpr c44
                  have c44b1 : (t710 != a1) = false := bne_eq_false_iff_eq.mpr c44
                  clear c44
                  replace H := Option.bind_eq_some_iff.mp H
                  obtain ⟨t740, A450, H⟩ := H
                  replace H : (some t740) = some true := H
                  have A45 := Aside0.mk A450
                  clear A450
                  (have H9_ := Option.some.inj H; first | subst H9_ | (have h9_ := Aside0.mk H9_; clear H9_))
                  try go_wp2
                  have n0_ := Aside0.mk (blk_drew BK713.out)
                  have n1_ := Aside0.mk (below_drew1 HB.out)
                  clear BK713
                  clear HB
                  have BK713 := n0_
                  have HB := n1_
                  clear n0_ n1_
                  refine start_ (n := 18) (S := fun w' => w'.cell? ⟨gb713, 0, none⟩ = some (.int .i64 t710) ∧ w'.cell? ⟨gb713, 1, none⟩ = some (.int .i64 t711)) (ds := []) #[false, false, false, false, false, false, false, false, false, false, false, false, false, false, false, false, false, false] (by kernel_rfl) rfl rfl ⟨(blk_cell BK713.out 0).trans rfl, (blk_cell BK713.out 1).trans rfl⟩ (fun hHeld => ?_); refine with_tabW weirkeeperlaw05_SpaceFits.tab9 weirkeeperlaw05_SpaceFits.bits9 (fun HT_ HW_ => ?_)
                  generalize wc.drew = w46 at BK713 HB hHeld ⊢
                  refine pure_ (i := 0) (N := some 82) (v := ?_) (a' := ?_) #[true, false, false, false, false, false, false, false, false, false, false, false, false, false, false, false, false, false] rfl rfl (any_of HT_.out (by kernel_rfl)) (fun _ _ _ h => h) (Or.inl ⟨by rfl, ?_⟩) ?_ ?_
                  rotate_left
                  · intro w'
                    go_simp
                    with_reducible rfl
                  rotate_left
                  · simp only [Act.put, List.setIfInBounds_toArray, List.set_cons_zero, List.set_cons_succ, i64_w, i32_w]
                    rfl
                  refine pure_ (i := 1) (N := some 83) (v := ?_) (a' := ?_) #[true, true, false, false, false, false, false, false, false, false, false, false, false, false, false, false, false, false] rfl rfl (any_of HT_.out (by kernel_rfl)) (fun _ _ _ h => h) (Or.inl ⟨by rfl, ?_⟩) ?_ ?_
                  rotate_left
                  · intro w'
                    go_simp
                    with_reducible rfl
                  rotate_left
                  · simp only [Act.put, List.setIfInBounds_toArray, List.set_cons_zero, List.set_cons_succ, i64_w, i32_w]
                    rfl
                  refine pure_ (i := 2) (N := some 84) (v := ?_) (a' := ?_) #[true, true, true, false, false, false, false, false, false, false, false, false, false, false, false, false, false, false] rfl rfl (any_of HT_.out (by kernel_rfl)) (fun _ _ _ h => h) (Or.inl ⟨by rfl, ?_⟩) ?_ ?_
                  rotate_left
                  · intro w'
                    go_simp
                    with_reducible rfl
                  rotate_left
                  · simp only [Act.put, List.setIfInBounds_toArray, List.set_cons_zero, List.set_cons_succ, i64_w, i32_w]
                    rfl
                  refine pure_ (i := 4) (N := some 86) (v := ?_) (a' := ?_) #[true, true, true, false, true, false, false, false, false, false, false, false, false, false, false, false, false, false] rfl rfl (any_of HT_.out (by kernel_rfl)) (fun _ _ _ h => h) (Or.inl ⟨by rfl, ?_⟩) ?_ ?_
                  rotate_left
                  · intro w'
                    go_simp
                    with_reducible rfl
                  rotate_left
                  · simp only [Act.put, List.setIfInBounds_toArray, List.set_cons_zero, List.set_cons_succ, i64_w, i32_w]
                    rfl
                  refine pure_ (i := 7) (N := some 89) (v := ?_) (a' := ?_) #[true, true, true, false, true, false, false, true, false, false, false, false, false, false, false, false, false, false] rfl rfl (any_of HT_.out (by kernel_rfl)) (fun _ _ _ h => h) (Or.inl ⟨by rfl, ?_⟩) ?_ ?_
                  rotate_left
                  · intro w'
                    go_simp
                    with_reducible rfl
                  rotate_left
                  · simp only [Act.put, List.setIfInBounds_toArray, List.set_cons_zero, List.set_cons_succ, i64_w, i32_w]
                    rfl
                  refine pure_ (i := 8) (N := some 90) (v := ?_) (a' := ?_) #[true, true, true, false, true, false, false, true, true, false, false, false, false, false, false, false, false, false] rfl rfl (any_of HT_.out (by kernel_rfl)) (fun _ _ _ h => h) (Or.inl ⟨by rfl, ?_⟩) ?_ ?_
                  rotate_left
                  · intro w'
                    go_simp
                    with_reducible rfl
                  rotate_left
                  · simp only [Act.put, List.setIfInBounds_toArray, List.set_cons_zero, List.set_cons_succ, i64_w, i32_w]
                    rfl
                  refine take_ (i := 3) (N := some 85) (v := ?_) (a' := ?_) #[true, true, true, true, true, false, false, true, true, false, false, false, false, false, false, false, false, false] rfl rfl (take_ofW HT_.out HW_.out (by kernel_rfl)) (fun _ _ _ h => h) (Or.inl ⟨by rfl, ?_⟩) hHeld ?_ ?_
                  rotate_left
                  · rintro w' ⟨s0, s1⟩
                    go_simp
                    with_reducible rfl
                  rotate_left
                  · simp only [Act.put, List.setIfInBounds_toArray, List.set_cons_zero, List.set_cons_succ, i64_w, i32_w]
                    rfl
                  refine pure_ (i := 5) (N := some 87) (v := ?_) (a' := ?_) #[true, true, true, true, true, true, false, true, true, false, false, false, false, false, false, false, false, false] rfl rfl (any_of HT_.out (by kernel_rfl)) (fun _ _ _ h => h) (Or.inl ⟨by rfl, ?_⟩) ?_ ?_
                  rotate_left
                  · intro w'
                    go_simp
                    with_reducible rfl
                  rotate_left
                  · simp only [Act.put, List.setIfInBounds_toArray, List.set_cons_zero, List.set_cons_succ, i64_w, i32_w]
                    rfl
                  refine pure_ (i := 6) (N := some 88) (v := ?_) (a' := ?_) #[true, true, true, true, true, true, true, true, true, false, false, false, false, false, false, false, false, false] rfl rfl (any_of HT_.out (by kernel_rfl)) (fun _ _ _ h => h) (Or.inl ⟨by rfl, ?_⟩) ?_ ?_
                  rotate_left
                  · intro w'
                    go_simp
                    with_reducible rfl
                  rotate_left
                  · simp only [Act.put, List.setIfInBounds_toArray, List.set_cons_zero, List.set_cons_succ, i64_w, i32_w]
                    rfl
                  refine take_ (i := 9) (N := some 91) (v := ?_) (a' := ?_) #[true, true, true, true, true, true, true, true, true, true, false, false, false, false, false, false, false, false] rfl rfl (take_ofW HT_.out HW_.out (by kernel_rfl)) (fun _ _ _ h => h) (Or.inl ⟨by rfl, ?_⟩) hHeld ?_ ?_
                  rotate_left
                  · rintro w' ⟨s0, s1⟩
                    go_simp
                    with_reducible rfl
                  rotate_left
                  · simp only [Act.put, List.setIfInBounds_toArray, List.set_cons_zero, List.set_cons_succ, i64_w, i32_w]
                    rfl
                  refine join_ (σ := Value × Nat) 2 #[true, true, true, true, true, true, true, true, true, true, true, true, true, true, true, true, false, false] (fun s_ => [(92, s_.1), (93, .tuple #[.agg #[.int .i64 t736, .int .i64 t737], .int .i64 t738]), (12, .pointer (some ⟨s_.2, 0, none⟩)), (81, .tuple #[.agg #[.int .i64 t736, .int .i64 t737], .int .i64 t738]), (94, .agg #[.int .i64 t736, .int .i64 t737]), (95, .int .i64 t738)]) (fun s_ w' => (w'.cell? ⟨gb713, 0, none⟩ = some (.int .i64 t710) ∧ w'.cell? ⟨gb713, 1, none⟩ = some (.int .i64 t711)) ∧ (Kd.R k66 66 w' w.heap.size (fun k_ => k_ ≠ gb713 ∧ k_ ≠ s_.2) s_.1 t733) ∧ (w'.heap[gb713]? = some (.cells #[.int .i64 t710, .int .i64 t711] 66 (0, 0))) ∧ (w'.heap[s_.2]? = some (.cells #[.int .i64 0, .int .i64 0] 66 (0, 0))) ∧ (w.heap.size ≤ s_.2) ∧ (w.heap.size ≤ s_.2) ∧ (gb713 ≠ s_.2) ∧ (s_.2 ≠ gb713) ∧ (Below w.heap.size w w')) ?_ ?_
                  rotate_left
                  · intro hCont
                    refine two_ (i := 10) (j := 15) (Ni := some 92) (Nj := some 12) #[true, true, true, true, true, true, true, true, true, true, true, false, false, false, false, false, false, false] #[true, true, true, true, true, true, true, true, true, true, false, false, false, false, false, true, false, false] rfl rfl rfl rfl (two_of HT_.out (by kernel_rfl)) (by decide) (by decide) (fun K hK => ?_) (fun K hK => ?_)
                    · skip
                      refine goes_ Try.func40 (by kernel_rfl) rfl #[.slice A3 l3.length c3, .int .i64 t710] (by rfl) rfl rfl (by (try simp only [List.map_toArray, List.map_cons, List.map_nil]); first | done | rfl | (simp only [List.length_drop, List.length_take]; rfl)) ?_
                      with_reducible refine (weirkeeperlaw05_before.calls kj11 _ _ l3 t710 t733 _ ?side1 ?side2 A42.out).mono ?_
                      (case side1 => repeat (first | exact (Kd.C_below HR3.out HB.out) | (with_reducible refine Kd.C_alloc ?_ _) | (with_reducible refine Kd.C_drewN ?_ _) | (with_reducible refine Kd.C_drew ?_)))
                      (case side2 => exact HC3.out)
                      rintro e w47 ⟨v734, rfl, ho0, hb⟩
                      refine ⟨_, rfl, ?_⟩
                      have n0_ := Aside0.mk (Kd.R_lower (Kd.R_newB ho0 (g := gb713) (o := .cells #[.int .i64 t710, .int .i64 t711] 66 (0, 0)) (by (with_reducible repeat (first | refine blk_drewN ?_ _ | refine blk_drew ?_ | refine blk_alloc ?_ _)); exact BK713.out)) (below_size (by repeat (first | (with_reducible first | exact HB.out | apply below_alloc | apply pw_below_drewN | apply below_drew1 | refine below_set ?_ GE713.out) | exact HB.out))))
                      have n1_ := Aside0.mk (blk_below (g := gb713) (o := .cells #[.int .i64 t710, .int .i64 t711] 66 (0, 0)) (by (with_reducible repeat (first | refine blk_drewN ?_ _ | refine blk_drew ?_ | refine blk_alloc ?_ _)); exact BK713.out) hb)
                      have n2_ := Aside0.mk (below_step (by repeat (first | (with_reducible first | exact HB.out | apply below_alloc | apply pw_below_drewN | apply below_drew1 | refine below_set ?_ GE713.out) | exact HB.out)) hb)
                      clear BK713
                      clear HB
                      have HO735 := n0_
                      have BK713 := n1_
                      have HB := n2_
                      clear n0_ n1_ n2_
                      (try clear hb)
                      (try clear hb2)
                      (try clear hk)
                      (try clear hi)
                      (try clear ho0)
                      obtain ⟨Ao48, co48, eo48⟩ := Kd.R_slice HO735.out
                      (first | subst eo48 | (injection eo48 with f1_ f2_ f3_; have f4_ := f1_.symm; have f5_ := f3_.symm; clear f1_ f2_ f3_; subst f4_; subst f5_))
                      refine hK.out _ _ ⟨(blk_cell BK713.out 0).trans rfl, (blk_cell BK713.out 1).trans rfl⟩ (fun hHeld => ?_)
                      clear hK K
                      refine norm_ (a' := ?_) ?_ ?_
                      rotate_left
                      · show Act.put _ (some 92) _ = _
                        simp only [Act.put, List.setIfInBounds_toArray, List.set_cons_zero, List.set_cons_succ, i64_w, i32_w]
                        rfl
                      refine two_ (i := 11) (j := 15) (Ni := some 93) (Nj := some 12) #[true, true, true, true, true, true, true, true, true, true, true, true, false, false, false, false, false, false] #[true, true, true, true, true, true, true, true, true, true, true, false, false, false, false, true, false, false] rfl rfl rfl rfl (two_of HT_.out (by kernel_rfl)) (by decide) (by decide) (fun K hK => ?_) (fun K hK => ?_)
                      · skip
                        refine goes_ Try.func32 (by kernel_rfl) rfl #[.int .i64 a0, .int .i64 a1, .int .i64 (wrap64 ((wrap64 (t710 + a0)) - 1)), .slice Ao48 t733.length co48] (by rfl) rfl rfl (by (try simp only [List.map_toArray, List.map_cons, List.map_nil]); first | done | rfl | (simp only [List.length_drop, List.length_take]; rfl)) ?_
                        with_reducible refine (space_Fit.calls kj11 a0 a1 (wrap64 ((wrap64 (t710 + a0)) - 1)) _ _ t733 t736 t737 t738 _ ?side1 ?side2 A43.out).mono ?_
                        (case side1 => repeat (first | exact (Kd.R_reads' HO735.out).2.2 | (with_reducible refine Kd.C_alloc ?_ _) | (with_reducible refine Kd.C_drewN ?_ _) | (with_reducible refine Kd.C_drew ?_)))
                        (case side2 => exact (Kd.R_reads' HO735.out).2.1)
                        rintro e w49 ⟨rfl, hb⟩
                        refine ⟨_, rfl, ?_⟩
                        have n0_ := Aside0.mk (Kd.R_below (by (with_reducible repeat (first | apply Kd.R_alloc | apply Kd.R_drewN | apply Kd.R_drew)); exact HO735.out) hb)
                        have n1_ := Aside0.mk (blk_below (g := gb713) (o := .cells #[.int .i64 t710, .int .i64 t711] 66 (0, 0)) (by (with_reducible repeat (first | refine blk_drewN ?_ _ | refine blk_drew ?_ | refine blk_alloc ?_ _)); exact BK713.out) hb)
                        have n2_ := Aside0.mk (below_step (by repeat (first | (with_reducible first | exact HB.out | apply below_alloc | apply pw_below_drewN | apply below_drew1 | refine below_set ?_ GE713.out) | exact HB.out)) hb)
                        clear HO735
                        clear BK713
                        clear HB
                        have HO735 := n0_
                        have BK713 := n1_
                        have HB := n2_
                        clear n0_ n1_ n2_
                        (try clear hb)
                        (try clear hb2)
                        (try clear hk)
                        (try clear hi)
                        refine hK.out _ _ ⟨(blk_cell BK713.out 0).trans rfl, (blk_cell BK713.out 1).trans rfl⟩ (fun hHeld => ?_)
                        clear hK K
                        refine norm_ (a' := ?_) ?_ ?_
                        rotate_left
                        · show Act.put _ (some 93) _ = _
                          simp only [Act.put, List.setIfInBounds_toArray, List.set_cons_zero, List.set_cons_succ, i64_w, i32_w]
                          rfl
                        refine pure_ (i := 12) (N := some 81) (v := ?_) (a' := ?_) #[true, true, true, true, true, true, true, true, true, true, true, true, true, false, false, false, false, false] rfl rfl (any_of HT_.out (by kernel_rfl)) (fun _ _ _ h => h) (Or.inl ⟨by rfl, ?_⟩) ?_ ?_
                        rotate_left
                        · intro w'
                          go_simp
                          with_reducible rfl
                        rotate_left
                        · simp only [Act.put, List.setIfInBounds_toArray, List.set_cons_zero, List.set_cons_succ, i64_w, i32_w]
                          rfl
                        refine pure_ (i := 13) (N := some 94) (v := ?_) (a' := ?_) #[true, true, true, true, true, true, true, true, true, true, true, true, true, true, false, false, false, false] rfl rfl (any_of HT_.out (by kernel_rfl)) (fun _ _ _ h => h) (Or.inl ⟨by rfl, ?_⟩) ?_ ?_
                        rotate_left
                        · intro w'
                          go_simp
                          with_reducible rfl
                        rotate_left
                        · simp only [Act.put, List.setIfInBounds_toArray, List.set_cons_zero, List.set_cons_succ, i64_w, i32_w]
                          rfl
                        refine pure_ (i := 14) (N := some 95) (v := ?_) (a' := ?_) #[true, true, true, true, true, true, true, true, true, true, true, true, true, true, true, false, false, false] rfl rfl (any_of HT_.out (by kernel_rfl)) (fun _ _ _ h => h) (Or.inl ⟨by rfl, ?_⟩) ?_ ?_
                        rotate_left
                        · intro w'
                          go_simp
                          with_reducible rfl
                        rotate_left
                        · simp only [Act.put, List.setIfInBounds_toArray, List.set_cons_zero, List.set_cons_succ, i64_w, i32_w]
                          rfl
                        refine one_ (i := 15) (N := some 12) #[true, true, true, true, true, true, true, true, true, true, true, true, true, true, true, true, false, false] rfl rfl (one_of HT_.out (by kernel_rfl)) (by decide) (fun K hK => ?_)
                        refine box_step ?hg (N := 12) ?hd (cs := #[.int .i64 0, .int .i64 0]) (t := 66) ?hr ?_; (case hd => rfl); (case hg => rfl); (case hr => first | (go_simp; done) | (go_simp; rfl))
                        intro gb739 hg w50 hbox hb
                        have n0_ := Aside0.mk (Kd.R_below (Kd.R_elderB (by (with_reducible repeat (first | apply Kd.R_alloc | apply Kd.R_drewN | apply Kd.R_drew)); exact HO735.out) gb739 (Nat.le_of_eq hg.symm)) hb)
                        have n1_ := Aside0.mk (blk_below (g := gb713) (o := .cells #[.int .i64 t710, .int .i64 t711] 66 (0, 0)) (by (with_reducible repeat (first | refine blk_drewN ?_ _ | refine blk_drew ?_ | refine blk_alloc ?_ _)); exact BK713.out) hb)
                        have n2_ := Aside0.mk (below_step (by repeat (first | (with_reducible first | exact HB.out | apply below_alloc | apply pw_below_drewN | apply below_drew1 | refine below_set ?_ GE713.out) | exact HB.out)) hb)
                        have n3_ := Aside0.mk (hbox)
                        have n4_ := Aside0.mk ((by rw [hg]; exact (below_size (by repeat (first | (with_reducible first | exact HB.out | apply below_alloc | apply pw_below_drewN | apply below_drew1 | refine below_set ?_ GE713.out) | exact HB.out))) : w.heap.size ≤ gb739))
                        have n5_ := Aside0.mk ((by rw [hg]; exact (below_size (by repeat (first | (with_reducible first | exact HB.out | apply below_alloc | apply pw_below_drewN | apply below_drew1 | refine below_set ?_ GE713.out) | exact HB.out))) : w.heap.size ≤ gb739))
                        have n6_ := Aside0.mk ((by rw [hg]; exact Nat.ne_of_lt (blk_lt (g := gb713) (o := .cells #[.int .i64 t710, .int .i64 t711] 66 (0, 0)) (by (with_reducible repeat (first | refine blk_drewN ?_ _ | refine blk_drew ?_ | refine blk_alloc ?_ _)); exact BK713.out)) : gb713 ≠ gb739))
                        have n7_ := Aside0.mk ((by rw [hg]; exact Nat.ne_of_gt (blk_lt (g := gb713) (o := .cells #[.int .i64 t710, .int .i64 t711] 66 (0, 0)) (by (with_reducible repeat (first | refine blk_drewN ?_ _ | refine blk_drew ?_ | refine blk_alloc ?_ _)); exact BK713.out)) : gb739 ≠ gb713))
                        clear HO735
                        clear BK713
                        clear HB
                        have HO735 := n0_
                        have BK713 := n1_
                        have HB := n2_
                        have BK739 := n3_
                        have GW739 := n4_
                        have GE739 := n5_
                        have NB713_739 := n6_
                        have NB739_713 := n7_
                        clear n0_ n1_ n2_ n3_ n4_ n5_ n6_ n7_
                        clear hb hbox hg
                        refine hK.out _ _ ⟨(blk_cell BK713.out 0).trans rfl, (blk_cell BK713.out 1).trans rfl⟩ (fun hHeld => ?_)
                        clear hK K
                        refine norm_ (a' := ?_) ?_ ?_
                        rotate_left
                        · show Act.put _ (some 12) _ = _
                          simp only [Act.put, List.setIfInBounds_toArray, List.set_cons_zero, List.set_cons_succ, i64_w, i32_w]
                          rfl
                        exact norm_ (by simp only [putAll, Act.put, List.setIfInBounds_toArray, List.set_cons_zero, List.set_cons_succ]) (hCont (.slice Ao48 t733.length co48, gb739) _ ⟨hHeld, (by (with_reducible repeat (first | apply Kd.R_alloc | apply Kd.R_drewN | apply Kd.R_drew)); exact Kd.R_mono HO735.out (fun _ hk => ⟨hk.1.2, hk.2⟩)), (by (with_reducible repeat (first | refine blk_drewN ?_ _ | refine blk_drew ?_ | refine blk_alloc ?_ _)); exact BK713.out), (by (with_reducible repeat (first | refine blk_drewN ?_ _ | refine blk_drew ?_ | refine blk_alloc ?_ _)); exact BK739.out), GW739.out, GE739.out, NB713_739.out, NB739_713.out, (by repeat (first | (with_reducible first | exact HB.out | apply below_alloc | apply pw_below_drewN | apply below_drew1 | refine below_set ?_ GE713.out | refine below_set ?_ GE739.out) | exact HB.out))⟩)
                      · skip
                        refine box_step ?hg (N := 12) ?hd (cs := #[.int .i64 0, .int .i64 0]) (t := 66) ?hr ?_; (case hd => rfl); (case hg => rfl); (case hr => first | (go_simp; done) | (go_simp; rfl))
                        intro gb739 hg w48 hbox hb
                        have n0_ := Aside0.mk (Kd.R_below (Kd.R_elderB (by (with_reducible repeat (first | apply Kd.R_alloc | apply Kd.R_drewN | apply Kd.R_drew)); exact HO735.out) gb739 (Nat.le_of_eq hg.symm)) hb)
                        have n1_ := Aside0.mk (blk_below (g := gb713) (o := .cells #[.int .i64 t710, .int .i64 t711] 66 (0, 0)) (by (with_reducible repeat (first | refine blk_drewN ?_ _ | refine blk_drew ?_ | refine blk_alloc ?_ _)); exact BK713.out) hb)
                        have n2_ := Aside0.mk (below_step (by repeat (first | (with_reducible first | exact HB.out | apply below_alloc | apply pw_below_drewN | apply below_drew1 | refine below_set ?_ GE713.out) | exact HB.out)) hb)
                        have n3_ := Aside0.mk (hbox)
                        have n4_ := Aside0.mk ((by rw [hg]; exact (below_size (by repeat (first | (with_reducible first | exact HB.out | apply below_alloc | apply pw_below_drewN | apply below_drew1 | refine below_set ?_ GE713.out) | exact HB.out))) : w.heap.size ≤ gb739))
                        have n5_ := Aside0.mk ((by rw [hg]; exact (below_size (by repeat (first | (with_reducible first | exact HB.out | apply below_alloc | apply pw_below_drewN | apply below_drew1 | refine below_set ?_ GE713.out) | exact HB.out))) : w.heap.size ≤ gb739))
                        have n6_ := Aside0.mk ((by rw [hg]; exact Nat.ne_of_lt (blk_lt (g := gb713) (o := .cells #[.int .i64 t710, .int .i64 t711] 66 (0, 0)) (by (with_reducible repeat (first | refine blk_drewN ?_ _ | refine blk_drew ?_ | refine blk_alloc ?_ _)); exact BK713.out)) : gb713 ≠ gb739))
                        have n7_ := Aside0.mk ((by rw [hg]; exact Nat.ne_of_gt (blk_lt (g := gb713) (o := .cells #[.int .i64 t710, .int .i64 t711] 66 (0, 0)) (by (with_reducible repeat (first | refine blk_drewN ?_ _ | refine blk_drew ?_ | refine blk_alloc ?_ _)); exact BK713.out)) : gb739 ≠ gb713))
                        clear HO735
                        clear BK713
                        clear HB
                        have HO735 := n0_
                        have BK713 := n1_
                        have HB := n2_
                        have BK739 := n3_
                        have GW739 := n4_
                        have GE739 := n5_
                        have NB713_739 := n6_
                        have NB739_713 := n7_
                        clear n0_ n1_ n2_ n3_ n4_ n5_ n6_ n7_
                        clear hb hbox hg
                        obtain ⟨Ao49, co49, eo49⟩ := Kd.R_slice HO735.out
                        (first | subst eo49 | (injection eo49 with f1_ f2_ f3_; have f4_ := f1_.symm; have f5_ := f3_.symm; clear f1_ f2_ f3_; subst f4_; subst f5_))
                        refine hK.out _ _ ⟨(blk_cell BK713.out 0).trans rfl, (blk_cell BK713.out 1).trans rfl⟩ (fun hHeld => ?_)
                        clear hK K
                        refine norm_ (a' := ?_) ?_ ?_
                        rotate_left
                        · show Act.put _ (some 12) _ = _
                          simp only [Act.put, List.setIfInBounds_toArray, List.set_cons_zero, List.set_cons_succ, i64_w, i32_w]
                          rfl
                        refine one_ (i := 11) (N := some 93) #[true, true, true, true, true, true, true, true, true, true, true, true, false, false, false, true, false, false] rfl rfl (one_of HT_.out (by kernel_rfl)) (by decide) (fun K hK => ?_)
                        refine goes_ Try.func32 (by kernel_rfl) rfl #[.int .i64 a0, .int .i64 a1, .int .i64 (wrap64 ((wrap64 (t710 + a0)) - 1)), .slice Ao49 t733.length co49] (by rfl) rfl rfl (by (try simp only [List.map_toArray, List.map_cons, List.map_nil]); first | done | rfl | (simp only [List.length_drop, List.length_take]; rfl)) ?_
                        with_reducible refine (space_Fit.calls kj11 a0 a1 (wrap64 ((wrap64 (t710 + a0)) - 1)) _ _ t733 t736 t737 t738 _ ?side1 ?side2 A43.out).mono ?_
                        (case side1 => repeat (first | exact (Kd.R_reads' HO735.out).2.2 | (with_reducible refine Kd.C_alloc ?_ _) | (with_reducible refine Kd.C_drewN ?_ _) | (with_reducible refine Kd.C_drew ?_)))
                        (case side2 => exact (Kd.R_reads' HO735.out).2.1)
                        rintro e w50 ⟨rfl, hb⟩
                        refine ⟨_, rfl, ?_⟩
                        have n0_ := Aside0.mk (Kd.R_below (by (with_reducible repeat (first | apply Kd.R_alloc | apply Kd.R_drewN | apply Kd.R_drew)); exact HO735.out) hb)
                        have n1_ := Aside0.mk (blk_below (g := gb713) (o := .cells #[.int .i64 t710, .int .i64 t711] 66 (0, 0)) (by (with_reducible repeat (first | refine blk_drewN ?_ _ | refine blk_drew ?_ | refine blk_alloc ?_ _)); exact BK713.out) hb)
                        have n2_ := Aside0.mk (blk_below (g := gb739) (o := .cells #[.int .i64 0, .int .i64 0] 66 (0, 0)) (by (with_reducible repeat (first | refine blk_drewN ?_ _ | refine blk_drew ?_ | refine blk_alloc ?_ _)); exact BK739.out) hb)
                        have n3_ := Aside0.mk (below_step (by repeat (first | (with_reducible first | exact HB.out | apply below_alloc | apply pw_below_drewN | apply below_drew1 | refine below_set ?_ GE713.out | refine below_set ?_ GE739.out) | exact HB.out)) hb)
                        clear HO735
                        clear BK713
                        clear BK739
                        clear HB
                        have HO735 := n0_
                        have BK713 := n1_
                        have BK739 := n2_
                        have HB := n3_
                        clear n0_ n1_ n2_ n3_
                        (try clear hb)
                        (try clear hb2)
                        (try clear hk)
                        (try clear hi)
                        refine hK.out _ _ ⟨(blk_cell BK713.out 0).trans rfl, (blk_cell BK713.out 1).trans rfl⟩ (fun hHeld => ?_)
                        clear hK K
                        refine norm_ (a' := ?_) ?_ ?_
                        rotate_left
                        · show Act.put _ (some 93) _ = _
                          simp only [Act.put, List.setIfInBounds_toArray, List.set_cons_zero, List.set_cons_succ, i64_w, i32_w]
                          rfl
                        refine pure_ (i := 12) (N := some 81) (v := ?_) (a' := ?_) #[true, true, true, true, true, true, true, true, true, true, true, true, true, false, false, true, false, false] rfl rfl (any_of HT_.out (by kernel_rfl)) (fun _ _ _ h => h) (Or.inl ⟨by rfl, ?_⟩) ?_ ?_
                        rotate_left
                        · intro w'
                          go_simp
                          with_reducible rfl
                        rotate_left
                        · simp only [Act.put, List.setIfInBounds_toArray, List.set_cons_zero, List.set_cons_succ, i64_w, i32_w]
                          rfl
                        refine pure_ (i := 13) (N := some 94) (v := ?_) (a' := ?_) #[true, true, true, true, true, true, true, true, true, true, true, true, true, true, false, true, false, false] rfl rfl (any_of HT_.out (by kernel_rfl)) (fun _ _ _ h => h) (Or.inl ⟨by rfl, ?_⟩) ?_ ?_
                        rotate_left
                        · intro w'
                          go_simp
                          with_reducible rfl
                        rotate_left
                        · simp only [Act.put, List.setIfInBounds_toArray, List.set_cons_zero, List.set_cons_succ, i64_w, i32_w]
                          rfl
                        refine pure_ (i := 14) (N := some 95) (v := ?_) (a' := ?_) #[true, true, true, true, true, true, true, true, true, true, true, true, true, true, true, true, false, false] rfl rfl (any_of HT_.out (by kernel_rfl)) (fun _ _ _ h => h) (Or.inl ⟨by rfl, ?_⟩) ?_ ?_
                        rotate_left
                        · intro w'
                          go_simp
                          with_reducible rfl
                        rotate_left
                        · simp only [Act.put, List.setIfInBounds_toArray, List.set_cons_zero, List.set_cons_succ, i64_w, i32_w]
                          rfl
                        exact norm_ (by simp only [putAll, Act.put, List.setIfInBounds_toArray, List.set_cons_zero, List.set_cons_succ]) (hCont (.slice Ao49 t733.length co49, gb739) _ ⟨hHeld, (by (with_reducible repeat (first | apply Kd.R_alloc | apply Kd.R_drewN | apply Kd.R_drew)); exact Kd.R_mono HO735.out (fun _ hk => ⟨hk.1.2, hk.2⟩)), (by (with_reducible repeat (first | refine blk_drewN ?_ _ | refine blk_drew ?_ | refine blk_alloc ?_ _)); exact BK713.out), (by (with_reducible repeat (first | refine blk_drewN ?_ _ | refine blk_drew ?_ | refine blk_alloc ?_ _)); exact BK739.out), GW739.out, GE739.out, NB713_739.out, NB739_713.out, (by repeat (first | (with_reducible first | exact HB.out | apply below_alloc | apply pw_below_drewN | apply below_drew1 | refine below_set ?_ GE713.out | refine below_set ?_ GE739.out) | exact HB.out))⟩)
                    · skip
                      refine box_step ?hg (N := 12) ?hd (cs := #[.int .i64 0, .int .i64 0]) (t := 66) ?hr ?_; (case hd => rfl); (case hg => rfl); (case hr => first | (go_simp; done) | (go_simp; rfl))
                      intro gb739 hg w47 hbox hb
                      have n0_ := Aside0.mk (blk_below (g := gb713) (o := .cells #[.int .i64 t710, .int .i64 t711] 66 (0, 0)) (by (with_reducible repeat (first | refine blk_drewN ?_ _ | refine blk_drew ?_ | refine blk_alloc ?_ _)); exact BK713.out) hb)
                      have n1_ := Aside0.mk (below_step (by repeat (first | (with_reducible first | exact HB.out | apply below_alloc | apply pw_below_drewN | apply below_drew1 | refine below_set ?_ GE713.out) | exact HB.out)) hb)
                      have n2_ := Aside0.mk (hbox)
                      have n3_ := Aside0.mk ((by rw [hg]; exact (below_size (by repeat (first | (with_reducible first | exact HB.out | apply below_alloc | apply pw_below_drewN | apply below_drew1 | refine below_set ?_ GE713.out) | exact HB.out))) : w.heap.size ≤ gb739))
                      have n4_ := Aside0.mk ((by rw [hg]; exact (below_size (by repeat (first | (with_reducible first | exact HB.out | apply below_alloc | apply pw_below_drewN | apply below_drew1 | refine below_set ?_ GE713.out) | exact HB.out))) : w.heap.size ≤ gb739))
                      have n5_ := Aside0.mk ((by rw [hg]; exact Nat.ne_of_lt (blk_lt (g := gb713) (o := .cells #[.int .i64 t710, .int .i64 t711] 66 (0, 0)) (by (with_reducible repeat (first | refine blk_drewN ?_ _ | refine blk_drew ?_ | refine blk_alloc ?_ _)); exact BK713.out)) : gb713 ≠ gb739))
                      have n6_ := Aside0.mk ((by rw [hg]; exact Nat.ne_of_gt (blk_lt (g := gb713) (o := .cells #[.int .i64 t710, .int .i64 t711] 66 (0, 0)) (by (with_reducible repeat (first | refine blk_drewN ?_ _ | refine blk_drew ?_ | refine blk_alloc ?_ _)); exact BK713.out)) : gb739 ≠ gb713))
                      clear BK713
                      clear HB
                      have BK713 := n0_
                      have HB := n1_
                      have BK739 := n2_
                      have GW739 := n3_
                      have GE739 := n4_
                      have NB713_739 := n5_
                      have NB739_713 := n6_
                      clear n0_ n1_ n2_ n3_ n4_ n5_ n6_
                      clear hb hbox hg
                      refine hK.out _ _ ⟨(blk_cell BK713.out 0).trans rfl, (blk_cell BK713.out 1).trans rfl⟩ (fun hHeld => ?_)
                      clear hK K
                      refine norm_ (a' := ?_) ?_ ?_
                      rotate_left
                      · show Act.put _ (some 12) _ = _
                        simp only [Act.put, List.setIfInBounds_toArray, List.set_cons_zero, List.set_cons_succ, i64_w, i32_w]
                        rfl
                      refine one_ (i := 10) (N := some 92) #[true, true, true, true, true, true, true, true, true, true, true, false, false, false, false, true, false, false] rfl rfl (one_of HT_.out (by kernel_rfl)) (by decide) (fun K hK => ?_)
                      refine goes_ Try.func40 (by kernel_rfl) rfl #[.slice A3 l3.length c3, .int .i64 t710] (by rfl) rfl rfl (by (try simp only [List.map_toArray, List.map_cons, List.map_nil]); first | done | rfl | (simp only [List.length_drop, List.length_take]; rfl)) ?_
                      with_reducible refine (weirkeeperlaw05_before.calls kj11 _ _ l3 t710 t733 _ ?side1 ?side2 A42.out).mono ?_
                      (case side1 => repeat (first | exact (Kd.C_below HR3.out HB.out) | (with_reducible refine Kd.C_alloc ?_ _) | (with_reducible refine Kd.C_drewN ?_ _) | (with_reducible refine Kd.C_drew ?_)))
                      (case side2 => exact HC3.out)
                      rintro e w48 ⟨v734, rfl, ho0, hb⟩
                      refine ⟨_, rfl, ?_⟩
                      have n0_ := Aside0.mk (Kd.R_lower (Kd.R_newB (Kd.R_newB ho0 (g := gb713) (o := .cells #[.int .i64 t710, .int .i64 t711] 66 (0, 0)) (by (with_reducible repeat (first | refine blk_drewN ?_ _ | refine blk_drew ?_ | refine blk_alloc ?_ _)); exact BK713.out)) (g := gb739) (o := .cells #[.int .i64 0, .int .i64 0] 66 (0, 0)) (by (with_reducible repeat (first | refine blk_drewN ?_ _ | refine blk_drew ?_ | refine blk_alloc ?_ _)); exact BK739.out)) (below_size (by repeat (first | (with_reducible first | exact HB.out | apply below_alloc | apply pw_below_drewN | apply below_drew1 | refine below_set ?_ GE713.out | refine below_set ?_ GE739.out) | exact HB.out))))
                      have n1_ := Aside0.mk (blk_below (g := gb713) (o := .cells #[.int .i64 t710, .int .i64 t711] 66 (0, 0)) (by (with_reducible repeat (first | refine blk_drewN ?_ _ | refine blk_drew ?_ | refine blk_alloc ?_ _)); exact BK713.out) hb)
                      have n2_ := Aside0.mk (blk_below (g := gb739) (o := .cells #[.int .i64 0, .int .i64 0] 66 (0, 0)) (by (with_reducible repeat (first | refine blk_drewN ?_ _ | refine blk_drew ?_ | refine blk_alloc ?_ _)); exact BK739.out) hb)
                      have n3_ := Aside0.mk (below_step (by repeat (first | (with_reducible first | exact HB.out | apply below_alloc | apply pw_below_drewN | apply below_drew1 | refine below_set ?_ GE713.out | refine below_set ?_ GE739.out) | exact HB.out)) hb)
                      clear BK713
                      clear BK739
                      clear HB
                      have HO735 := n0_
                      have BK713 := n1_
                      have BK739 := n2_
                      have HB := n3_
                      clear n0_ n1_ n2_ n3_
                      (try clear hb)
                      (try clear hb2)
                      (try clear hk)
                      (try clear hi)
                      (try clear ho0)
                      obtain ⟨Ao49, co49, eo49⟩ := Kd.R_slice HO735.out
                      (first | subst eo49 | (injection eo49 with f1_ f2_ f3_; have f4_ := f1_.symm; have f5_ := f3_.symm; clear f1_ f2_ f3_; subst f4_; subst f5_))
                      refine hK.out _ _ ⟨(blk_cell BK713.out 0).trans rfl, (blk_cell BK713.out 1).trans rfl⟩ (fun hHeld => ?_)
                      clear hK K
                      refine norm_ (a' := ?_) ?_ ?_
                      rotate_left
                      · show Act.put _ (some 92) _ = _
                        simp only [Act.put, List.setIfInBounds_toArray, List.set_cons_zero, List.set_cons_succ, i64_w, i32_w]
                        rfl
                      refine one_ (i := 11) (N := some 93) #[true, true, true, true, true, true, true, true, true, true, true, true, false, false, false, true, false, false] rfl rfl (one_of HT_.out (by kernel_rfl)) (by decide) (fun K hK => ?_)
                      refine goes_ Try.func32 (by kernel_rfl) rfl #[.int .i64 a0, .int .i64 a1, .int .i64 (wrap64 ((wrap64 (t710 + a0)) - 1)), .slice Ao49 t733.length co49] (by rfl) rfl rfl (by (try simp only [List.map_toArray, List.map_cons, List.map_nil]); first | done | rfl | (simp only [List.length_drop, List.length_take]; rfl)) ?_
                      with_reducible refine (space_Fit.calls kj11 a0 a1 (wrap64 ((wrap64 (t710 + a0)) - 1)) _ _ t733 t736 t737 t738 _ ?side1 ?side2 A43.out).mono ?_
                      (case side1 => repeat (first | exact (Kd.R_reads' HO735.out).2.2 | (with_reducible refine Kd.C_alloc ?_ _) | (with_reducible refine Kd.C_drewN ?_ _) | (with_reducible refine Kd.C_drew ?_)))
                      (case side2 => exact (Kd.R_reads' HO735.out).2.1)
                      rintro e w50 ⟨rfl, hb⟩
                      refine ⟨_, rfl, ?_⟩
                      have n0_ := Aside0.mk (Kd.R_below (by (with_reducible repeat (first | apply Kd.R_alloc | apply Kd.R_drewN | apply Kd.R_drew)); exact HO735.out) hb)
                      have n1_ := Aside0.mk (blk_below (g := gb713) (o := .cells #[.int .i64 t710, .int .i64 t711] 66 (0, 0)) (by (with_reducible repeat (first | refine blk_drewN ?_ _ | refine blk_drew ?_ | refine blk_alloc ?_ _)); exact BK713.out) hb)
                      have n2_ := Aside0.mk (blk_below (g := gb739) (o := .cells #[.int .i64 0, .int .i64 0] 66 (0, 0)) (by (with_reducible repeat (first | refine blk_drewN ?_ _ | refine blk_drew ?_ | refine blk_alloc ?_ _)); exact BK739.out) hb)
                      have n3_ := Aside0.mk (below_step (by repeat (first | (with_reducible first | exact HB.out | apply below_alloc | apply pw_below_drewN | apply below_drew1 | refine below_set ?_ GE713.out | refine below_set ?_ GE739.out) | exact HB.out)) hb)
                      clear HO735
                      clear BK713
                      clear BK739
                      clear HB
                      have HO735 := n0_
                      have BK713 := n1_
                      have BK739 := n2_
                      have HB := n3_
                      clear n0_ n1_ n2_ n3_
                      (try clear hb)
                      (try clear hb2)
                      (try clear hk)
                      (try clear hi)
                      refine hK.out _ _ ⟨(blk_cell BK713.out 0).trans rfl, (blk_cell BK713.out 1).trans rfl⟩ (fun hHeld => ?_)
                      clear hK K
                      refine norm_ (a' := ?_) ?_ ?_
                      rotate_left
                      · show Act.put _ (some 93) _ = _
                        simp only [Act.put, List.setIfInBounds_toArray, List.set_cons_zero, List.set_cons_succ, i64_w, i32_w]
                        rfl
                      refine pure_ (i := 12) (N := some 81) (v := ?_) (a' := ?_) #[true, true, true, true, true, true, true, true, true, true, true, true, true, false, false, true, false, false] rfl rfl (any_of HT_.out (by kernel_rfl)) (fun _ _ _ h => h) (Or.inl ⟨by rfl, ?_⟩) ?_ ?_
                      rotate_left
                      · intro w'
                        go_simp
                        with_reducible rfl
                      rotate_left
                      · simp only [Act.put, List.setIfInBounds_toArray, List.set_cons_zero, List.set_cons_succ, i64_w, i32_w]
                        rfl
                      refine pure_ (i := 13) (N := some 94) (v := ?_) (a' := ?_) #[true, true, true, true, true, true, true, true, true, true, true, true, true, true, false, true, false, false] rfl rfl (any_of HT_.out (by kernel_rfl)) (fun _ _ _ h => h) (Or.inl ⟨by rfl, ?_⟩) ?_ ?_
                      rotate_left
                      · intro w'
                        go_simp
                        with_reducible rfl
                      rotate_left
                      · simp only [Act.put, List.setIfInBounds_toArray, List.set_cons_zero, List.set_cons_succ, i64_w, i32_w]
                        rfl
                      refine pure_ (i := 14) (N := some 95) (v := ?_) (a' := ?_) #[true, true, true, true, true, true, true, true, true, true, true, true, true, true, true, true, false, false] rfl rfl (any_of HT_.out (by kernel_rfl)) (fun _ _ _ h => h) (Or.inl ⟨by rfl, ?_⟩) ?_ ?_
                      rotate_left
                      · intro w'
                        go_simp
                        with_reducible rfl
                      rotate_left
                      · simp only [Act.put, List.setIfInBounds_toArray, List.set_cons_zero, List.set_cons_succ, i64_w, i32_w]
                        rfl
                      exact norm_ (by simp only [putAll, Act.put, List.setIfInBounds_toArray, List.set_cons_zero, List.set_cons_succ]) (hCont (.slice Ao49 t733.length co49, gb739) _ ⟨hHeld, (by (with_reducible repeat (first | apply Kd.R_alloc | apply Kd.R_drewN | apply Kd.R_drew)); exact Kd.R_mono HO735.out (fun _ hk => ⟨hk.1.2, hk.2⟩)), (by (with_reducible repeat (first | refine blk_drewN ?_ _ | refine blk_drew ?_ | refine blk_alloc ?_ _)); exact BK713.out), (by (with_reducible repeat (first | refine blk_drewN ?_ _ | refine blk_drew ?_ | refine blk_alloc ?_ _)); exact BK739.out), GW739.out, GE739.out, NB713_739.out, NB739_713.out, (by repeat (first | (with_reducible first | exact HB.out | apply below_alloc | apply pw_below_drewN | apply below_drew1 | refine below_set ?_ GE713.out | refine below_set ?_ GE739.out) | exact HB.out))⟩)
                  rintro ⟨v734, gb739⟩ w51 ⟨hS_, h0_, h1_, h2_, h3_, h4_, h5_, h6_, h7_⟩
                  have n0_ : Aside0 (Kd.R k66 66 w51 w.heap.size (fun k_ => k_ ≠ gb713 ∧ k_ ≠ gb739) v734 t733) := ⟨h0_⟩
                  have n1_ : Aside0 (w51.heap[gb713]? = some (.cells #[.int .i64 t710, .int .i64 t711] 66 (0, 0))) := ⟨h1_⟩
                  have n2_ : Aside0 (w51.heap[gb739]? = some (.cells #[.int .i64 0, .int .i64 0] 66 (0, 0))) := ⟨h2_⟩
                  have n3_ : Aside0 (w.heap.size ≤ gb739) := ⟨h3_⟩
                  have n4_ : Aside0 (w.heap.size ≤ gb739) := ⟨h4_⟩
                  have n5_ : Aside0 (gb713 ≠ gb739) := ⟨h5_⟩
                  have n6_ : Aside0 (gb739 ≠ gb713) := ⟨h6_⟩
                  have n7_ : Aside0 (Below w.heap.size w w51) := ⟨h7_⟩
                  clear BK713
                  clear HB
                  clear h0_ h1_ h2_ h3_ h4_ h5_ h6_ h7_
                  have HO735 := n0_
                  have BK713 := n1_
                  have BK739 := n2_
                  have GW739 := n3_
                  have GE739 := n4_
                  have NB713_739 := n5_
                  have NB739_713 := n6_
                  have HB := n7_
                  clear n0_ n1_ n2_ n3_ n4_ n5_ n6_ n7_
                  have hHeld : w51.cell? ⟨gb713, 0, none⟩ = some (.int .i64 t710) ∧ w51.cell? ⟨gb713, 1, none⟩ = some (.int .i64 t711) := hS_
                  refine norm_ (a' := ?_) ?_ ?_
                  rotate_left
                  · simp only [putAll, Act.put, List.setIfInBounds_toArray, List.set_cons_zero, List.set_cons_succ]
                    rfl
                  refine one_ (i := 16) (N := none) #[true, true, true, true, true, true, true, true, true, true, true, true, true, true, true, true, true, false] rfl rfl (one_of HT_.out (by kernel_rfl)) (by decide) (fun K hK => ?_)
                  have hs52 : w51.cell? ⟨gb739, 0, none⟩ = some (.int .i64 0) := (blk_cell BK739.out 0).trans rfl
                  have hfs52 := blk_frozen BK739.out 0
                  have hns52_0 := NB713_739.out
                  have hms52_0 := NB739_713.out
                  have hs53 : w51.cell? ⟨gb739, 1, none⟩ = some (.int .i64 0) := (blk_cell BK739.out 1).trans rfl
                  have hfs53 := blk_frozen BK739.out 1
                  have hns53_0 := NB713_739.out
                  have hms53_0 := NB739_713.out
                  refine skip_ (w1 := ?_) (by rfl) rfl ?_ ?_
                  rotate_left
                  · go_simp
                    rfl
                  refine hK.out _ _ ⟨((cell_far (p := ⟨gb739, _, none⟩) NB713_739.out _).trans (((cell_far (p := ⟨gb739, _, none⟩) NB713_739.out _).trans (hHeld.1)))), ((cell_far (p := ⟨gb739, _, none⟩) NB713_739.out _).trans (((cell_far (p := ⟨gb739, _, none⟩) NB713_739.out _).trans (hHeld.2))))⟩ (fun hHeld => ?_)
                  clear hK K
                  refine pure_ (i := 17) (N := some 13) (v := ?_) (a' := ?_) #[true, true, true, true, true, true, true, true, true, true, true, true, true, true, true, true, true, true] rfl rfl (any_of HT_.out (by kernel_rfl)) (fun _ _ _ h => h) (Or.inl ⟨by rfl, ?_⟩) ?_ ?_
                  rotate_left
                  · intro w'
                    go_simp
                    with_reducible rfl
                  rotate_left
                  · simp only [Act.put, List.setIfInBounds_toArray, List.set_cons_zero, List.set_cons_succ, i64_w, i32_w]
                    rfl
                  refine done_ (done_of HT_.out (by kernel_rfl)) ?_
                  have hnb54 := NB713_739.out
                  have hnc54 := NB739_713.out
                  have hcz55_0 : w51.cell? ⟨gb713, 0, none⟩ = some (.int .i64 t710) := (blk_cell BK713.out 0).trans rfl
                  have hcz55_1 : w51.cell? ⟨gb713, 1, none⟩ = some (.int .i64 t711) := (blk_cell BK713.out 1).trans rfl
                  have hfz55_0 := blk_frozen BK713.out 0
                  have hfz55_1 := blk_frozen BK713.out 1
                  try go_wp2_with (first | (go_at_call 30; (with_reducible refine (weirkeeperlaw05_awake.calls kj11 _ A45.out).mono ?_); rintro e w56 ⟨rfl, hb⟩; have n0_ := Aside0.mk (Kd.R_below (by (with_reducible repeat (first | apply Kd.R_alloc | apply Kd.R_drewN | apply Kd.R_drew)); exact (Kd.R_mono (Kd.R_far (p := ⟨gb739, 1, none⟩) (Kd.R_far (p := ⟨gb739, 0, none⟩) (Kd.R_mono HO735.out (fun k_ hk => (⟨hk, hk.2⟩ : _ ∧ k_ ≠ gb739))) (fun _ hk => hk.2) (.int .i64 t736)) (fun _ hk => hk.2) (.int .i64 t737)) (fun _ h_ => h_.1))) hb); have n1_ := Aside0.mk (blk_below (g := gb713) (o := .cells #[.int .i64 t710, .int .i64 t711] 66 (0, 0)) (by (with_reducible repeat (first | refine blk_drewN ?_ _ | refine blk_drew ?_ | refine blk_alloc ?_ _)); refine blk_far ?_ NB713_739.out _; (with_reducible repeat (first | refine blk_drewN ?_ _ | refine blk_drew ?_ | refine blk_alloc ?_ _)); refine blk_far ?_ NB713_739.out _; (with_reducible repeat (first | refine blk_drewN ?_ _ | refine blk_drew ?_ | refine blk_alloc ?_ _)); exact BK713.out) hb); have n2_ := Aside0.mk (blk_below (g := gb739) (o := .cells #[.int .i64 t736, .int .i64 t737] 66 (0, 0)) (by (with_reducible repeat (first | refine blk_drewN ?_ _ | refine blk_drew ?_ | refine blk_alloc ?_ _)); refine blk_put (cs := #[.int .i64 t736, .int .i64 0]) ?_ 1 _ rfl; (with_reducible repeat (first | refine blk_drewN ?_ _ | refine blk_drew ?_ | refine blk_alloc ?_ _)); refine blk_put (cs := #[.int .i64 0, .int .i64 0]) ?_ 0 _ rfl; (with_reducible repeat (first | refine blk_drewN ?_ _ | refine blk_drew ?_ | refine blk_alloc ?_ _)); exact BK739.out) hb); have n3_ := Aside0.mk (below_step (by repeat (first | (with_reducible first | exact HB.out | apply below_alloc | apply pw_below_drewN | apply below_drew1 | refine below_set ?_ GE713.out | refine below_set ?_ GE739.out) | exact HB.out)) hb); clear HO735; clear BK713; clear BK739; clear HB; have HO735 := n0_; have BK713 := n1_; have BK739 := n2_; have HB := n3_; clear n0_ n1_ n2_ n3_; (try clear hb); (try clear hb2); (try clear hk); (try clear hi)))
                  go_ret
                  exact ⟨by first | rfl | (simp only [h9_.out]; done) | (have h8_ := h9_.out; simp [h8_]; done) | (simp [errW_none, errW_some] <;> rfl) | (simp [*, errW_none, errW_some] <;> rfl), by repeat (first | (with_reducible first | exact HB.out | apply below_alloc | apply pw_below_drewN | apply below_drew1 | refine below_set ?_ GE713.out | refine below_set ?_ GE739.out) | exact HB.out)⟩
                · rw [if_neg c44] at H
                  have c44b0 : (t710 == a1) = false := beq_eq_false_iff_ne.mpr c44
                  have c44b1 : (t710 != a1) = true := bne_iff_ne.mpr c44
                  by_cases c57 : t738 = 0
                  · rw [if_pos c57] at H
                    have c57b0 : (t738 == 0) = true := beq_iff_eq.mpr c57
                    have c57b1 : (t738 != 0) = false := bne_eq_false_iff_eq.mpr c57
                    clear c57
                    exact absurd H (by simp)
                  · rw [if_neg c57] at H
                    have c57b0 : (t738 == 0) = false := beq_eq_false_iff_ne.mpr c57
                    have c57b1 : (t738 != 0) = true := bne_iff_ne.mpr c57
                    replace H := Option.bind_eq_some_iff.mp H
                    obtain ⟨t741, A580, H⟩ := H
                    replace H : (some t741) = some true := H
                    have A58 := Aside0.mk A580
                    clear A580
                    (have H9_ := Option.some.inj H; first | subst H9_ | (have h9_ := Aside0.mk H9_; clear H9_))
                    try go_wp2
                    have n0_ := Aside0.mk (blk_drew BK713.out)
                    have n1_ := Aside0.mk (below_drew1 HB.out)
                    clear BK713
                    clear HB
                    have BK713 := n0_
                    have HB := n1_
                    clear n0_ n1_
                    refine start_ (n := 18) (S := fun w' => w'.cell? ⟨gb713, 0, none⟩ = some (.int .i64 t710) ∧ w'.cell? ⟨gb713, 1, none⟩ = some (.int .i64 t711)) (ds := []) #[false, false, false, false, false, false, false, false, false, false, false, false, false, false, false, false, false, false] (by kernel_rfl) rfl rfl ⟨(blk_cell BK713.out 0).trans rfl, (blk_cell BK713.out 1).trans rfl⟩ (fun hHeld => ?_); refine with_tabW weirkeeperlaw05_SpaceFits.tab9 weirkeeperlaw05_SpaceFits.bits9 (fun HT_ HW_ => ?_)
                    generalize wc.drew = w59 at BK713 HB hHeld ⊢
                    refine pure_ (i := 0) (N := some 82) (v := ?_) (a' := ?_) #[true, false, false, false, false, false, false, false, false, false, false, false, false, false, false, false, false, false] rfl rfl (any_of HT_.out (by kernel_rfl)) (fun _ _ _ h => h) (Or.inl ⟨by rfl, ?_⟩) ?_ ?_
                    rotate_left
                    · intro w'
                      go_simp
                      with_reducible rfl
                    rotate_left
                    · simp only [Act.put, List.setIfInBounds_toArray, List.set_cons_zero, List.set_cons_succ, i64_w, i32_w]
                      rfl
                    refine pure_ (i := 1) (N := some 83) (v := ?_) (a' := ?_) #[true, true, false, false, false, false, false, false, false, false, false, false, false, false, false, false, false, false] rfl rfl (any_of HT_.out (by kernel_rfl)) (fun _ _ _ h => h) (Or.inl ⟨by rfl, ?_⟩) ?_ ?_
                    rotate_left
                    · intro w'
                      go_simp
                      with_reducible rfl
                    rotate_left
                    · simp only [Act.put, List.setIfInBounds_toArray, List.set_cons_zero, List.set_cons_succ, i64_w, i32_w]
                      rfl
                    refine pure_ (i := 2) (N := some 84) (v := ?_) (a' := ?_) #[true, true, true, false, false, false, false, false, false, false, false, false, false, false, false, false, false, false] rfl rfl (any_of HT_.out (by kernel_rfl)) (fun _ _ _ h => h) (Or.inl ⟨by rfl, ?_⟩) ?_ ?_
                    rotate_left
                    · intro w'
                      go_simp
                      with_reducible rfl
                    rotate_left
                    · simp only [Act.put, List.setIfInBounds_toArray, List.set_cons_zero, List.set_cons_succ, i64_w, i32_w]
                      rfl
                    refine pure_ (i := 4) (N := some 86) (v := ?_) (a' := ?_) #[true, true, true, false, true, false, false, false, false, false, false, false, false, false, false, false, false, false] rfl rfl (any_of HT_.out (by kernel_rfl)) (fun _ _ _ h => h) (Or.inl ⟨by rfl, ?_⟩) ?_ ?_
                    rotate_left
                    · intro w'
                      go_simp
                      with_reducible rfl
                    rotate_left
                    · simp only [Act.put, List.setIfInBounds_toArray, List.set_cons_zero, List.set_cons_succ, i64_w, i32_w]
                      rfl
                    refine pure_ (i := 7) (N := some 89) (v := ?_) (a' := ?_) #[true, true, true, false, true, false, false, true, false, false, false, false, false, false, false, false, false, false] rfl rfl (any_of HT_.out (by kernel_rfl)) (fun _ _ _ h => h) (Or.inl ⟨by rfl, ?_⟩) ?_ ?_
                    rotate_left
                    · intro w'
                      go_simp
                      with_reducible rfl
                    rotate_left
                    · simp only [Act.put, List.setIfInBounds_toArray, List.set_cons_zero, List.set_cons_succ, i64_w, i32_w]
                      rfl
                    refine pure_ (i := 8) (N := some 90) (v := ?_) (a' := ?_) #[true, true, true, false, true, false, false, true, true, false, false, false, false, false, false, false, false, false] rfl rfl (any_of HT_.out (by kernel_rfl)) (fun _ _ _ h => h) (Or.inl ⟨by rfl, ?_⟩) ?_ ?_
                    rotate_left
                    · intro w'
                      go_simp
                      with_reducible rfl
                    rotate_left
                    · simp only [Act.put, List.setIfInBounds_toArray, List.set_cons_zero, List.set_cons_succ, i64_w, i32_w]
                      rfl
                    refine take_ (i := 3) (N := some 85) (v := ?_) (a' := ?_) #[true, true, true, true, true, false, false, true, true, false, false, false, false, false, false, false, false, false] rfl rfl (take_ofW HT_.out HW_.out (by kernel_rfl)) (fun _ _ _ h => h) (Or.inl ⟨by rfl, ?_⟩) hHeld ?_ ?_
                    rotate_left
                    · rintro w' ⟨s0, s1⟩
                      go_simp
                      with_reducible rfl
                    rotate_left
                    · simp only [Act.put, List.setIfInBounds_toArray, List.set_cons_zero, List.set_cons_succ, i64_w, i32_w]
                      rfl
                    refine pure_ (i := 5) (N := some 87) (v := ?_) (a' := ?_) #[true, true, true, true, true, true, false, true, true, false, false, false, false, false, false, false, false, false] rfl rfl (any_of HT_.out (by kernel_rfl)) (fun _ _ _ h => h) (Or.inl ⟨by rfl, ?_⟩) ?_ ?_
                    rotate_left
                    · intro w'
                      go_simp
                      with_reducible rfl
                    rotate_left
                    · simp only [Act.put, List.setIfInBounds_toArray, List.set_cons_zero, List.set_cons_succ, i64_w, i32_w]
                      rfl
                    refine pure_ (i := 6) (N := some 88) (v := ?_) (a' := ?_) #[true, true, true, true, true, true, true, true, true, false, false, false, false, false, false, false, false, false] rfl rfl (any_of HT_.out (by kernel_rfl)) (fun _ _ _ h => h) (Or.inl ⟨by rfl, ?_⟩) ?_ ?_
                    rotate_left
                    · intro w'
                      go_simp
                      with_reducible rfl
                    rotate_left
                    · simp only [Act.put, List.setIfInBounds_toArray, List.set_cons_zero, List.set_cons_succ, i64_w, i32_w]
                      rfl
                    refine take_ (i := 9) (N := some 91) (v := ?_) (a' := ?_) #[true, true, true, true, true, true, true, true, true, true, false, false, false, false, false, false, false, false] rfl rfl (take_ofW HT_.out HW_.out (by kernel_rfl)) (fun _ _ _ h => h) (Or.inl ⟨by rfl, ?_⟩) hHeld ?_ ?_
                    rotate_left
                    · rintro w' ⟨s0, s1⟩
                      go_simp
                      with_reducible rfl
                    rotate_left
                    · simp only [Act.put, List.setIfInBounds_toArray, List.set_cons_zero, List.set_cons_succ, i64_w, i32_w]
                      rfl
                    refine join_ (σ := Value × Nat) 2 #[true, true, true, true, true, true, true, true, true, true, true, true, true, true, true, true, false, false] (fun s_ => [(92, s_.1), (93, .tuple #[.agg #[.int .i64 t736, .int .i64 t737], .int .i64 t738]), (12, .pointer (some ⟨s_.2, 0, none⟩)), (81, .tuple #[.agg #[.int .i64 t736, .int .i64 t737], .int .i64 t738]), (94, .agg #[.int .i64 t736, .int .i64 t737]), (95, .int .i64 t738)]) (fun s_ w' => (w'.cell? ⟨gb713, 0, none⟩ = some (.int .i64 t710) ∧ w'.cell? ⟨gb713, 1, none⟩ = some (.int .i64 t711)) ∧ (Kd.R k66 66 w' w.heap.size (fun k_ => k_ ≠ gb713 ∧ k_ ≠ s_.2) s_.1 t733) ∧ (w'.heap[gb713]? = some (.cells #[.int .i64 t710, .int .i64 t711] 66 (0, 0))) ∧ (w'.heap[s_.2]? = some (.cells #[.int .i64 0, .int .i64 0] 66 (0, 0))) ∧ (w.heap.size ≤ s_.2) ∧ (w.heap.size ≤ s_.2) ∧ (gb713 ≠ s_.2) ∧ (s_.2 ≠ gb713) ∧ (Below w.heap.size w w')) ?_ ?_
                    rotate_left
                    · intro hCont
                      refine two_ (i := 10) (j := 15) (Ni := some 92) (Nj := some 12) #[true, true, true, true, true, true, true, true, true, true, true, false, false, false, false, false, false, false] #[true, true, true, true, true, true, true, true, true, true, false, false, false, false, false, true, false, false] rfl rfl rfl rfl (two_of HT_.out (by kernel_rfl)) (by decide) (by decide) (fun K hK => ?_) (fun K hK => ?_)
                      · skip
                        refine goes_ Try.func40 (by kernel_rfl) rfl #[.slice A3 l3.length c3, .int .i64 t710] (by rfl) rfl rfl (by (try simp only [List.map_toArray, List.map_cons, List.map_nil]); first | done | rfl | (simp only [List.length_drop, List.length_take]; rfl)) ?_
                        with_reducible refine (weirkeeperlaw05_before.calls kj11 _ _ l3 t710 t733 _ ?side1 ?side2 A42.out).mono ?_
                        (case side1 => repeat (first | exact (Kd.C_below HR3.out HB.out) | (with_reducible refine Kd.C_alloc ?_ _) | (with_reducible refine Kd.C_drewN ?_ _) | (with_reducible refine Kd.C_drew ?_)))
                        (case side2 => exact HC3.out)
                        rintro e w60 ⟨v734, rfl, ho0, hb⟩
                        refine ⟨_, rfl, ?_⟩
                        have n0_ := Aside0.mk (Kd.R_lower (Kd.R_newB ho0 (g := gb713) (o := .cells #[.int .i64 t710, .int .i64 t711] 66 (0, 0)) (by (with_reducible repeat (first | refine blk_drewN ?_ _ | refine blk_drew ?_ | refine blk_alloc ?_ _)); exact BK713.out)) (below_size (by repeat (first | (with_reducible first | exact HB.out | apply below_alloc | apply pw_below_drewN | apply below_drew1 | refine below_set ?_ GE713.out) | exact HB.out))))
                        have n1_ := Aside0.mk (blk_below (g := gb713) (o := .cells #[.int .i64 t710, .int .i64 t711] 66 (0, 0)) (by (with_reducible repeat (first | refine blk_drewN ?_ _ | refine blk_drew ?_ | refine blk_alloc ?_ _)); exact BK713.out) hb)
                        have n2_ := Aside0.mk (below_step (by repeat (first | (with_reducible first | exact HB.out | apply below_alloc | apply pw_below_drewN | apply below_drew1 | refine below_set ?_ GE713.out) | exact HB.out)) hb)
                        clear BK713
                        clear HB
                        have HO735 := n0_
                        have BK713 := n1_
                        have HB := n2_
                        clear n0_ n1_ n2_
                        (try clear hb)
                        (try clear hb2)
                        (try clear hk)
                        (try clear hi)
                        (try clear ho0)
                        obtain ⟨Ao61, co61, eo61⟩ := Kd.R_slice HO735.out
                        (first | subst eo61 | (injection eo61 with f1_ f2_ f3_; have f4_ := f1_.symm; have f5_ := f3_.symm; clear f1_ f2_ f3_; subst f4_; subst f5_))
                        refine hK.out _ _ ⟨(blk_cell BK713.out 0).trans rfl, (blk_cell BK713.out 1).trans rfl⟩ (fun hHeld => ?_)
                        clear hK K
                        refine norm_ (a' := ?_) ?_ ?_
                        rotate_left
                        · show Act.put _ (some 92) _ = _
                          simp only [Act.put, List.setIfInBounds_toArray, List.set_cons_zero, List.set_cons_succ, i64_w, i32_w]
                          rfl
                        refine two_ (i := 11) (j := 15) (Ni := some 93) (Nj := some 12) #[true, true, true, true, true, true, true, true, true, true, true, true, false, false, false, false, false, false] #[true, true, true, true, true, true, true, true, true, true, true, false, false, false, false, true, false, false] rfl rfl rfl rfl (two_of HT_.out (by kernel_rfl)) (by decide) (by decide) (fun K hK => ?_) (fun K hK => ?_)
                        · skip
                          refine goes_ Try.func32 (by kernel_rfl) rfl #[.int .i64 a0, .int .i64 a1, .int .i64 (wrap64 ((wrap64 (t710 + a0)) - 1)), .slice Ao61 t733.length co61] (by rfl) rfl rfl (by (try simp only [List.map_toArray, List.map_cons, List.map_nil]); first | done | rfl | (simp only [List.length_drop, List.length_take]; rfl)) ?_
                          with_reducible refine (space_Fit.calls kj11 a0 a1 (wrap64 ((wrap64 (t710 + a0)) - 1)) _ _ t733 t736 t737 t738 _ ?side1 ?side2 A43.out).mono ?_
                          (case side1 => repeat (first | exact (Kd.R_reads' HO735.out).2.2 | (with_reducible refine Kd.C_alloc ?_ _) | (with_reducible refine Kd.C_drewN ?_ _) | (with_reducible refine Kd.C_drew ?_)))
                          (case side2 => exact (Kd.R_reads' HO735.out).2.1)
                          rintro e w62 ⟨rfl, hb⟩
                          refine ⟨_, rfl, ?_⟩
                          have n0_ := Aside0.mk (Kd.R_below (by (with_reducible repeat (first | apply Kd.R_alloc | apply Kd.R_drewN | apply Kd.R_drew)); exact HO735.out) hb)
                          have n1_ := Aside0.mk (blk_below (g := gb713) (o := .cells #[.int .i64 t710, .int .i64 t711] 66 (0, 0)) (by (with_reducible repeat (first | refine blk_drewN ?_ _ | refine blk_drew ?_ | refine blk_alloc ?_ _)); exact BK713.out) hb)
                          have n2_ := Aside0.mk (below_step (by repeat (first | (with_reducible first | exact HB.out | apply below_alloc | apply pw_below_drewN | apply below_drew1 | refine below_set ?_ GE713.out) | exact HB.out)) hb)
                          clear HO735
                          clear BK713
                          clear HB
                          have HO735 := n0_
                          have BK713 := n1_
                          have HB := n2_
                          clear n0_ n1_ n2_
                          (try clear hb)
                          (try clear hb2)
                          (try clear hk)
                          (try clear hi)
                          refine hK.out _ _ ⟨(blk_cell BK713.out 0).trans rfl, (blk_cell BK713.out 1).trans rfl⟩ (fun hHeld => ?_)
                          clear hK K
                          refine norm_ (a' := ?_) ?_ ?_
                          rotate_left
                          · show Act.put _ (some 93) _ = _
                            simp only [Act.put, List.setIfInBounds_toArray, List.set_cons_zero, List.set_cons_succ, i64_w, i32_w]
                            rfl
                          refine pure_ (i := 12) (N := some 81) (v := ?_) (a' := ?_) #[true, true, true, true, true, true, true, true, true, true, true, true, true, false, false, false, false, false] rfl rfl (any_of HT_.out (by kernel_rfl)) (fun _ _ _ h => h) (Or.inl ⟨by rfl, ?_⟩) ?_ ?_
                          rotate_left
                          · intro w'
                            go_simp
                            with_reducible rfl
                          rotate_left
                          · simp only [Act.put, List.setIfInBounds_toArray, List.set_cons_zero, List.set_cons_succ, i64_w, i32_w]
                            rfl
                          refine pure_ (i := 13) (N := some 94) (v := ?_) (a' := ?_) #[true, true, true, true, true, true, true, true, true, true, true, true, true, true, false, false, false, false] rfl rfl (any_of HT_.out (by kernel_rfl)) (fun _ _ _ h => h) (Or.inl ⟨by rfl, ?_⟩) ?_ ?_
                          rotate_left
                          · intro w'
                            go_simp
                            with_reducible rfl
                          rotate_left
                          · simp only [Act.put, List.setIfInBounds_toArray, List.set_cons_zero, List.set_cons_succ, i64_w, i32_w]
                            rfl
                          refine pure_ (i := 14) (N := some 95) (v := ?_) (a' := ?_) #[true, true, true, true, true, true, true, true, true, true, true, true, true, true, true, false, false, false] rfl rfl (any_of HT_.out (by kernel_rfl)) (fun _ _ _ h => h) (Or.inl ⟨by rfl, ?_⟩) ?_ ?_
                          rotate_left
                          · intro w'
                            go_simp
                            with_reducible rfl
                          rotate_left
                          · simp only [Act.put, List.setIfInBounds_toArray, List.set_cons_zero, List.set_cons_succ, i64_w, i32_w]
                            rfl
                          refine one_ (i := 15) (N := some 12) #[true, true, true, true, true, true, true, true, true, true, true, true, true, true, true, true, false, false] rfl rfl (one_of HT_.out (by kernel_rfl)) (by decide) (fun K hK => ?_)
                          refine box_step ?hg (N := 12) ?hd (cs := #[.int .i64 0, .int .i64 0]) (t := 66) ?hr ?_; (case hd => rfl); (case hg => rfl); (case hr => first | (go_simp; done) | (go_simp; rfl))
                          intro gb739 hg w63 hbox hb
                          have n0_ := Aside0.mk (Kd.R_below (Kd.R_elderB (by (with_reducible repeat (first | apply Kd.R_alloc | apply Kd.R_drewN | apply Kd.R_drew)); exact HO735.out) gb739 (Nat.le_of_eq hg.symm)) hb)
                          have n1_ := Aside0.mk (blk_below (g := gb713) (o := .cells #[.int .i64 t710, .int .i64 t711] 66 (0, 0)) (by (with_reducible repeat (first | refine blk_drewN ?_ _ | refine blk_drew ?_ | refine blk_alloc ?_ _)); exact BK713.out) hb)
                          have n2_ := Aside0.mk (below_step (by repeat (first | (with_reducible first | exact HB.out | apply below_alloc | apply pw_below_drewN | apply below_drew1 | refine below_set ?_ GE713.out) | exact HB.out)) hb)
                          have n3_ := Aside0.mk (hbox)
                          have n4_ := Aside0.mk ((by rw [hg]; exact (below_size (by repeat (first | (with_reducible first | exact HB.out | apply below_alloc | apply pw_below_drewN | apply below_drew1 | refine below_set ?_ GE713.out) | exact HB.out))) : w.heap.size ≤ gb739))
                          have n5_ := Aside0.mk ((by rw [hg]; exact (below_size (by repeat (first | (with_reducible first | exact HB.out | apply below_alloc | apply pw_below_drewN | apply below_drew1 | refine below_set ?_ GE713.out) | exact HB.out))) : w.heap.size ≤ gb739))
                          have n6_ := Aside0.mk ((by rw [hg]; exact Nat.ne_of_lt (blk_lt (g := gb713) (o := .cells #[.int .i64 t710, .int .i64 t711] 66 (0, 0)) (by (with_reducible repeat (first | refine blk_drewN ?_ _ | refine blk_drew ?_ | refine blk_alloc ?_ _)); exact BK713.out)) : gb713 ≠ gb739))
                          have n7_ := Aside0.mk ((by rw [hg]; exact Nat.ne_of_gt (blk_lt (g := gb713) (o := .cells #[.int .i64 t710, .int .i64 t711] 66 (0, 0)) (by (with_reducible repeat (first | refine blk_drewN ?_ _ | refine blk_drew ?_ | refine blk_alloc ?_ _)); exact BK713.out)) : gb739 ≠ gb713))
                          clear HO735
                          clear BK713
                          clear HB
                          have HO735 := n0_
                          have BK713 := n1_
                          have HB := n2_
                          have BK739 := n3_
                          have GW739 := n4_
                          have GE739 := n5_
                          have NB713_739 := n6_
                          have NB739_713 := n7_
                          clear n0_ n1_ n2_ n3_ n4_ n5_ n6_ n7_
                          clear hb hbox hg
                          refine hK.out _ _ ⟨(blk_cell BK713.out 0).trans rfl, (blk_cell BK713.out 1).trans rfl⟩ (fun hHeld => ?_)
                          clear hK K
                          refine norm_ (a' := ?_) ?_ ?_
                          rotate_left
                          · show Act.put _ (some 12) _ = _
                            simp only [Act.put, List.setIfInBounds_toArray, List.set_cons_zero, List.set_cons_succ, i64_w, i32_w]
                            rfl
                          exact norm_ (by simp only [putAll, Act.put, List.setIfInBounds_toArray, List.set_cons_zero, List.set_cons_succ]) (hCont (.slice Ao61 t733.length co61, gb739) _ ⟨hHeld, (by (with_reducible repeat (first | apply Kd.R_alloc | apply Kd.R_drewN | apply Kd.R_drew)); exact Kd.R_mono HO735.out (fun _ hk => ⟨hk.1.2, hk.2⟩)), (by (with_reducible repeat (first | refine blk_drewN ?_ _ | refine blk_drew ?_ | refine blk_alloc ?_ _)); exact BK713.out), (by (with_reducible repeat (first | refine blk_drewN ?_ _ | refine blk_drew ?_ | refine blk_alloc ?_ _)); exact BK739.out), GW739.out, GE739.out, NB713_739.out, NB739_713.out, (by repeat (first | (with_reducible first | exact HB.out | apply below_alloc | apply pw_below_drewN | apply below_drew1 | refine below_set ?_ GE713.out | refine below_set ?_ GE739.out) | exact HB.out))⟩)
                        · skip
                          refine box_step ?hg (N := 12) ?hd (cs := #[.int .i64 0, .int .i64 0]) (t := 66) ?hr ?_; (case hd => rfl); (case hg => rfl); (case hr => first | (go_simp; done) | (go_simp; rfl))
                          intro gb739 hg w61 hbox hb
                          have n0_ := Aside0.mk (Kd.R_below (Kd.R_elderB (by (with_reducible repeat (first | apply Kd.R_alloc | apply Kd.R_drewN | apply Kd.R_drew)); exact HO735.out) gb739 (Nat.le_of_eq hg.symm)) hb)
                          have n1_ := Aside0.mk (blk_below (g := gb713) (o := .cells #[.int .i64 t710, .int .i64 t711] 66 (0, 0)) (by (with_reducible repeat (first | refine blk_drewN ?_ _ | refine blk_drew ?_ | refine blk_alloc ?_ _)); exact BK713.out) hb)
                          have n2_ := Aside0.mk (below_step (by repeat (first | (with_reducible first | exact HB.out | apply below_alloc | apply pw_below_drewN | apply below_drew1 | refine below_set ?_ GE713.out) | exact HB.out)) hb)
                          have n3_ := Aside0.mk (hbox)
                          have n4_ := Aside0.mk ((by rw [hg]; exact (below_size (by repeat (first | (with_reducible first | exact HB.out | apply below_alloc | apply pw_below_drewN | apply below_drew1 | refine below_set ?_ GE713.out) | exact HB.out))) : w.heap.size ≤ gb739))
                          have n5_ := Aside0.mk ((by rw [hg]; exact (below_size (by repeat (first | (with_reducible first | exact HB.out | apply below_alloc | apply pw_below_drewN | apply below_drew1 | refine below_set ?_ GE713.out) | exact HB.out))) : w.heap.size ≤ gb739))
                          have n6_ := Aside0.mk ((by rw [hg]; exact Nat.ne_of_lt (blk_lt (g := gb713) (o := .cells #[.int .i64 t710, .int .i64 t711] 66 (0, 0)) (by (with_reducible repeat (first | refine blk_drewN ?_ _ | refine blk_drew ?_ | refine blk_alloc ?_ _)); exact BK713.out)) : gb713 ≠ gb739))
                          have n7_ := Aside0.mk ((by rw [hg]; exact Nat.ne_of_gt (blk_lt (g := gb713) (o := .cells #[.int .i64 t710, .int .i64 t711] 66 (0, 0)) (by (with_reducible repeat (first | refine blk_drewN ?_ _ | refine blk_drew ?_ | refine blk_alloc ?_ _)); exact BK713.out)) : gb739 ≠ gb713))
                          clear HO735
                          clear BK713
                          clear HB
                          have HO735 := n0_
                          have BK713 := n1_
                          have HB := n2_
                          have BK739 := n3_
                          have GW739 := n4_
                          have GE739 := n5_
                          have NB713_739 := n6_
                          have NB739_713 := n7_
                          clear n0_ n1_ n2_ n3_ n4_ n5_ n6_ n7_
                          clear hb hbox hg
                          obtain ⟨Ao62, co62, eo62⟩ := Kd.R_slice HO735.out
                          (first | subst eo62 | (injection eo62 with f1_ f2_ f3_; have f4_ := f1_.symm; have f5_ := f3_.symm; clear f1_ f2_ f3_; subst f4_; subst f5_))
                          refine hK.out _ _ ⟨(blk_cell BK713.out 0).trans rfl, (blk_cell BK713.out 1).trans rfl⟩ (fun hHeld => ?_)
                          clear hK K
                          refine norm_ (a' := ?_) ?_ ?_
                          rotate_left
                          · show Act.put _ (some 12) _ = _
                            simp only [Act.put, List.setIfInBounds_toArray, List.set_cons_zero, List.set_cons_succ, i64_w, i32_w]
                            rfl
                          refine one_ (i := 11) (N := some 93) #[true, true, true, true, true, true, true, true, true, true, true, true, false, false, false, true, false, false] rfl rfl (one_of HT_.out (by kernel_rfl)) (by decide) (fun K hK => ?_)
                          refine goes_ Try.func32 (by kernel_rfl) rfl #[.int .i64 a0, .int .i64 a1, .int .i64 (wrap64 ((wrap64 (t710 + a0)) - 1)), .slice Ao62 t733.length co62] (by rfl) rfl rfl (by (try simp only [List.map_toArray, List.map_cons, List.map_nil]); first | done | rfl | (simp only [List.length_drop, List.length_take]; rfl)) ?_
                          with_reducible refine (space_Fit.calls kj11 a0 a1 (wrap64 ((wrap64 (t710 + a0)) - 1)) _ _ t733 t736 t737 t738 _ ?side1 ?side2 A43.out).mono ?_
                          (case side1 => repeat (first | exact (Kd.R_reads' HO735.out).2.2 | (with_reducible refine Kd.C_alloc ?_ _) | (with_reducible refine Kd.C_drewN ?_ _) | (with_reducible refine Kd.C_drew ?_)))
                          (case side2 => exact (Kd.R_reads' HO735.out).2.1)
                          rintro e w63 ⟨rfl, hb⟩
                          refine ⟨_, rfl, ?_⟩
                          have n0_ := Aside0.mk (Kd.R_below (by (with_reducible repeat (first | apply Kd.R_alloc | apply Kd.R_drewN | apply Kd.R_drew)); exact HO735.out) hb)
                          have n1_ := Aside0.mk (blk_below (g := gb713) (o := .cells #[.int .i64 t710, .int .i64 t711] 66 (0, 0)) (by (with_reducible repeat (first | refine blk_drewN ?_ _ | refine blk_drew ?_ | refine blk_alloc ?_ _)); exact BK713.out) hb)
                          have n2_ := Aside0.mk (blk_below (g := gb739) (o := .cells #[.int .i64 0, .int .i64 0] 66 (0, 0)) (by (with_reducible repeat (first | refine blk_drewN ?_ _ | refine blk_drew ?_ | refine blk_alloc ?_ _)); exact BK739.out) hb)
                          have n3_ := Aside0.mk (below_step (by repeat (first | (with_reducible first | exact HB.out | apply below_alloc | apply pw_below_drewN | apply below_drew1 | refine below_set ?_ GE713.out | refine below_set ?_ GE739.out) | exact HB.out)) hb)
                          clear HO735
                          clear BK713
                          clear BK739
                          clear HB
                          have HO735 := n0_
                          have BK713 := n1_
                          have BK739 := n2_
                          have HB := n3_
                          clear n0_ n1_ n2_ n3_
                          (try clear hb)
                          (try clear hb2)
                          (try clear hk)
                          (try clear hi)
                          refine hK.out _ _ ⟨(blk_cell BK713.out 0).trans rfl, (blk_cell BK713.out 1).trans rfl⟩ (fun hHeld => ?_)
                          clear hK K
                          refine norm_ (a' := ?_) ?_ ?_
                          rotate_left
                          · show Act.put _ (some 93) _ = _
                            simp only [Act.put, List.setIfInBounds_toArray, List.set_cons_zero, List.set_cons_succ, i64_w, i32_w]
                            rfl
                          refine pure_ (i := 12) (N := some 81) (v := ?_) (a' := ?_) #[true, true, true, true, true, true, true, true, true, true, true, true, true, false, false, true, false, false] rfl rfl (any_of HT_.out (by kernel_rfl)) (fun _ _ _ h => h) (Or.inl ⟨by rfl, ?_⟩) ?_ ?_
                          rotate_left
                          · intro w'
                            go_simp
                            with_reducible rfl
                          rotate_left
                          · simp only [Act.put, List.setIfInBounds_toArray, List.set_cons_zero, List.set_cons_succ, i64_w, i32_w]
                            rfl
                          refine pure_ (i := 13) (N := some 94) (v := ?_) (a' := ?_) #[true, true, true, true, true, true, true, true, true, true, true, true, true, true, false, true, false, false] rfl rfl (any_of HT_.out (by kernel_rfl)) (fun _ _ _ h => h) (Or.inl ⟨by rfl, ?_⟩) ?_ ?_
                          rotate_left
                          · intro w'
                            go_simp
                            with_reducible rfl
                          rotate_left
                          · simp only [Act.put, List.setIfInBounds_toArray, List.set_cons_zero, List.set_cons_succ, i64_w, i32_w]
                            rfl
                          refine pure_ (i := 14) (N := some 95) (v := ?_) (a' := ?_) #[true, true, true, true, true, true, true, true, true, true, true, true, true, true, true, true, false, false] rfl rfl (any_of HT_.out (by kernel_rfl)) (fun _ _ _ h => h) (Or.inl ⟨by rfl, ?_⟩) ?_ ?_
                          rotate_left
                          · intro w'
                            go_simp
                            with_reducible rfl
                          rotate_left
                          · simp only [Act.put, List.setIfInBounds_toArray, List.set_cons_zero, List.set_cons_succ, i64_w, i32_w]
                            rfl
                          exact norm_ (by simp only [putAll, Act.put, List.setIfInBounds_toArray, List.set_cons_zero, List.set_cons_succ]) (hCont (.slice Ao62 t733.length co62, gb739) _ ⟨hHeld, (by (with_reducible repeat (first | apply Kd.R_alloc | apply Kd.R_drewN | apply Kd.R_drew)); exact Kd.R_mono HO735.out (fun _ hk => ⟨hk.1.2, hk.2⟩)), (by (with_reducible repeat (first | refine blk_drewN ?_ _ | refine blk_drew ?_ | refine blk_alloc ?_ _)); exact BK713.out), (by (with_reducible repeat (first | refine blk_drewN ?_ _ | refine blk_drew ?_ | refine blk_alloc ?_ _)); exact BK739.out), GW739.out, GE739.out, NB713_739.out, NB739_713.out, (by repeat (first | (with_reducible first | exact HB.out | apply below_alloc | apply pw_below_drewN | apply below_drew1 | refine below_set ?_ GE713.out | refine below_set ?_ GE739.out) | exact HB.out))⟩)
                      · skip
                        refine box_step ?hg (N := 12) ?hd (cs := #[.int .i64 0, .int .i64 0]) (t := 66) ?hr ?_; (case hd => rfl); (case hg => rfl); (case hr => first | (go_simp; done) | (go_simp; rfl))
                        intro gb739 hg w60 hbox hb
                        have n0_ := Aside0.mk (blk_below (g := gb713) (o := .cells #[.int .i64 t710, .int .i64 t711] 66 (0, 0)) (by (with_reducible repeat (first | refine blk_drewN ?_ _ | refine blk_drew ?_ | refine blk_alloc ?_ _)); exact BK713.out) hb)
                        have n1_ := Aside0.mk (below_step (by repeat (first | (with_reducible first | exact HB.out | apply below_alloc | apply pw_below_drewN | apply below_drew1 | refine below_set ?_ GE713.out) | exact HB.out)) hb)
                        have n2_ := Aside0.mk (hbox)
                        have n3_ := Aside0.mk ((by rw [hg]; exact (below_size (by repeat (first | (with_reducible first | exact HB.out | apply below_alloc | apply pw_below_drewN | apply below_drew1 | refine below_set ?_ GE713.out) | exact HB.out))) : w.heap.size ≤ gb739))
                        have n4_ := Aside0.mk ((by rw [hg]; exact (below_size (by repeat (first | (with_reducible first | exact HB.out | apply below_alloc | apply pw_below_drewN | apply below_drew1 | refine below_set ?_ GE713.out) | exact HB.out))) : w.heap.size ≤ gb739))
                        have n5_ := Aside0.mk ((by rw [hg]; exact Nat.ne_of_lt (blk_lt (g := gb713) (o := .cells #[.int .i64 t710, .int .i64 t711] 66 (0, 0)) (by (with_reducible repeat (first | refine blk_drewN ?_ _ | refine blk_drew ?_ | refine blk_alloc ?_ _)); exact BK713.out)) : gb713 ≠ gb739))
                        have n6_ := Aside0.mk ((by rw [hg]; exact Nat.ne_of_gt (blk_lt (g := gb713) (o := .cells #[.int .i64 t710, .int .i64 t711] 66 (0, 0)) (by (with_reducible repeat (first | refine blk_drewN ?_ _ | refine blk_drew ?_ | refine blk_alloc ?_ _)); exact BK713.out)) : gb739 ≠ gb713))
                        clear BK713
                        clear HB
                        have BK713 := n0_
                        have HB := n1_
                        have BK739 := n2_
                        have GW739 := n3_
                        have GE739 := n4_
                        have NB713_739 := n5_
                        have NB739_713 := n6_
                        clear n0_ n1_ n2_ n3_ n4_ n5_ n6_
                        clear hb hbox hg
                        refine hK.out _ _ ⟨(blk_cell BK713.out 0).trans rfl, (blk_cell BK713.out 1).trans rfl⟩ (fun hHeld => ?_)
                        clear hK K
                        refine norm_ (a' := ?_) ?_ ?_
                        rotate_left
                        · show Act.put _ (some 12) _ = _
                          simp only [Act.put, List.setIfInBounds_toArray, List.set_cons_zero, List.set_cons_succ, i64_w, i32_w]
                          rfl
                        refine one_ (i := 10) (N := some 92) #[true, true, true, true, true, true, true, true, true, true, true, false, false, false, false, true, false, false] rfl rfl (one_of HT_.out (by kernel_rfl)) (by decide) (fun K hK => ?_)
                        refine goes_ Try.func40 (by kernel_rfl) rfl #[.slice A3 l3.length c3, .int .i64 t710] (by rfl) rfl rfl (by (try simp only [List.map_toArray, List.map_cons, List.map_nil]); first | done | rfl | (simp only [List.length_drop, List.length_take]; rfl)) ?_
                        with_reducible refine (weirkeeperlaw05_before.calls kj11 _ _ l3 t710 t733 _ ?side1 ?side2 A42.out).mono ?_
                        (case side1 => repeat (first | exact (Kd.C_below HR3.out HB.out) | (with_reducible refine Kd.C_alloc ?_ _) | (with_reducible refine Kd.C_drewN ?_ _) | (with_reducible refine Kd.C_drew ?_)))
                        (case side2 => exact HC3.out)
                        rintro e w61 ⟨v734, rfl, ho0, hb⟩
                        refine ⟨_, rfl, ?_⟩
                        have n0_ := Aside0.mk (Kd.R_lower (Kd.R_newB (Kd.R_newB ho0 (g := gb713) (o := .cells #[.int .i64 t710, .int .i64 t711] 66 (0, 0)) (by (with_reducible repeat (first | refine blk_drewN ?_ _ | refine blk_drew ?_ | refine blk_alloc ?_ _)); exact BK713.out)) (g := gb739) (o := .cells #[.int .i64 0, .int .i64 0] 66 (0, 0)) (by (with_reducible repeat (first | refine blk_drewN ?_ _ | refine blk_drew ?_ | refine blk_alloc ?_ _)); exact BK739.out)) (below_size (by repeat (first | (with_reducible first | exact HB.out | apply below_alloc | apply pw_below_drewN | apply below_drew1 | refine below_set ?_ GE713.out | refine below_set ?_ GE739.out) | exact HB.out))))
                        have n1_ := Aside0.mk (blk_below (g := gb713) (o := .cells #[.int .i64 t710, .int .i64 t711] 66 (0, 0)) (by (with_reducible repeat (first | refine blk_drewN ?_ _ | refine blk_drew ?_ | refine blk_alloc ?_ _)); exact BK713.out) hb)
                        have n2_ := Aside0.mk (blk_below (g := gb739) (o := .cells #[.int .i64 0, .int .i64 0] 66 (0, 0)) (by (with_reducible repeat (first | refine blk_drewN ?_ _ | refine blk_drew ?_ | refine blk_alloc ?_ _)); exact BK739.out) hb)
                        have n3_ := Aside0.mk (below_step (by repeat (first | (with_reducible first | exact HB.out | apply below_alloc | apply pw_below_drewN | apply below_drew1 | refine below_set ?_ GE713.out | refine below_set ?_ GE739.out) | exact HB.out)) hb)
                        clear BK713
                        clear BK739
                        clear HB
                        have HO735 := n0_
                        have BK713 := n1_
                        have BK739 := n2_
                        have HB := n3_
                        clear n0_ n1_ n2_ n3_
                        (try clear hb)
                        (try clear hb2)
                        (try clear hk)
                        (try clear hi)
                        (try clear ho0)
                        obtain ⟨Ao62, co62, eo62⟩ := Kd.R_slice HO735.out
                        (first | subst eo62 | (injection eo62 with f1_ f2_ f3_; have f4_ := f1_.symm; have f5_ := f3_.symm; clear f1_ f2_ f3_; subst f4_; subst f5_))
                        refine hK.out _ _ ⟨(blk_cell BK713.out 0).trans rfl, (blk_cell BK713.out 1).trans rfl⟩ (fun hHeld => ?_)
                        clear hK K
                        refine norm_ (a' := ?_) ?_ ?_
                        rotate_left
                        · show Act.put _ (some 92) _ = _
                          simp only [Act.put, List.setIfInBounds_toArray, List.set_cons_zero, List.set_cons_succ, i64_w, i32_w]
                          rfl
                        refine one_ (i := 11) (N := some 93) #[true, true, true, true, true, true, true, true, true, true, true, true, false, false, false, true, false, false] rfl rfl (one_of HT_.out (by kernel_rfl)) (by decide) (fun K hK => ?_)
                        refine goes_ Try.func32 (by kernel_rfl) rfl #[.int .i64 a0, .int .i64 a1, .int .i64 (wrap64 ((wrap64 (t710 + a0)) - 1)), .slice Ao62 t733.length co62] (by rfl) rfl rfl (by (try simp only [List.map_toArray, List.map_cons, List.map_nil]); first | done | rfl | (simp only [List.length_drop, List.length_take]; rfl)) ?_
                        with_reducible refine (space_Fit.calls kj11 a0 a1 (wrap64 ((wrap64 (t710 + a0)) - 1)) _ _ t733 t736 t737 t738 _ ?side1 ?side2 A43.out).mono ?_
                        (case side1 => repeat (first | exact (Kd.R_reads' HO735.out).2.2 | (with_reducible refine Kd.C_alloc ?_ _) | (with_reducible refine Kd.C_drewN ?_ _) | (with_reducible refine Kd.C_drew ?_)))
                        (case side2 => exact (Kd.R_reads' HO735.out).2.1)
                        rintro e w63 ⟨rfl, hb⟩
                        refine ⟨_, rfl, ?_⟩
                        have n0_ := Aside0.mk (Kd.R_below (by (with_reducible repeat (first | apply Kd.R_alloc | apply Kd.R_drewN | apply Kd.R_drew)); exact HO735.out) hb)
                        have n1_ := Aside0.mk (blk_below (g := gb713) (o := .cells #[.int .i64 t710, .int .i64 t711] 66 (0, 0)) (by (with_reducible repeat (first | refine blk_drewN ?_ _ | refine blk_drew ?_ | refine blk_alloc ?_ _)); exact BK713.out) hb)
                        have n2_ := Aside0.mk (blk_below (g := gb739) (o := .cells #[.int .i64 0, .int .i64 0] 66 (0, 0)) (by (with_reducible repeat (first | refine blk_drewN ?_ _ | refine blk_drew ?_ | refine blk_alloc ?_ _)); exact BK739.out) hb)
                        have n3_ := Aside0.mk (below_step (by repeat (first | (with_reducible first | exact HB.out | apply below_alloc | apply pw_below_drewN | apply below_drew1 | refine below_set ?_ GE713.out | refine below_set ?_ GE739.out) | exact HB.out)) hb)
                        clear HO735
                        clear BK713
                        clear BK739
                        clear HB
                        have HO735 := n0_
                        have BK713 := n1_
                        have BK739 := n2_
                        have HB := n3_
                        clear n0_ n1_ n2_ n3_
                        (try clear hb)
                        (try clear hb2)
                        (try clear hk)
                        (try clear hi)
                        refine hK.out _ _ ⟨(blk_cell BK713.out 0).trans rfl, (blk_cell BK713.out 1).trans rfl⟩ (fun hHeld => ?_)
                        clear hK K
                        refine norm_ (a' := ?_) ?_ ?_
                        rotate_left
                        · show Act.put _ (some 93) _ = _
                          simp only [Act.put, List.setIfInBounds_toArray, List.set_cons_zero, List.set_cons_succ, i64_w, i32_w]
                          rfl
                        refine pure_ (i := 12) (N := some 81) (v := ?_) (a' := ?_) #[true, true, true, true, true, true, true, true, true, true, true, true, true, false, false, true, false, false] rfl rfl (any_of HT_.out (by kernel_rfl)) (fun _ _ _ h => h) (Or.inl ⟨by rfl, ?_⟩) ?_ ?_
                        rotate_left
                        · intro w'
                          go_simp
                          with_reducible rfl
                        rotate_left
                        · simp only [Act.put, List.setIfInBounds_toArray, List.set_cons_zero, List.set_cons_succ, i64_w, i32_w]
                          rfl
                        refine pure_ (i := 13) (N := some 94) (v := ?_) (a' := ?_) #[true, true, true, true, true, true, true, true, true, true, true, true, true, true, false, true, false, false] rfl rfl (any_of HT_.out (by kernel_rfl)) (fun _ _ _ h => h) (Or.inl ⟨by rfl, ?_⟩) ?_ ?_
                        rotate_left
                        · intro w'
                          go_simp
                          with_reducible rfl
                        rotate_left
                        · simp only [Act.put, List.setIfInBounds_toArray, List.set_cons_zero, List.set_cons_succ, i64_w, i32_w]
                          rfl
                        refine pure_ (i := 14) (N := some 95) (v := ?_) (a' := ?_) #[true, true, true, true, true, true, true, true, true, true, true, true, true, true, true, true, false, false] rfl rfl (any_of HT_.out (by kernel_rfl)) (fun _ _ _ h => h) (Or.inl ⟨by rfl, ?_⟩) ?_ ?_
                        rotate_left
                        · intro w'
                          go_simp
                          with_reducible rfl
                        rotate_left
                        · simp only [Act.put, List.setIfInBounds_toArray, List.set_cons_zero, List.set_cons_succ, i64_w, i32_w]
                          rfl
                        exact norm_ (by simp only [putAll, Act.put, List.setIfInBounds_toArray, List.set_cons_zero, List.set_cons_succ]) (hCont (.slice Ao62 t733.length co62, gb739) _ ⟨hHeld, (by (with_reducible repeat (first | apply Kd.R_alloc | apply Kd.R_drewN | apply Kd.R_drew)); exact Kd.R_mono HO735.out (fun _ hk => ⟨hk.1.2, hk.2⟩)), (by (with_reducible repeat (first | refine blk_drewN ?_ _ | refine blk_drew ?_ | refine blk_alloc ?_ _)); exact BK713.out), (by (with_reducible repeat (first | refine blk_drewN ?_ _ | refine blk_drew ?_ | refine blk_alloc ?_ _)); exact BK739.out), GW739.out, GE739.out, NB713_739.out, NB739_713.out, (by repeat (first | (with_reducible first | exact HB.out | apply below_alloc | apply pw_below_drewN | apply below_drew1 | refine below_set ?_ GE713.out | refine below_set ?_ GE739.out) | exact HB.out))⟩)
                    rintro ⟨v734, gb739⟩ w64 ⟨hS_, h0_, h1_, h2_, h3_, h4_, h5_, h6_, h7_⟩
                    have n0_ : Aside0 (Kd.R k66 66 w64 w.heap.size (fun k_ => k_ ≠ gb713 ∧ k_ ≠ gb739) v734 t733) := ⟨h0_⟩
                    have n1_ : Aside0 (w64.heap[gb713]? = some (.cells #[.int .i64 t710, .int .i64 t711] 66 (0, 0))) := ⟨h1_⟩
                    have n2_ : Aside0 (w64.heap[gb739]? = some (.cells #[.int .i64 0, .int .i64 0] 66 (0, 0))) := ⟨h2_⟩
                    have n3_ : Aside0 (w.heap.size ≤ gb739) := ⟨h3_⟩
                    have n4_ : Aside0 (w.heap.size ≤ gb739) := ⟨h4_⟩
                    have n5_ : Aside0 (gb713 ≠ gb739) := ⟨h5_⟩
                    have n6_ : Aside0 (gb739 ≠ gb713) := ⟨h6_⟩
                    have n7_ : Aside0 (Below w.heap.size w w64) := ⟨h7_⟩
                    clear BK713
                    clear HB
                    clear h0_ h1_ h2_ h3_ h4_ h5_ h6_ h7_
                    have HO735 := n0_
                    have BK713 := n1_
                    have BK739 := n2_
                    have GW739 := n3_
                    have GE739 := n4_
                    have NB713_739 := n5_
                    have NB739_713 := n6_
                    have HB := n7_
                    clear n0_ n1_ n2_ n3_ n4_ n5_ n6_ n7_
                    have hHeld : w64.cell? ⟨gb713, 0, none⟩ = some (.int .i64 t710) ∧ w64.cell? ⟨gb713, 1, none⟩ = some (.int .i64 t711) := hS_
                    refine norm_ (a' := ?_) ?_ ?_
                    rotate_left
                    · simp only [putAll, Act.put, List.setIfInBounds_toArray, List.set_cons_zero, List.set_cons_succ]
                      rfl
                    refine one_ (i := 16) (N := none) #[true, true, true, true, true, true, true, true, true, true, true, true, true, true, true, true, true, false] rfl rfl (one_of HT_.out (by kernel_rfl)) (by decide) (fun K hK => ?_)
                    have hs65 : w64.cell? ⟨gb739, 0, none⟩ = some (.int .i64 0) := (blk_cell BK739.out 0).trans rfl
                    have hfs65 := blk_frozen BK739.out 0
                    have hns65_0 := NB713_739.out
                    have hms65_0 := NB739_713.out
                    have hs66 : w64.cell? ⟨gb739, 1, none⟩ = some (.int .i64 0) := (blk_cell BK739.out 1).trans rfl
                    have hfs66 := blk_frozen BK739.out 1
                    have hns66_0 := NB713_739.out
                    have hms66_0 := NB739_713.out
                    refine skip_ (w1 := ?_) (by rfl) rfl ?_ ?_
                    rotate_left
                    · go_simp
                      rfl
                    refine hK.out _ _ ⟨((cell_far (p := ⟨gb739, _, none⟩) NB713_739.out _).trans (((cell_far (p := ⟨gb739, _, none⟩) NB713_739.out _).trans (hHeld.1)))), ((cell_far (p := ⟨gb739, _, none⟩) NB713_739.out _).trans (((cell_far (p := ⟨gb739, _, none⟩) NB713_739.out _).trans (hHeld.2))))⟩ (fun hHeld => ?_)
                    clear hK K
                    refine pure_ (i := 17) (N := some 13) (v := ?_) (a' := ?_) #[true, true, true, true, true, true, true, true, true, true, true, true, true, true, true, true, true, true] rfl rfl (any_of HT_.out (by kernel_rfl)) (fun _ _ _ h => h) (Or.inl ⟨by rfl, ?_⟩) ?_ ?_
                    rotate_left
                    · intro w'
                      go_simp
                      with_reducible rfl
                    rotate_left
                    · simp only [Act.put, List.setIfInBounds_toArray, List.set_cons_zero, List.set_cons_succ, i64_w, i32_w]
                      rfl
                    refine done_ (done_of HT_.out (by kernel_rfl)) ?_
                    have hnb67 := NB713_739.out
                    have hnc67 := NB739_713.out
                    have hcz68_0 : w64.cell? ⟨gb713, 0, none⟩ = some (.int .i64 t710) := (blk_cell BK713.out 0).trans rfl
                    have hcz68_1 : w64.cell? ⟨gb713, 1, none⟩ = some (.int .i64 t711) := (blk_cell BK713.out 1).trans rfl
                    have hfz68_0 := blk_frozen BK713.out 0
                    have hfz68_1 := blk_frozen BK713.out 1
                    try go_wp2_with (first | (go_at_call 30; (with_reducible refine (weirkeeperlaw05_awake.calls kj11 _ A58.out).mono ?_); rintro e w69 ⟨rfl, hb⟩; have n0_ := Aside0.mk (Kd.R_below (by (with_reducible repeat (first | apply Kd.R_alloc | apply Kd.R_drewN | apply Kd.R_drew)); exact (Kd.R_mono (Kd.R_far (p := ⟨gb739, 1, none⟩) (Kd.R_far (p := ⟨gb739, 0, none⟩) (Kd.R_mono HO735.out (fun k_ hk => (⟨hk, hk.2⟩ : _ ∧ k_ ≠ gb739))) (fun _ hk => hk.2) (.int .i64 t736)) (fun _ hk => hk.2) (.int .i64 t737)) (fun _ h_ => h_.1))) hb); have n1_ := Aside0.mk (blk_below (g := gb713) (o := .cells #[.int .i64 t710, .int .i64 t711] 66 (0, 0)) (by (with_reducible repeat (first | refine blk_drewN ?_ _ | refine blk_drew ?_ | refine blk_alloc ?_ _)); refine blk_far ?_ NB713_739.out _; (with_reducible repeat (first | refine blk_drewN ?_ _ | refine blk_drew ?_ | refine blk_alloc ?_ _)); refine blk_far ?_ NB713_739.out _; (with_reducible repeat (first | refine blk_drewN ?_ _ | refine blk_drew ?_ | refine blk_alloc ?_ _)); exact BK713.out) hb); have n2_ := Aside0.mk (blk_below (g := gb739) (o := .cells #[.int .i64 t736, .int .i64 t737] 66 (0, 0)) (by (with_reducible repeat (first | refine blk_drewN ?_ _ | refine blk_drew ?_ | refine blk_alloc ?_ _)); refine blk_put (cs := #[.int .i64 t736, .int .i64 0]) ?_ 1 _ rfl; (with_reducible repeat (first | refine blk_drewN ?_ _ | refine blk_drew ?_ | refine blk_alloc ?_ _)); refine blk_put (cs := #[.int .i64 0, .int .i64 0]) ?_ 0 _ rfl; (with_reducible repeat (first | refine blk_drewN ?_ _ | refine blk_drew ?_ | refine blk_alloc ?_ _)); exact BK739.out) hb); have n3_ := Aside0.mk (below_step (by repeat (first | (with_reducible first | exact HB.out | apply below_alloc | apply pw_below_drewN | apply below_drew1 | refine below_set ?_ GE713.out | refine below_set ?_ GE739.out) | exact HB.out)) hb); clear HO735; clear BK713; clear BK739; clear HB; have HO735 := n0_; have BK713 := n1_; have BK739 := n2_; have HB := n3_; clear n0_ n1_ n2_ n3_; (try clear hb); (try clear hb2); (try clear hk); (try clear hi)))
                    go_ret
                    exact ⟨by first | rfl | (simp only [h9_.out]; done) | (have h8_ := h9_.out; simp [h8_]; done) | (simp [errW_none, errW_some] <;> rfl) | (simp [*, errW_none, errW_some] <;> rfl), by repeat (first | (with_reducible first | exact HB.out | apply below_alloc | apply pw_below_drewN | apply below_drew1 | refine below_set ?_ GE713.out | refine below_set ?_ GE739.out) | exact HB.out)⟩
        · rw [if_neg c11] at H
          exact absurd H (by simp)
      · rw [if_neg c10] at H
        exact absurd H (by simp)
    · rw [if_neg c9] at H
      have c9b0 : (t712 == 0) = false := beq_eq_false_iff_ne.mpr c9
      have c9b1 : (t712 != 0) = true := bne_iff_ne.mpr c9
      by_cases c70 : (t710 == 0 && (t711 == 0)) = true
      · rw [if_pos c70] at H
        have c70b0 : (t710 == 0 && (t711 == 0)) = true := c70
        (try (have c70b1 : decide (t710 = 0 && (t711 == 0)) = true := by simpa using c70))
        (try (have c70b2 : (t710 == 0 && (t711 == 0)) = true := by simpa using c70))
        clear c70
        have E_c70 : t710 = 0 ∧ t711 = 0 := by simpa using c70b0
        (try clear c70b0)
        (try clear c70b1)
        (try clear c70b2)
        obtain ⟨e0_, e1_⟩ := E_c70
        (have e0s := e0_.symm; clear e0_; subst e0s)
        (have e1s := e1_.symm; clear e1_; subst e1s)
        replace H := Option.bind_eq_some_iff.mp H
        obtain ⟨t714, A710, H⟩ := H
        replace H : (if t714 = true then (if a0 ≥ 1 then (if ((t712 == 5) == (decide (a0 ≤ 2147483647))) = true then ((weirkeeperlaw05_awake.f k).bind fun t715 => (some t715)) else (some false)) else (if ((t712 == 5) == false) = true then ((weirkeeperlaw05_awake.f k).bind fun t716 => (some t716)) else (some false))) else (if ((t712 == 5) == false) = true then ((weirkeeperlaw05_awake.f k).bind fun t717 => (some t717)) else (some false))) = some true := H
        have A71 := Aside0.mk A710
        clear A710
        by_cases c72 : t714 = true
        · subst c72
          have H1 : (if a0 ≥ 1 then (if ((t712 == 5) == (decide (a0 ≤ 2147483647))) = true then ((weirkeeperlaw05_awake.f k).bind fun t715 => (some t715)) else (some false)) else (if ((t712 == 5) == false) = true then ((weirkeeperlaw05_awake.f k).bind fun t716 => (some t716)) else (some false))) = some true := by rw [if_pos rfl] at H; exact H
          clear H
          have H := H1
          clear H1
          by_cases c73 : a0 ≥ 1
          · rw [if_pos c73] at H
            have c73b0 : decide (1 ≤ a0) = true := decide_eq_true c73
            clear c73
            by_cases c74 : ((t712 == 5) == (decide (a0 ≤ 2147483647))) = true
            · rw [if_pos c74] at H
              have c74b0 : ((t712 == 5) == (decide (a0 ≤ 2147483647))) = true := c74
              (try (have c74b1 : decide ((t712 == 5) = (decide (a0 ≤ 2147483647))) = true := by simpa using c74))
              (try (have c74b2 : ((t712 == 5) == (decide (a0 ≤ 2147483647))) = true := by simpa using c74))
              clear c74
              replace H := Option.bind_eq_some_iff.mp H
              obtain ⟨t715, A750, H⟩ := H
              replace H : (some t715) = some true := H
              have A75 := Aside0.mk A750
              clear A750
              (have H9_ := Option.some.inj H; first | subst H9_ | (have h9_ := Aside0.mk H9_; clear H9_))
              go_enter Try.func9, Try.ntmps9
              go_wp2_with (first | ((with_reducible refine gate_callee (f := 32) rfl ?_); refine goesL_ (some 23) rfl rfl Try.func32 (by kernel_rfl) rfl #[.int .i64 a0, .int .i64 a1, .int .i64 a2, .slice A3 l3.length c3] rfl (by (try simp only [List.map_toArray, List.map_cons, List.map_nil]); first | done | rfl | (simp only [List.length_drop, List.length_take]; rfl)) ?_; (with_reducible refine (space_Fit.calls k a0 a1 a2 _ _ l3 0 0 t712 _ ?side1 ?side2 A8.out).mono ?_); (case side1 => repeat (first | exact HR3.out | (with_reducible refine Kd.C_alloc ?_ _) | (with_reducible refine Kd.C_drewN ?_ _) | (with_reducible refine Kd.C_drew ?_))); (case side2 => exact HC3.out); rintro e w76 ⟨rfl, hb⟩; refine ⟨_, rfl, ?_⟩; have n0_ := Aside0.mk (below_step (by repeat (first | (with_reducible first | exact HB.out | apply below_alloc | apply pw_below_drewN | apply below_drew1) | exact HB.out)) hb); clear HB; have HB := n0_; clear n0_; (try clear hb); (try clear hb2); (try clear hk); (try clear hi)) | ((with_reducible refine gate_dst (N := 9) rfl ?_); refine box_event ?hg (N := 9) ?hd (cs := #[.int .i64 0, .int .i64 0]) (t := 66) ?hr ?_; (case hd => rfl); (case hg => rfl); (case hr => first | (go_simp; done) | (go_simp; rfl)); intro gb713 hg w77 hbox hb; have n0_ := Aside0.mk (below_step (by repeat (first | (with_reducible first | exact HB.out | apply below_alloc | apply pw_below_drewN | apply below_drew1) | exact HB.out)) hb); have n1_ := Aside0.mk (hbox); have n2_ := Aside0.mk ((by rw [hg]; exact (below_size (by repeat (first | (with_reducible first | exact HB.out | apply below_alloc | apply pw_below_drewN | apply below_drew1) | exact HB.out))) : w.heap.size ≤ gb713)); have n3_ := Aside0.mk ((by rw [hg]; exact (below_size (by repeat (first | (with_reducible first | exact HB.out | apply below_alloc | apply pw_below_drewN | apply below_drew1) | exact HB.out))) : w.heap.size ≤ gb713)); clear HB; have HB := n0_; have BK713 := n1_; have GW713 := n2_; have GE713 := n3_; clear n0_ n1_ n2_ n3_; clear hb hbox hg; have hcz78_0 : w77.cell? ⟨gb713, 0, none⟩ = some (.int .i64 0) := (blk_cell BK713.out 0).trans rfl; have hcz78_1 : w77.cell? ⟨gb713, 1, none⟩ = some (.int .i64 0) := (blk_cell BK713.out 1).trans rfl; have hfz78_0 := blk_frozen BK713.out 0; have hfz78_1 := blk_frozen BK713.out 1) | (go_at_call 36; (with_reducible refine (space_Right.calls k a1 a2 _ _ l3 true _ ?side1 ?side2 A71.out).mono ?_); (case side1 => exact Kd.C_below HR3.out (by repeat (first | (with_reducible first | exact HB.out | apply below_alloc | apply pw_below_drewN | apply below_drew1 | refine below_set ?_ GE713.out) | exact HB.out))); (case side2 => exact HC3.out); rintro e w79 ⟨rfl, hb⟩; have n0_ := Aside0.mk (blk_below (g := gb713) (o := .cells #[.int .i64 0, .int .i64 0] 66 (0, 0)) (by (with_reducible repeat (first | refine blk_drewN ?_ _ | refine blk_drew ?_ | refine blk_alloc ?_ _)); refine blk_put (cs := #[.int .i64 0, .int .i64 0]) ?_ 1 _ rfl; (with_reducible repeat (first | refine blk_drewN ?_ _ | refine blk_drew ?_ | refine blk_alloc ?_ _)); refine blk_put (cs := #[.int .i64 0, .int .i64 0]) ?_ 0 _ rfl; (with_reducible repeat (first | refine blk_drewN ?_ _ | refine blk_drew ?_ | refine blk_alloc ?_ _)); exact BK713.out) hb); have n1_ := Aside0.mk (below_step (by repeat (first | (with_reducible first | exact HB.out | apply below_alloc | apply pw_below_drewN | apply below_drew1 | refine below_set ?_ GE713.out) | exact HB.out)) hb); clear BK713; clear HB; have BK713 := n0_; have HB := n1_; clear n0_ n1_; (try clear hb); (try clear hb2); (try clear hk); (try clear hi)) | (go_at_call 30; (with_reducible refine (weirkeeperlaw05_awake.calls k _ A75.out).mono ?_); rintro e w80 ⟨rfl, hb⟩; have n0_ := Aside0.mk (blk_below (g := gb713) (o := .cells #[.int .i64 0, .int .i64 0] 66 (0, 0)) (by (with_reducible repeat (first | refine blk_drewN ?_ _ | refine blk_drew ?_ | refine blk_alloc ?_ _)); exact BK713.out) hb); have n1_ := Aside0.mk (below_step (by repeat (first | (with_reducible first | exact HB.out | apply below_alloc | apply pw_below_drewN | apply below_drew1 | refine below_set ?_ GE713.out) | exact HB.out)) hb); clear BK713; clear HB; have BK713 := n0_; have HB := n1_; clear n0_ n1_; (try clear hb); (try clear hb2); (try clear hk); (try clear hi)))
              go_ret
              exact ⟨by first | rfl | (simp only [h9_.out]; done) | (have h8_ := h9_.out; simp [h8_]; done) | (simp [errW_none, errW_some] <;> rfl) | (simp [*, errW_none, errW_some] <;> rfl), by repeat (first | (with_reducible first | exact HB.out | apply below_alloc | apply pw_below_drewN | apply below_drew1 | refine below_set ?_ GE713.out) | exact HB.out)⟩
            · rw [if_neg c74] at H
              have c74b0 : ((t712 == 5) == (decide (a0 ≤ 2147483647))) = false := by simpa using c74
              (try (have c74b1 : decide ((t712 == 5) = (decide (a0 ≤ 2147483647))) = false := by simpa using c74))
              (try (have c74b2 : ((t712 == 5) == (decide (a0 ≤ 2147483647))) = false := by simpa using c74))
              (try (have c74b3 : ¬ ((t712 == 5) = (decide (a0 ≤ 2147483647))) := by simpa using c74))
              clear c74
              exact absurd H (by simp)
          · rw [if_neg c73] at H
            have c73b0 : decide (1 ≤ a0) = false := decide_eq_false c73
            clear c73
            by_cases c81 : ((t712 == 5) == false) = true
            · rw [if_pos c81] at H
              have c81b0 : ((t712 == 5) == false) = true := c81
              (try (have c81b1 : decide ((t712 == 5) = false) = true := by simpa using c81))
              (try (have c81b2 : ((t712 == 5) == false) = true := by simpa using c81))
              clear c81
              replace H := Option.bind_eq_some_iff.mp H
              obtain ⟨t716, A820, H⟩ := H
              replace H : (some t716) = some true := H
              have A82 := Aside0.mk A820
              clear A820
              (have H9_ := Option.some.inj H; first | subst H9_ | (have h9_ := Aside0.mk H9_; clear H9_))
              go_enter Try.func9, Try.ntmps9
              go_wp2_with (first | ((with_reducible refine gate_callee (f := 32) rfl ?_); refine goesL_ (some 23) rfl rfl Try.func32 (by kernel_rfl) rfl #[.int .i64 a0, .int .i64 a1, .int .i64 a2, .slice A3 l3.length c3] rfl (by (try simp only [List.map_toArray, List.map_cons, List.map_nil]); first | done | rfl | (simp only [List.length_drop, List.length_take]; rfl)) ?_; (with_reducible refine (space_Fit.calls k a0 a1 a2 _ _ l3 0 0 t712 _ ?side1 ?side2 A8.out).mono ?_); (case side1 => repeat (first | exact HR3.out | (with_reducible refine Kd.C_alloc ?_ _) | (with_reducible refine Kd.C_drewN ?_ _) | (with_reducible refine Kd.C_drew ?_))); (case side2 => exact HC3.out); rintro e w83 ⟨rfl, hb⟩; refine ⟨_, rfl, ?_⟩; have n0_ := Aside0.mk (below_step (by repeat (first | (with_reducible first | exact HB.out | apply below_alloc | apply pw_below_drewN | apply below_drew1) | exact HB.out)) hb); clear HB; have HB := n0_; clear n0_; (try clear hb); (try clear hb2); (try clear hk); (try clear hi)) | ((with_reducible refine gate_dst (N := 9) rfl ?_); refine box_event ?hg (N := 9) ?hd (cs := #[.int .i64 0, .int .i64 0]) (t := 66) ?hr ?_; (case hd => rfl); (case hg => rfl); (case hr => first | (go_simp; done) | (go_simp; rfl)); intro gb713 hg w84 hbox hb; have n0_ := Aside0.mk (below_step (by repeat (first | (with_reducible first | exact HB.out | apply below_alloc | apply pw_below_drewN | apply below_drew1) | exact HB.out)) hb); have n1_ := Aside0.mk (hbox); have n2_ := Aside0.mk ((by rw [hg]; exact (below_size (by repeat (first | (with_reducible first | exact HB.out | apply below_alloc | apply pw_below_drewN | apply below_drew1) | exact HB.out))) : w.heap.size ≤ gb713)); have n3_ := Aside0.mk ((by rw [hg]; exact (below_size (by repeat (first | (with_reducible first | exact HB.out | apply below_alloc | apply pw_below_drewN | apply below_drew1) | exact HB.out))) : w.heap.size ≤ gb713)); clear HB; have HB := n0_; have BK713 := n1_; have GW713 := n2_; have GE713 := n3_; clear n0_ n1_ n2_ n3_; clear hb hbox hg; have hcz85_0 : w84.cell? ⟨gb713, 0, none⟩ = some (.int .i64 0) := (blk_cell BK713.out 0).trans rfl; have hcz85_1 : w84.cell? ⟨gb713, 1, none⟩ = some (.int .i64 0) := (blk_cell BK713.out 1).trans rfl; have hfz85_0 := blk_frozen BK713.out 0; have hfz85_1 := blk_frozen BK713.out 1) | (go_at_call 36; (with_reducible refine (space_Right.calls k a1 a2 _ _ l3 true _ ?side1 ?side2 A71.out).mono ?_); (case side1 => exact Kd.C_below HR3.out (by repeat (first | (with_reducible first | exact HB.out | apply below_alloc | apply pw_below_drewN | apply below_drew1 | refine below_set ?_ GE713.out) | exact HB.out))); (case side2 => exact HC3.out); rintro e w86 ⟨rfl, hb⟩; have n0_ := Aside0.mk (blk_below (g := gb713) (o := .cells #[.int .i64 0, .int .i64 0] 66 (0, 0)) (by (with_reducible repeat (first | refine blk_drewN ?_ _ | refine blk_drew ?_ | refine blk_alloc ?_ _)); refine blk_put (cs := #[.int .i64 0, .int .i64 0]) ?_ 1 _ rfl; (with_reducible repeat (first | refine blk_drewN ?_ _ | refine blk_drew ?_ | refine blk_alloc ?_ _)); refine blk_put (cs := #[.int .i64 0, .int .i64 0]) ?_ 0 _ rfl; (with_reducible repeat (first | refine blk_drewN ?_ _ | refine blk_drew ?_ | refine blk_alloc ?_ _)); exact BK713.out) hb); have n1_ := Aside0.mk (below_step (by repeat (first | (with_reducible first | exact HB.out | apply below_alloc | apply pw_below_drewN | apply below_drew1 | refine below_set ?_ GE713.out) | exact HB.out)) hb); clear BK713; clear HB; have BK713 := n0_; have HB := n1_; clear n0_ n1_; (try clear hb); (try clear hb2); (try clear hk); (try clear hi)) | (go_at_call 30; (with_reducible refine (weirkeeperlaw05_awake.calls k _ A82.out).mono ?_); rintro e w87 ⟨rfl, hb⟩; have n0_ := Aside0.mk (blk_below (g := gb713) (o := .cells #[.int .i64 0, .int .i64 0] 66 (0, 0)) (by (with_reducible repeat (first | refine blk_drewN ?_ _ | refine blk_drew ?_ | refine blk_alloc ?_ _)); exact BK713.out) hb); have n1_ := Aside0.mk (below_step (by repeat (first | (with_reducible first | exact HB.out | apply below_alloc | apply pw_below_drewN | apply below_drew1 | refine below_set ?_ GE713.out) | exact HB.out)) hb); clear BK713; clear HB; have BK713 := n0_; have HB := n1_; clear n0_ n1_; (try clear hb); (try clear hb2); (try clear hk); (try clear hi)))
              go_ret
              exact ⟨by first | rfl | (simp only [h9_.out]; done) | (have h8_ := h9_.out; simp [h8_]; done) | (simp [errW_none, errW_some] <;> rfl) | (simp [*, errW_none, errW_some] <;> rfl), by repeat (first | (with_reducible first | exact HB.out | apply below_alloc | apply pw_below_drewN | apply below_drew1 | refine below_set ?_ GE713.out) | exact HB.out)⟩
            · rw [if_neg c81] at H
              have c81b0 : ((t712 == 5) == false) = false := by simpa using c81
              (try (have c81b1 : decide ((t712 == 5) = false) = false := by simpa using c81))
              (try (have c81b2 : ((t712 == 5) == false) = false := by simpa using c81))
              (try (have c81b3 : ¬ ((t712 == 5) = false) := by simpa using c81))
              clear c81
              exact absurd H (by simp)
        · replace c72 := Bool.eq_false_iff.mpr c72
          subst c72
          have H1 : (if ((t712 == 5) == false) = true then ((weirkeeperlaw05_awake.f k).bind fun t717 => (some t717)) else (some false)) = some true := by rw [if_neg (show ¬ (false = true) by decide)] at H; exact H
          clear H
          have H := H1
          clear H1
          by_cases c88 : ((t712 == 5) == false) = true
          · rw [if_pos c88] at H
            have c88b0 : ((t712 == 5) == false) = true := c88
            (try (have c88b1 : decide ((t712 == 5) = false) = true := by simpa using c88))
            (try (have c88b2 : ((t712 == 5) == false) = true := by simpa using c88))
            clear c88
            replace H := Option.bind_eq_some_iff.mp H
            obtain ⟨t717, A890, H⟩ := H
            replace H : (some t717) = some true := H
            have A89 := Aside0.mk A890
            clear A890
            (have H9_ := Option.some.inj H; first | subst H9_ | (have h9_ := Aside0.mk H9_; clear H9_))
            go_enter Try.func9, Try.ntmps9
            go_wp2_with (first | ((with_reducible refine gate_callee (f := 32) rfl ?_); refine goesL_ (some 23) rfl rfl Try.func32 (by kernel_rfl) rfl #[.int .i64 a0, .int .i64 a1, .int .i64 a2, .slice A3 l3.length c3] rfl (by (try simp only [List.map_toArray, List.map_cons, List.map_nil]); first | done | rfl | (simp only [List.length_drop, List.length_take]; rfl)) ?_; (with_reducible refine (space_Fit.calls k a0 a1 a2 _ _ l3 0 0 t712 _ ?side1 ?side2 A8.out).mono ?_); (case side1 => repeat (first | exact HR3.out | (with_reducible refine Kd.C_alloc ?_ _) | (with_reducible refine Kd.C_drewN ?_ _) | (with_reducible refine Kd.C_drew ?_))); (case side2 => exact HC3.out); rintro e w90 ⟨rfl, hb⟩; refine ⟨_, rfl, ?_⟩; have n0_ := Aside0.mk (below_step (by repeat (first | (with_reducible first | exact HB.out | apply below_alloc | apply pw_below_drewN | apply below_drew1) | exact HB.out)) hb); clear HB; have HB := n0_; clear n0_; (try clear hb); (try clear hb2); (try clear hk); (try clear hi)) | ((with_reducible refine gate_dst (N := 9) rfl ?_); refine box_event ?hg (N := 9) ?hd (cs := #[.int .i64 0, .int .i64 0]) (t := 66) ?hr ?_; (case hd => rfl); (case hg => rfl); (case hr => first | (go_simp; done) | (go_simp; rfl)); intro gb713 hg w91 hbox hb; have n0_ := Aside0.mk (below_step (by repeat (first | (with_reducible first | exact HB.out | apply below_alloc | apply pw_below_drewN | apply below_drew1) | exact HB.out)) hb); have n1_ := Aside0.mk (hbox); have n2_ := Aside0.mk ((by rw [hg]; exact (below_size (by repeat (first | (with_reducible first | exact HB.out | apply below_alloc | apply pw_below_drewN | apply below_drew1) | exact HB.out))) : w.heap.size ≤ gb713)); have n3_ := Aside0.mk ((by rw [hg]; exact (below_size (by repeat (first | (with_reducible first | exact HB.out | apply below_alloc | apply pw_below_drewN | apply below_drew1) | exact HB.out))) : w.heap.size ≤ gb713)); clear HB; have HB := n0_; have BK713 := n1_; have GW713 := n2_; have GE713 := n3_; clear n0_ n1_ n2_ n3_; clear hb hbox hg; have hcz92_0 : w91.cell? ⟨gb713, 0, none⟩ = some (.int .i64 0) := (blk_cell BK713.out 0).trans rfl; have hcz92_1 : w91.cell? ⟨gb713, 1, none⟩ = some (.int .i64 0) := (blk_cell BK713.out 1).trans rfl; have hfz92_0 := blk_frozen BK713.out 0; have hfz92_1 := blk_frozen BK713.out 1) | (go_at_call 36; (with_reducible refine (space_Right.calls k a1 a2 _ _ l3 false _ ?side1 ?side2 A71.out).mono ?_); (case side1 => exact Kd.C_below HR3.out (by repeat (first | (with_reducible first | exact HB.out | apply below_alloc | apply pw_below_drewN | apply below_drew1 | refine below_set ?_ GE713.out) | exact HB.out))); (case side2 => exact HC3.out); rintro e w93 ⟨rfl, hb⟩; have n0_ := Aside0.mk (blk_below (g := gb713) (o := .cells #[.int .i64 0, .int .i64 0] 66 (0, 0)) (by (with_reducible repeat (first | refine blk_drewN ?_ _ | refine blk_drew ?_ | refine blk_alloc ?_ _)); refine blk_put (cs := #[.int .i64 0, .int .i64 0]) ?_ 1 _ rfl; (with_reducible repeat (first | refine blk_drewN ?_ _ | refine blk_drew ?_ | refine blk_alloc ?_ _)); refine blk_put (cs := #[.int .i64 0, .int .i64 0]) ?_ 0 _ rfl; (with_reducible repeat (first | refine blk_drewN ?_ _ | refine blk_drew ?_ | refine blk_alloc ?_ _)); exact BK713.out) hb); have n1_ := Aside0.mk (below_step (by repeat (first | (with_reducible first | exact HB.out | apply below_alloc | apply pw_below_drewN | apply below_drew1 | refine below_set ?_ GE713.out) | exact HB.out)) hb); clear BK713; clear HB; have BK713 := n0_; have HB := n1_; clear n0_ n1_; (try clear hb); (try clear hb2); (try clear hk); (try clear hi)) | (go_at_call 30; (with_reducible refine (weirkeeperlaw05_awake.calls k _ A89.out).mono ?_); rintro e w94 ⟨rfl, hb⟩; have n0_ := Aside0.mk (blk_below (g := gb713) (o := .cells #[.int .i64 0, .int .i64 0] 66 (0, 0)) (by (with_reducible repeat (first | refine blk_drewN ?_ _ | refine blk_drew ?_ | refine blk_alloc ?_ _)); exact BK713.out) hb); have n1_ := Aside0.mk (below_step (by repeat (first | (with_reducible first | exact HB.out | apply below_alloc | apply pw_below_drewN | apply below_drew1 | refine below_set ?_ GE713.out) | exact HB.out)) hb); clear BK713; clear HB; have BK713 := n0_; have HB := n1_; clear n0_ n1_; (try clear hb); (try clear hb2); (try clear hk); (try clear hi)))
            go_ret
            exact ⟨by first | rfl | (simp only [h9_.out]; done) | (have h8_ := h9_.out; simp [h8_]; done) | (simp [errW_none, errW_some] <;> rfl) | (simp [*, errW_none, errW_some] <;> rfl), by repeat (first | (with_reducible first | exact HB.out | apply below_alloc | apply pw_below_drewN | apply below_drew1 | refine below_set ?_ GE713.out) | exact HB.out)⟩
          · rw [if_neg c88] at H
            have c88b0 : ((t712 == 5) == false) = false := by simpa using c88
            (try (have c88b1 : decide ((t712 == 5) = false) = false := by simpa using c88))
            (try (have c88b2 : ((t712 == 5) == false) = false := by simpa using c88))
            (try (have c88b3 : ¬ ((t712 == 5) = false) := by simpa using c88))
            clear c88
            exact absurd H (by simp)
      · rw [if_neg c70] at H
        have c70b0 : (t710 == 0 && (t711 == 0)) = false := by simpa using c70
        (try (have c70b1 : decide (t710 = 0 && (t711 == 0)) = false := by simpa using c70))
        (try (have c70b2 : (t710 == 0 && (t711 == 0)) = false := by simpa using c70))
        (try (have c70b3 : ¬ (t710 = 0 && (t711 == 0)) := by simpa using c70))
        clear c70
        exact absurd H (by simp)

end Go.Proofs.Ythcohkgpbjcliaa.F

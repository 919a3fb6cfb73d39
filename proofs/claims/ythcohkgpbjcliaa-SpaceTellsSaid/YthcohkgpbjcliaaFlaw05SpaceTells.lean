/- Contracts of Go functions of the seat Ythcohkgpbjcliaa: what a call comes to; no condition but those that each theorem names. -/
import Derived.Test.YthcohkgpbjcliaaFPre
import Derived.Test.YthcohkgpbjcliaaFspacex0
import Derived.Test.YthcohkgpbjcliaaFspacex1
import Derived.Test.YthcohkgpbjcliaaFlaw05awake
import Derived.Test.YthcohkgpbjcliaaFlaw05refs
import Derived.Test.YthcohkgpbjcliaaFlaw05small
import Derived.Test.YthcohkgpbjcliaaFref05x2
import Derived.Test.YthcohkgpbjcliaaFref05x1
import Derived.Test.YthcohkgpbjcliaaFref05x0
namespace Go.Proofs.Ythcohkgpbjcliaa.F
open Go.RowKit Go.Proofs.YthcohkgpbjcliaaW.PrintWords Go.Proofs.YthcohkgpbjcliaaW.PrintLast Go.Proofs.YthcohkgpbjcliaaW.PrintMore
attribute [local go_sem] max2_int min2_int max_two min_two max_three min_three max_four min_four   -- for this text's walks alone
set_option linter.unusedVariables false
set_option linter.unusedSimpArgs false

attribute [local go_sem] fieldD25_0 fieldD25_1
theorem ite_ok_law05SpaceTells {α} (c : Prop) [Decidable c] (a b : α) (w : World) : (if c then Result.ok a w else Result.ok b w) = Result.ok (if c then a else b) w := by split <;> rfl
theorem ite_ff_law05SpaceTells (a b : Bool) : (if (!a) = true then false else b) = (a && b) := by cases a <;> rfl
theorem ite_fg_law05SpaceTells (a b : Bool) : (if a = false then false else b) = (a && b) := by cases a <;> rfl
attribute [local go_sem] ite_ok_law05SpaceTells ite_ff_law05SpaceTells ite_fg_law05SpaceTells Bool.not_and Bool.and_true
/-! ### weirkeeperlaw05_SpaceTells: function 8 -/
def weirkeeperlaw05_SpaceTells.l0 : Nat → Int → Int → List (S66) → List (S66) → Int → List (S72) → Int → Int → List (S72) → Int → Int → Int → Int → Int → Int → Option (Bool)
  | 0, _, _, _, _, _, _, _, _, _, _, _, _, _, _, _ => none
  | k + 1, x1, x2, x3, x9, x11, x12, x14, x15, x50, x51, x52, x678000, x678001, x691000, x691001 => if x52 < x51 then (if 0 ≤ x52 then (if x52 < (x50.length : Int) then (weirkeeperlaw05_SpaceTells.l0 k x1 x2 x3 x9 x11 x12 x14 (wrap64 (x15 + ((rd_T72 x50 x52).f1))) x50 x51 (wrap64 (x52 + 1)) x678000 x678001 x691000 x691001) else (none)) else (none)) else ((space_Right.f k x1 x2 x3).bind fun t693 => ((weirkeeperlaw05_refs.f k x3).bind fun t694 => ((weirkeeperref05_Right.f k x1 x2 t694).bind fun t697 => (if (t693 == t697) = true then ((weirkeeperlaw05_refs.f k x9).bind fun t698 => ((weirkeeperref05_Same.f k t698 x12).bind fun t701 => (if t701 = true then (if (x678000 == x691000 && (x678001 == x691001)) = true then (if x11 = x14 then ((space_Left.f k x1 x2 x3).bind fun t702 => (if t702 = x15 then ((weirkeeperlaw05_awake.f k).bind fun t703 => (some t703)) else (some false))) else (some false)) else (some false)) else (some false)))) else (some false)))))
def weirkeeperlaw05_SpaceTells.f (k : Nat) (a0 : Int) (a1 : Int) (a2 : Int) (l3 : List (S66)) : Option (Bool) := (weirkeeperlaw05_small.f a1 a2 l3).bind fun t669 => (if t669 = true then ((space_Free.f k a1 a2 l3).bind fun t671 => ((space_Fit.f k a0 a1 a2 l3).bind fun bt674 => ((weirkeeperlaw05_refs.f k l3).bind fun t678 => ((weirkeeperref05_Free.f k a1 a2 t678).bind fun t681 => ((weirkeeperlaw05_refs.f k l3).bind fun t684 => ((weirkeeperref05_Fit.f k a0 a1 a2 t684).bind fun bt687 => (weirkeeperlaw05_SpaceTells.l0 k a1 a2 l3 t671 bt674.2.2 t681 bt687.2.2 0 t681 (t681.length : Int) 0 bt674.1 bt674.2.1 bt687.1 bt687.2.1))))))) else ((weirkeeperlaw05_awake.f k).bind fun t670 => (some t670)))
theorem weirkeeperlaw05_SpaceTells.mono_l : ∀ k, (∀ y0 y1 y2 y3 y4 y5 y6 y7 y8 y9 y10 y11 y12 y13 y14, LeO (weirkeeperlaw05_SpaceTells.l0 k y0 y1 y2 y3 y4 y5 y6 y7 y8 y9 y10 y11 y12 y13 y14) (weirkeeperlaw05_SpaceTells.l0 (k + 1) y0 y1 y2 y3 y4 y5 y6 y7 y8 y9 y10 y11 y12 y13 y14))
  | 0 => fun _ _ _ _ _ _ _ _ _ _ _ _ _ _ _ r h => by simp [weirkeeperlaw05_SpaceTells.l0] at h
  | k + 1 => by
    have ih0 := weirkeeperlaw05_SpaceTells.mono_l k
    · intro y0 y1 y2 y3 y4 y5 y6 y7 y8 y9 y10 y11 y12 y13 y14
      unfold weirkeeperlaw05_SpaceTells.l0
      repeat' first
      | (with_reducible exact ih0 _ _ _ _ _ _ _ _ _ _ _ _ _ _ _)
      | (with_reducible exact space_Fit.mono _ _ _ _ _)
      | (with_reducible exact space_Free.mono _ _ _ _)
      | (with_reducible exact space_Left.mono _ _ _ _)
      | (with_reducible exact space_Right.mono _ _ _ _)
      | (with_reducible exact weirkeeperlaw05_awake.mono _)
      | (with_reducible exact weirkeeperlaw05_refs.mono _ _)
      | (with_reducible exact weirkeeperref05_Fit.mono _ _ _ _ _)
      | (with_reducible exact weirkeeperref05_Free.mono _ _ _ _)
      | (with_reducible exact weirkeeperref05_Right.mono _ _ _ _)
      | (with_reducible exact weirkeeperref05_Same.mono _ _ _)
      | (with_reducible exact LeO.refl _)
      | (with_reducible exact LeO.none _)
      | (with_reducible refine LeO.ite ?_ ?_)
      | (with_reducible refine LeO.bind ?_ (fun _ => ?_))
      | exact ih0 _ _ _ _ _ _ _ _ _ _ _ _ _ _ _
      | exact space_Fit.mono _ _ _ _ _
      | exact space_Free.mono _ _ _ _
      | exact space_Left.mono _ _ _ _
      | exact space_Right.mono _ _ _ _
      | exact weirkeeperlaw05_awake.mono _
      | exact weirkeeperlaw05_refs.mono _ _
      | exact weirkeeperref05_Fit.mono _ _ _ _ _
      | exact weirkeeperref05_Free.mono _ _ _ _
      | exact weirkeeperref05_Right.mono _ _ _ _
      | exact weirkeeperref05_Same.mono _ _ _
      | exact LeO.none _
      | refine LeO.ite ?_ ?_
      | refine LeO.bind ?_ (fun _ => ?_)
theorem weirkeeperlaw05_SpaceTells.mono : ∀ a0 a1 a2 a3 k, LeO (weirkeeperlaw05_SpaceTells.f k a0 a1 a2 a3) (weirkeeperlaw05_SpaceTells.f (k + 1) a0 a1 a2 a3) := by
  intro a0 a1 a2 a3 k
  have ih0 := weirkeeperlaw05_SpaceTells.mono_l k
  unfold weirkeeperlaw05_SpaceTells.f
  repeat' first
      | (with_reducible exact ih0 _ _ _ _ _ _ _ _ _ _ _ _ _ _ _)
      | (with_reducible exact space_Fit.mono _ _ _ _ _)
      | (with_reducible exact space_Free.mono _ _ _ _)
      | (with_reducible exact space_Left.mono _ _ _ _)
      | (with_reducible exact space_Right.mono _ _ _ _)
      | (with_reducible exact weirkeeperlaw05_awake.mono _)
      | (with_reducible exact weirkeeperlaw05_refs.mono _ _)
      | (with_reducible exact weirkeeperref05_Fit.mono _ _ _ _ _)
      | (with_reducible exact weirkeeperref05_Free.mono _ _ _ _)
      | (with_reducible exact weirkeeperref05_Right.mono _ _ _ _)
      | (with_reducible exact weirkeeperref05_Same.mono _ _ _)
      | (with_reducible exact LeO.refl _)
      | (with_reducible exact LeO.none _)
      | (with_reducible refine LeO.ite ?_ ?_)
      | (with_reducible refine LeO.bind ?_ (fun _ => ?_))
      | exact ih0 _ _ _ _ _ _ _ _ _ _ _ _ _ _ _
      | exact space_Fit.mono _ _ _ _ _
      | exact space_Free.mono _ _ _ _
      | exact space_Left.mono _ _ _ _
      | exact space_Right.mono _ _ _ _
      | exact weirkeeperlaw05_awake.mono _
      | exact weirkeeperlaw05_refs.mono _ _
      | exact weirkeeperref05_Fit.mono _ _ _ _ _
      | exact weirkeeperref05_Free.mono _ _ _ _
      | exact weirkeeperref05_Right.mono _ _ _ _
      | exact weirkeeperref05_Same.mono _ _ _
      | exact LeO.none _
      | refine LeO.ite ?_ ?_
      | refine LeO.bind ?_ (fun _ => ?_)
set_option maxHeartbeats 8000000 in
set_option maxRecDepth 100000 in
theorem weirkeeperlaw05_SpaceTells.calls (k : Nat) (a0 : Int) (a1 : Int) (a2 : Int) (A3 : Option Addr) (c3 : Nat) (l3 : List (S66)) (w : World) (hr3 : Kd.C k66 w A3 l3.length l3) (hc3 : l3.length ≤ c3) (h : weirkeeperlaw05_SpaceTells.f k a0 a1 a2 l3 = some true) :
    Calls Try.prog 8 #[.int .i64 a0, .int .i64 a1, .int .i64 a2, .slice A3 l3.length c3] w fun e w' => e = .returned (.bool true) ∧ Below w.heap.size w w' := by
  have hu66 := Try.underlying66
  have hu72 := Try.underlying72
  have HR3 := Aside0.mk hr3
  have HC3 := Aside0.mk hc3
  clear hr3 hc3
  have HB := Aside0.mk (Below.refl w.heap.size w)
  have H : ((weirkeeperlaw05_small.f a1 a2 l3).bind fun t669 => (if t669 = true then ((space_Free.f k a1 a2 l3).bind fun t671 => ((space_Fit.f k a0 a1 a2 l3).bind fun bt674 => ((weirkeeperlaw05_refs.f k l3).bind fun t678 => ((weirkeeperref05_Free.f k a1 a2 t678).bind fun t681 => ((weirkeeperlaw05_refs.f k l3).bind fun t684 => ((weirkeeperref05_Fit.f k a0 a1 a2 t684).bind fun bt687 => (weirkeeperlaw05_SpaceTells.l0 k a1 a2 l3 t671 bt674.2.2 t681 bt687.2.2 0 t681 (t681.length : Int) 0 bt674.1 bt674.2.1 bt687.1 bt687.2.1))))))) else ((weirkeeperlaw05_awake.f k).bind fun t670 => (some t670)))) = some true := h
  clear h
  replace H := Option.bind_eq_some_iff.mp H
  obtain ⟨t669, A50, H⟩ := H
  replace H : (if t669 = true then ((space_Free.f k a1 a2 l3).bind fun t671 => ((space_Fit.f k a0 a1 a2 l3).bind fun bt674 => ((weirkeeperlaw05_refs.f k l3).bind fun t678 => ((weirkeeperref05_Free.f k a1 a2 t678).bind fun t681 => ((weirkeeperlaw05_refs.f k l3).bind fun t684 => ((weirkeeperref05_Fit.f k a0 a1 a2 t684).bind fun bt687 => (weirkeeperlaw05_SpaceTells.l0 k a1 a2 l3 t671 bt674.2.2 t681 bt687.2.2 0 t681 (t681.length : Int) 0 bt674.1 bt674.2.1 bt687.1 bt687.2.1))))))) else ((weirkeeperlaw05_awake.f k).bind fun t670 => (some t670))) = some true := H
  have A5 := Aside0.mk A50
  clear A50
  by_cases c6 : t669 = true
  · subst c6
    have H1 : ((space_Free.f k a1 a2 l3).bind fun t671 => ((space_Fit.f k a0 a1 a2 l3).bind fun bt674 => ((weirkeeperlaw05_refs.f k l3).bind fun t678 => ((weirkeeperref05_Free.f k a1 a2 t678).bind fun t681 => ((weirkeeperlaw05_refs.f k l3).bind fun t684 => ((weirkeeperref05_Fit.f k a0 a1 a2 t684).bind fun bt687 => (weirkeeperlaw05_SpaceTells.l0 k a1 a2 l3 t671 bt674.2.2 t681 bt687.2.2 0 t681 (t681.length : Int) 0 bt674.1 bt674.2.1 bt687.1 bt687.2.1))))))) = some true := by rw [if_pos rfl] at H; exact H
    clear H
    have H := H1
    clear H1
    replace H := Option.bind_eq_some_iff.mp H
    obtain ⟨t671, A70, H⟩ := H
    replace H : ((space_Fit.f k a0 a1 a2 l3).bind fun bt674 => ((weirkeeperlaw05_refs.f k l3).bind fun t678 => ((weirkeeperref05_Free.f k a1 a2 t678).bind fun t681 => ((weirkeeperlaw05_refs.f k l3).bind fun t684 => ((weirkeeperref05_Fit.f k a0 a1 a2 t684).bind fun bt687 => (weirkeeperlaw05_SpaceTells.l0 k a1 a2 l3 t671 bt674.2.2 t681 bt687.2.2 0 t681 (t681.length : Int) 0 bt674.1 bt674.2.1 bt687.1 bt687.2.1)))))) = some true := H
    have A7 := Aside0.mk A70
    clear A70
    replace H := Option.bind_eq_some_iff.mp H
    obtain ⟨⟨t674, t675, t676⟩, A80, H⟩ := H
    replace H : ((weirkeeperlaw05_refs.f k l3).bind fun t678 => ((weirkeeperref05_Free.f k a1 a2 t678).bind fun t681 => ((weirkeeperlaw05_refs.f k l3).bind fun t684 => ((weirkeeperref05_Fit.f k a0 a1 a2 t684).bind fun bt687 => (weirkeeperlaw05_SpaceTells.l0 k a1 a2 l3 t671 t676 t681 bt687.2.2 0 t681 (t681.length : Int) 0 t674 t675 bt687.1 bt687.2.1))))) = some true := H
    have A8 := Aside0.mk A80
    clear A80
    replace H := Option.bind_eq_some_iff.mp H
    obtain ⟨t678, A90, H⟩ := H
    replace H : ((weirkeeperref05_Free.f k a1 a2 t678).bind fun t681 => ((weirkeeperlaw05_refs.f k l3).bind fun t684 => ((weirkeeperref05_Fit.f k a0 a1 a2 t684).bind fun bt687 => (weirkeeperlaw05_SpaceTells.l0 k a1 a2 l3 t671 t676 t681 bt687.2.2 0 t681 (t681.length : Int) 0 t674 t675 bt687.1 bt687.2.1)))) = some true := H
    have A9 := Aside0.mk A90
    clear A90
    replace H := Option.bind_eq_some_iff.mp H
    obtain ⟨t681, A100, H⟩ := H
    replace H : ((weirkeeperlaw05_refs.f k l3).bind fun t684 => ((weirkeeperref05_Fit.f k a0 a1 a2 t684).bind fun bt687 => (weirkeeperlaw05_SpaceTells.l0 k a1 a2 l3 t671 t676 t681 bt687.2.2 0 t681 (t681.length : Int) 0 t674 t675 bt687.1 bt687.2.1))) = some true := H
    have A10 := Aside0.mk A100
    clear A100
    replace H := Option.bind_eq_some_iff.mp H
    obtain ⟨t684, A110, H⟩ := H
    replace H : ((weirkeeperref05_Fit.f k a0 a1 a2 t684).bind fun bt687 => (weirkeeperlaw05_SpaceTells.l0 k a1 a2 l3 t671 t676 t681 bt687.2.2 0 t681 (t681.length : Int) 0 t674 t675 bt687.1 bt687.2.1)) = some true := H
    have A11 := Aside0.mk A110
    clear A110
    replace H := Option.bind_eq_some_iff.mp H
    obtain ⟨⟨t687, t688, t689⟩, A120, H⟩ := H
    replace H : (weirkeeperlaw05_SpaceTells.l0 k a1 a2 l3 t671 t676 t681 t689 0 t681 (t681.length : Int) 0 t674 t675 t687 t688) = some true := H
    have A12 := Aside0.mk A120
    clear A120
    have H' := Aside0.mk H
    clear H
    go_enter Try.func8, Try.ntmps8
    go_wp2_with (first | ((with_reducible refine gate_callee (f := 29) rfl ?_); refine goesL_ (some 21) rfl rfl Try.func29 (by kernel_rfl) rfl #[.int .i64 a1, .int .i64 a2, .slice A3 l3.length c3] rfl (by (try simp only [List.map_toArray, List.map_cons, List.map_nil]); first | done | rfl | (simp only [List.length_drop, List.length_take]; rfl)) ?_; (with_reducible refine (weirkeeperlaw05_small.calls a1 a2 _ _ l3 true _ ?side1 ?side2 A5.out).mono ?_); (case side1 => repeat (first | exact HR3.out | (with_reducible refine Kd.C_alloc ?_ _) | (with_reducible refine Kd.C_drewN ?_ _) | (with_reducible refine Kd.C_drew ?_))); (case side2 => exact HC3.out); rintro e w' ⟨rfl, ⟨nd, rfl⟩⟩; refine ⟨_, rfl, ?_⟩) | ((with_reducible refine gate_callee (f := 31) rfl ?_); refine goesL_ (some 27) rfl rfl Try.func31 (by kernel_rfl) rfl #[.int .i64 a1, .int .i64 a2, .slice A3 l3.length c3] rfl (by (try simp only [List.map_toArray, List.map_cons, List.map_nil]); first | done | rfl | (simp only [List.length_drop, List.length_take]; rfl)) ?_; (with_reducible refine (space_Free.calls k a1 a2 _ _ l3 t671 _ ?side1 ?side2 A7.out).mono ?_); (case side1 => repeat (first | exact HR3.out | (with_reducible refine Kd.C_alloc ?_ _) | (with_reducible refine Kd.C_drewN ?_ _) | (with_reducible refine Kd.C_drew ?_))); (case side2 => exact HC3.out); rintro e w13 ⟨v672, rfl, ho0, hb⟩; refine ⟨_, rfl, ?_⟩; have n0_ := Aside0.mk (Kd.R_lower ho0 (below_size (by repeat (first | (with_reducible first | exact HB.out | apply below_alloc | apply pw_below_drewN | apply below_drew1) | exact HB.out)))); have n1_ := Aside0.mk (below_step (by repeat (first | (with_reducible first | exact HB.out | apply below_alloc | apply pw_below_drewN | apply below_drew1) | exact HB.out)) hb); clear HB; have HO673 := n0_; have HB := n1_; clear n0_ n1_; (try clear hb); (try clear hb2); (try clear hk); (try clear hi); (try clear ho0)) | ((with_reducible refine gate_callee (f := 32) rfl ?_); refine goesL_ (some 33) rfl rfl Try.func32 (by kernel_rfl) rfl #[.int .i64 a0, .int .i64 a1, .int .i64 a2, .slice A3 l3.length c3] rfl (by (try simp only [List.map_toArray, List.map_cons, List.map_nil]); first | done | rfl | (simp only [List.length_drop, List.length_take]; rfl)) ?_; (with_reducible refine (space_Fit.calls k a0 a1 a2 _ _ l3 t674 t675 t676 _ ?side1 ?side2 A8.out).mono ?_); (case side1 => repeat (first | exact (Kd.C_below HR3.out HB.out) | (with_reducible refine Kd.C_alloc ?_ _) | (with_reducible refine Kd.C_drewN ?_ _) | (with_reducible refine Kd.C_drew ?_))); (case side2 => exact HC3.out); rintro e w14 ⟨rfl, hb⟩; refine ⟨_, rfl, ?_⟩; have n0_ := Aside0.mk (Kd.R_below (by (with_reducible repeat (first | apply Kd.R_alloc | apply Kd.R_drewN | apply Kd.R_drew)); exact HO673.out) hb); have n1_ := Aside0.mk (below_step (by repeat (first | (with_reducible first | exact HB.out | apply below_alloc | apply pw_below_drewN | apply below_drew1) | exact HB.out)) hb); clear HO673; clear HB; have HO673 := n0_; have HB := n1_; clear n0_ n1_; (try clear hb); (try clear hb2); (try clear hk); (try clear hi)) | ((with_reducible refine gate_dst (N := 10) rfl ?_); refine box_event ?hg (N := 10) ?hd (cs := #[.int .i64 0, .int .i64 0]) (t := 66) ?hr ?_; (case hd => rfl); (case hg => rfl); (case hr => first | (go_simp; done) | (go_simp; rfl)); intro gb677 hg w15 hbox hb; have n0_ := Aside0.mk (Kd.R_below (Kd.R_elderB (by (with_reducible repeat (first | apply Kd.R_alloc | apply Kd.R_drewN | apply Kd.R_drew)); exact HO673.out) gb677 (Nat.le_of_eq hg.symm)) hb); have n1_ := Aside0.mk (below_step (by repeat (first | (with_reducible first | exact HB.out | apply below_alloc | apply pw_below_drewN | apply below_drew1) | exact HB.out)) hb); have n2_ := Aside0.mk (hbox); have n3_ := Aside0.mk ((by rw [hg]; exact (below_size (by repeat (first | (with_reducible first | exact HB.out | apply below_alloc | apply pw_below_drewN | apply below_drew1) | exact HB.out))) : w.heap.size ≤ gb677)); have n4_ := Aside0.mk ((by rw [hg]; exact (below_size (by repeat (first | (with_reducible first | exact HB.out | apply below_alloc | apply pw_below_drewN | apply below_drew1) | exact HB.out))) : w.heap.size ≤ gb677)); clear HO673; clear HB; have HO673 := n0_; have HB := n1_; have BK677 := n2_; have GW677 := n3_; have GE677 := n4_; clear n0_ n1_ n2_ n3_ n4_; clear hb hbox hg; have hcz16_0 : w15.cell? ⟨gb677, 0, none⟩ = some (.int .i64 0) := (blk_cell BK677.out 0).trans rfl; have hcz16_1 : w15.cell? ⟨gb677, 1, none⟩ = some (.int .i64 0) := (blk_cell BK677.out 1).trans rfl; have hfz16_0 := blk_frozen BK677.out 0; have hfz16_1 := blk_frozen BK677.out 1) | ((with_reducible refine gate_callee (f := 34) rfl ?_); refine goesL_ (some 39) rfl rfl Try.func34 (by kernel_rfl) rfl #[.slice A3 l3.length c3] rfl (by (try simp only [List.map_toArray, List.map_cons, List.map_nil]); first | done | rfl | (simp only [List.length_drop, List.length_take]; rfl)) ?_; (with_reducible refine (weirkeeperlaw05_refs.calls k _ _ l3 t678 _ ?side1 ?side2 A9.out).mono ?_); (case side1 => exact Kd.C_below HR3.out (by repeat (first | (with_reducible first | exact HB.out | apply below_alloc | apply pw_below_drewN | apply below_drew1 | refine below_set ?_ GE677.out) | exact HB.out))); (case side2 => exact HC3.out); rintro e w17 ⟨v679, rfl, ho0, hb⟩; refine ⟨_, rfl, ?_⟩; have n0_ := Aside0.mk (Kd.R_below (by (with_reducible repeat (first | apply Kd.R_alloc | apply Kd.R_drewN | apply Kd.R_drew)); exact (Kd.R_mono (Kd.R_far (p := ⟨gb677, 1, none⟩) (Kd.R_far (p := ⟨gb677, 0, none⟩) (Kd.R_mono HO673.out (fun k_ hk => (⟨hk, hk.2⟩ : _ ∧ k_ ≠ gb677))) (fun _ hk => hk.2) (.int .i64 t674)) (fun _ hk => hk.2) (.int .i64 t675)) (fun _ h_ => h_.1))) hb); have n1_ := Aside0.mk (Kd.R_lower ho0 (below_size (by repeat (first | (with_reducible first | exact HB.out | apply below_alloc | apply pw_below_drewN | apply below_drew1 | refine below_set ?_ GE677.out) | exact HB.out)))); have n2_ := Aside0.mk (blk_below (g := gb677) (o := .cells #[.int .i64 t674, .int .i64 t675] 66 (0, 0)) (by (with_reducible repeat (first | refine blk_drewN ?_ _ | refine blk_drew ?_ | refine blk_alloc ?_ _)); refine blk_put (cs := #[.int .i64 t674, .int .i64 0]) ?_ 1 _ rfl; (with_reducible repeat (first | refine blk_drewN ?_ _ | refine blk_drew ?_ | refine blk_alloc ?_ _)); refine blk_put (cs := #[.int .i64 0, .int .i64 0]) ?_ 0 _ rfl; (with_reducible repeat (first | refine blk_drewN ?_ _ | refine blk_drew ?_ | refine blk_alloc ?_ _)); exact BK677.out) hb); have n3_ := Aside0.mk (below_step (by repeat (first | (with_reducible first | exact HB.out | apply below_alloc | apply pw_below_drewN | apply below_drew1 | refine below_set ?_ GE677.out) | exact HB.out)) hb); clear HO673; clear BK677; clear HB; have HO673 := n0_; have HO680 := n1_; have BK677 := n2_; have HB := n3_; clear n0_ n1_ n2_ n3_; (try clear hb); (try clear hb2); (try clear hk); (try clear hi); (try clear ho0); obtain ⟨Ao18, co18, eo18⟩ := Kd.R_slice HO680.out; subst eo18) | ((with_reducible refine gate_callee (f := 33) rfl ?_); refine goesL_ (some 40) rfl rfl Try.func33 (by kernel_rfl) rfl #[.int .i64 a1, .int .i64 a2, .slice Ao18 t678.length co18] rfl (by (try simp only [List.map_toArray, List.map_cons, List.map_nil]); first | done | rfl | (simp only [List.length_drop, List.length_take]; rfl)) ?_; (with_reducible refine (weirkeeperref05_Free.calls k a1 a2 _ _ t678 t681 _ ?side1 ?side2 A10.out).mono ?_); (case side1 => repeat (first | exact (Kd.R_reads' HO680.out).2.2 | (with_reducible refine Kd.C_alloc ?_ _) | (with_reducible refine Kd.C_drewN ?_ _) | (with_reducible refine Kd.C_drew ?_))); (case side2 => exact (Kd.R_reads' HO680.out).2.1); rintro e w19 ⟨v682, rfl, ho0, hb⟩; refine ⟨_, rfl, ?_⟩; have n0_ := Aside0.mk (Kd.R_below (by (with_reducible repeat (first | apply Kd.R_alloc | apply Kd.R_drewN | apply Kd.R_drew)); exact HO673.out) hb); have n1_ := Aside0.mk (Kd.R_elder' (by (with_reducible repeat (first | apply Kd.R_alloc | apply Kd.R_drewN | apply Kd.R_drew)); exact HO680.out) (Kd.R_base ho0) hb); have n2_ := Aside0.mk (Kd.R_lower (Kd.R_new' ho0 (Kd.R_lt (by (with_reducible repeat (first | apply Kd.R_alloc | apply Kd.R_drewN | apply Kd.R_drew)); exact HO680.out))) (below_size (by repeat (first | (with_reducible first | exact HB.out | apply below_alloc | apply pw_below_drewN | apply below_drew1 | refine below_set ?_ GE677.out) | exact HB.out)))); have n3_ := Aside0.mk (blk_below (g := gb677) (o := .cells #[.int .i64 t674, .int .i64 t675] 66 (0, 0)) (by (with_reducible repeat (first | refine blk_drewN ?_ _ | refine blk_drew ?_ | refine blk_alloc ?_ _)); exact BK677.out) hb); have n4_ := Aside0.mk (below_step (by repeat (first | (with_reducible first | exact HB.out | apply below_alloc | apply pw_below_drewN | apply below_drew1 | refine below_set ?_ GE677.out) | exact HB.out)) hb); clear HO673; clear HO680; clear BK677; clear HB; have HO673 := n0_; have HO680 := n1_; have HO683 := n2_; have BK677 := n3_; have HB := n4_; clear n0_ n1_ n2_ n3_ n4_; (try clear hb); (try clear hb2); (try clear hk); (try clear hi); (try clear ho0)) | ((with_reducible refine gate_callee (f := 34) rfl ?_); refine goesL_ (some 46) rfl rfl Try.func34 (by kernel_rfl) rfl #[.slice A3 l3.length c3] rfl (by (try simp only [List.map_toArray, List.map_cons, List.map_nil]); first | done | rfl | (simp only [List.length_drop, List.length_take]; rfl)) ?_; (with_reducible refine (weirkeeperlaw05_refs.calls k _ _ l3 t684 _ ?side1 ?side2 A11.out).mono ?_); (case side1 => repeat (first | exact (Kd.C_below HR3.out HB.out) | (with_reducible refine Kd.C_alloc ?_ _) | (with_reducible refine Kd.C_drewN ?_ _) | (with_reducible refine Kd.C_drew ?_))); (case side2 => exact HC3.out); rintro e w20 ⟨v685, rfl, ho0, hb⟩; refine ⟨_, rfl, ?_⟩; have n0_ := Aside0.mk (Kd.R_below (by (with_reducible repeat (first | apply Kd.R_alloc | apply Kd.R_drewN | apply Kd.R_drew)); exact HO673.out) hb); have n1_ := Aside0.mk (Kd.R_elder' (by (with_reducible repeat (first | apply Kd.R_alloc | apply Kd.R_drewN | apply Kd.R_drew)); exact HO680.out) (Kd.R_base ho0) hb); have n2_ := Aside0.mk (Kd.R_elder' (by (with_reducible repeat (first | apply Kd.R_alloc | apply Kd.R_drewN | apply Kd.R_drew)); exact HO683.out) (Kd.R_base ho0) hb); have n3_ := Aside0.mk (Kd.R_lower (Kd.R_new' (Kd.R_new' ho0 (Kd.R_lt (by (with_reducible repeat (first | apply Kd.R_alloc | apply Kd.R_drewN | apply Kd.R_drew)); exact HO680.out))) (Kd.R_lt (by (with_reducible repeat (first | apply Kd.R_alloc | apply Kd.R_drewN | apply Kd.R_drew)); exact HO683.out))) (below_size (by repeat (first | (with_reducible first | exact HB.out | apply below_alloc | apply pw_below_drewN | apply below_drew1 | refine below_set ?_ GE677.out) | exact HB.out)))); have n4_ := Aside0.mk (blk_below (g := gb677) (o := .cells #[.int .i64 t674, .int .i64 t675] 66 (0, 0)) (by (with_reducible repeat (first | refine blk_drewN ?_ _ | refine blk_drew ?_ | refine blk_alloc ?_ _)); exact BK677.out) hb); have n5_ := Aside0.mk (below_step (by repeat (first | (with_reducible first | exact HB.out | apply below_alloc | apply pw_below_drewN | apply below_drew1 | refine below_set ?_ GE677.out) | exact HB.out)) hb); clear HO673; clear HO680; clear HO683; clear BK677; clear HB; have HO673 := n0_; have HO680 := n1_; have HO683 := n2_; have HO686 := n3_; have BK677 := n4_; have HB := n5_; clear n0_ n1_ n2_ n3_ n4_ n5_; (try clear hb); (try clear hb2); (try clear hk); (try clear hi); (try clear ho0); obtain ⟨Ao21, co21, eo21⟩ := Kd.R_slice HO686.out; subst eo21) | ((with_reducible refine gate_callee (f := 35) rfl ?_); refine goesL_ (some 47) rfl rfl Try.func35 (by kernel_rfl) rfl #[.int .i64 a0, .int .i64 a1, .int .i64 a2, .slice Ao21 t684.length co21] rfl (by (try simp only [List.map_toArray, List.map_cons, List.map_nil]); first | done | rfl | (simp only [List.length_drop, List.length_take]; rfl)) ?_; (with_reducible refine (weirkeeperref05_Fit.calls k a0 a1 a2 _ _ t684 t687 t688 t689 _ ?side1 ?side2 A12.out).mono ?_); (case side1 => repeat (first | exact (Kd.R_reads' HO686.out).2.2 | (with_reducible refine Kd.C_alloc ?_ _) | (with_reducible refine Kd.C_drewN ?_ _) | (with_reducible refine Kd.C_drew ?_))); (case side2 => exact (Kd.R_reads' HO686.out).2.1); rintro e w22 ⟨rfl, hb⟩; refine ⟨_, rfl, ?_⟩; have n0_ := Aside0.mk (Kd.R_below (by (with_reducible repeat (first | apply Kd.R_alloc | apply Kd.R_drewN | apply Kd.R_drew)); exact HO673.out) hb); have n1_ := Aside0.mk (Kd.R_below (by (with_reducible repeat (first | apply Kd.R_alloc | apply Kd.R_drewN | apply Kd.R_drew)); exact HO680.out) hb); have n2_ := Aside0.mk (Kd.R_below (by (with_reducible repeat (first | apply Kd.R_alloc | apply Kd.R_drewN | apply Kd.R_drew)); exact HO683.out) hb); have n3_ := Aside0.mk (Kd.R_below (by (with_reducible repeat (first | apply Kd.R_alloc | apply Kd.R_drewN | apply Kd.R_drew)); exact HO686.out) hb); have n4_ := Aside0.mk (blk_below (g := gb677) (o := .cells #[.int .i64 t674, .int .i64 t675] 66 (0, 0)) (by (with_reducible repeat (first | refine blk_drewN ?_ _ | refine blk_drew ?_ | refine blk_alloc ?_ _)); exact BK677.out) hb); have n5_ := Aside0.mk (below_step (by repeat (first | (with_reducible first | exact HB.out | apply below_alloc | apply pw_below_drewN | apply below_drew1 | refine below_set ?_ GE677.out) | exact HB.out)) hb); clear HO673; clear HO680; clear HO683; clear HO686; clear BK677; clear HB; have HO673 := n0_; have HO680 := n1_; have HO683 := n2_; have HO686 := n3_; have BK677 := n4_; have HB := n5_; clear n0_ n1_ n2_ n3_ n4_ n5_; (try clear hb); (try clear hb2); (try clear hk); (try clear hi)) | ((with_reducible refine gate_dst (N := 13) rfl ?_); refine box_event ?hg (N := 13) ?hd (cs := #[.int .i64 0, .int .i64 0]) (t := 72) ?hr ?_; (case hd => rfl); (case hg => rfl); (case hr => first | (go_simp; done) | (go_simp; rfl)); intro gb690 hg w23 hbox hb; have n0_ := Aside0.mk (Kd.R_below (by (with_reducible repeat (first | apply Kd.R_alloc | apply Kd.R_drewN | apply Kd.R_drew)); exact HO673.out) hb); have n1_ := Aside0.mk (Kd.R_below (Kd.R_elderB (by (with_reducible repeat (first | apply Kd.R_alloc | apply Kd.R_drewN | apply Kd.R_drew)); exact HO680.out) gb690 (Nat.le_of_eq hg.symm)) hb); have n2_ := Aside0.mk (Kd.R_below (Kd.R_elderB (by (with_reducible repeat (first | apply Kd.R_alloc | apply Kd.R_drewN | apply Kd.R_drew)); exact HO683.out) gb690 (Nat.le_of_eq hg.symm)) hb); have n3_ := Aside0.mk (Kd.R_below (Kd.R_elderB (by (with_reducible repeat (first | apply Kd.R_alloc | apply Kd.R_drewN | apply Kd.R_drew)); exact HO686.out) gb690 (Nat.le_of_eq hg.symm)) hb); have n4_ := Aside0.mk (blk_below (g := gb677) (o := .cells #[.int .i64 t674, .int .i64 t675] 66 (0, 0)) (by (with_reducible repeat (first | refine blk_drewN ?_ _ | refine blk_drew ?_ | refine blk_alloc ?_ _)); exact BK677.out) hb); have n5_ := Aside0.mk (below_step (by repeat (first | (with_reducible first | exact HB.out | apply below_alloc | apply pw_below_drewN | apply below_drew1 | refine below_set ?_ GE677.out) | exact HB.out)) hb); have n6_ := Aside0.mk (hbox); have n7_ := Aside0.mk ((by rw [hg]; exact (below_size (by repeat (first | (with_reducible first | exact HB.out | apply below_alloc | apply pw_below_drewN | apply below_drew1 | refine below_set ?_ GE677.out) | exact HB.out))) : w.heap.size ≤ gb690)); have n8_ := Aside0.mk ((by rw [hg]; exact (below_size (by repeat (first | (with_reducible first | exact HB.out | apply below_alloc | apply pw_below_drewN | apply below_drew1 | refine below_set ?_ GE677.out) | exact HB.out))) : w.heap.size ≤ gb690)); have n9_ := Aside0.mk ((by rw [hg]; exact Nat.ne_of_lt (blk_lt (g := gb677) (o := .cells #[.int .i64 t674, .int .i64 t675] 66 (0, 0)) (by (with_reducible repeat (first | refine blk_drewN ?_ _ | refine blk_drew ?_ | refine blk_alloc ?_ _)); exact BK677.out)) : gb677 ≠ gb690)); have n10_ := Aside0.mk ((by rw [hg]; exact Nat.ne_of_gt (blk_lt (g := gb677) (o := .cells #[.int .i64 t674, .int .i64 t675] 66 (0, 0)) (by (with_reducible repeat (first | refine blk_drewN ?_ _ | refine blk_drew ?_ | refine blk_alloc ?_ _)); exact BK677.out)) : gb690 ≠ gb677)); clear HO673; clear HO680; clear HO683; clear HO686; clear BK677; clear HB; have HO673 := n0_; have HO680 := n1_; have HO683 := n2_; have HO686 := n3_; have BK677 := n4_; have HB := n5_; have BK690 := n6_; have GW690 := n7_; have GE690 := n8_; have NB677_690 := n9_; have NB690_677 := n10_; clear n0_ n1_ n2_ n3_ n4_ n5_ n6_ n7_ n8_ n9_ n10_; clear hb hbox hg; have hnb24 := NB690_677.out; have hnc24 := NB677_690.out; have hcz25_0 : w23.cell? ⟨gb690, 0, none⟩ = some (.int .i64 0) := (blk_cell BK690.out 0).trans rfl; have hcz25_1 : w23.cell? ⟨gb690, 1, none⟩ = some (.int .i64 0) := (blk_cell BK690.out 1).trans rfl; have hfz25_0 := blk_frozen BK690.out 0; have hfz25_1 := blk_frozen BK690.out 1; obtain ⟨Ao26, co26, eo26⟩ := Kd.R_slice HO683.out; subst eo26))
    go_loopg [15, 52] k (fun kq v15 v52 w' => ∃ (x15_1 : Int) (x52_1 : Int), v15 = .int .i64 x15_1 ∧ v52 = .int .i64 x52_1 ∧ Aside0 (weirkeeperlaw05_SpaceTells.l0 kq a1 a2 l3 t671 t676 t681 t689 x15_1 t681 (t681.length : Int) x52_1 t674 t675 t687 t688 = some true) ∧ Aside0 (kq ≤ k) ∧ Aside0 (Kd.R k66 66 w' w.heap.size (fun k_ => k_ ≠ gb677) v672 t671) ∧ Aside0 (Kd.R k72 72 w' w.heap.size (fun k_ => k_ ≠ gb690) (.slice Ao26 t681.length co26) t681) ∧ Aside0 (Kd.R k72 72 w' w.heap.size (fun k_ => k_ ≠ gb690) (.slice Ao26 t681.length co26) t681) ∧ Aside0 (w'.heap[gb677]? = some (.cells #[.int .i64 t674, .int .i64 t675] 66 (0, 0))) ∧ Aside0 (w'.heap[gb690]? = some (.cells #[.int .i64 t687, .int .i64 t688] 72 (0, 0))) ∧ Aside0 (Below w.heap.size w w'))
    case atStart => exact ⟨(0), (0), (by first | rfl | (simp; done) | (simp [*]; done)), (by first | rfl | (simp; done) | (simp [*]; done)), H', ⟨Nat.le_refl _⟩, ⟨by (with_reducible repeat (first | apply Kd.R_alloc | apply Kd.R_drewN | apply Kd.R_drew)); exact Kd.R_mono (Kd.R_far (p := ⟨gb690, 1, none⟩) (Kd.R_far (p := ⟨gb690, 0, none⟩) (Kd.R_types HO673.out BK690.out (by decide)) (fun _ hk => hk.2) (.int .i64 t687)) (fun _ hk => hk.2) (.int .i64 t688)) (fun _ hk => hk.1.2)⟩, ⟨by (with_reducible repeat (first | apply Kd.R_alloc | apply Kd.R_drewN | apply Kd.R_drew)); exact Kd.R_mono (Kd.R_far (p := ⟨gb690, 1, none⟩) (Kd.R_far (p := ⟨gb690, 0, none⟩) (Kd.R_mono HO683.out (fun k_ hk => (⟨hk, hk.2⟩ : _ ∧ k_ ≠ gb690))) (fun _ hk => hk.2) (.int .i64 t687)) (fun _ hk => hk.2) (.int .i64 t688)) (fun _ hk => hk.1.2)⟩, ⟨by (with_reducible repeat (first | apply Kd.R_alloc | apply Kd.R_drewN | apply Kd.R_drew)); exact Kd.R_mono (Kd.R_far (p := ⟨gb690, 1, none⟩) (Kd.R_far (p := ⟨gb690, 0, none⟩) (Kd.R_mono HO683.out (fun k_ hk => (⟨hk, hk.2⟩ : _ ∧ k_ ≠ gb690))) (fun _ hk => hk.2) (.int .i64 t687)) (fun _ hk => hk.2) (.int .i64 t688)) (fun _ hk => hk.1.2)⟩, ⟨by (with_reducible repeat (first | refine blk_drewN ?_ _ | refine blk_drew ?_ | refine blk_alloc ?_ _)); refine blk_far ?_ NB677_690.out _; (with_reducible repeat (first | refine blk_drewN ?_ _ | refine blk_drew ?_ | refine blk_alloc ?_ _)); refine blk_far ?_ NB677_690.out _; (with_reducible repeat (first | refine blk_drewN ?_ _ | refine blk_drew ?_ | refine blk_alloc ?_ _)); exact BK677.out⟩, ⟨by (with_reducible repeat (first | refine blk_drewN ?_ _ | refine blk_drew ?_ | refine blk_alloc ?_ _)); refine blk_put (cs := #[.int .i64 t687, .int .i64 0]) ?_ 1 _ rfl; (with_reducible repeat (first | refine blk_drewN ?_ _ | refine blk_drew ?_ | refine blk_alloc ?_ _)); refine blk_put (cs := #[.int .i64 0, .int .i64 0]) ?_ 0 _ rfl; (with_reducible repeat (first | refine blk_drewN ?_ _ | refine blk_drew ?_ | refine blk_alloc ?_ _)); exact BK690.out⟩, ⟨by repeat (first | (with_reducible first | exact HB.out | apply below_alloc | apply pw_below_drewN | apply below_drew1 | refine below_set ?_ GE677.out | refine below_set ?_ GE690.out) | exact HB.out)⟩⟩
    case round =>
      clear H'
      try clear c2
      try clear p2
      try clear c3
      try clear c6
      try clear c8
      try clear c24
      try clear hcz16_0
      try clear hcz16_1
      try clear hcz25_0
      try clear hcz25_1
      try clear hfz16_0
      try clear hfz16_1
      try clear hfz25_0
      try clear hfz25_1
      obtain ⟨x15_1, x52_1, rfl, rfl, HA, HK1, HO_9, HO_12, HO_50, BK677, BK690, HB⟩ := hrel
      cases gk with
      | zero => exact absurd HA.out (by simp [weirkeeperlaw05_SpaceTells.l0])
      | succ k1 =>
        have H := HA.out
        clear HA
        simp only [weirkeeperlaw05_SpaceTells.l0] at H
        by_cases c27 : x52_1 < (t681.length : Int)
        · rw [if_pos c27] at H
          have c27b0 : decide (x52_1 < (t681.length : Int)) = true := decide_eq_true c27
          clear c27
          by_cases c28 : 0 ≤ x52_1
          · rw [if_pos c28] at H
            have c28b0 : decide (0 ≤ x52_1) = true := decide_eq_true c28
            clear c28
            by_cases c29 : x52_1 < (t681.length : Int)
            · rw [if_pos c29] at H
              have c29b0 : decide (x52_1 < (t681.length : Int)) = true := decide_eq_true c29
              clear c29
              have H' := Aside0.mk H
              clear H
              have p691 : 0 ≤ (x52_1 : Int) := of_decide_eq_true (by first | (with_reducible assumption) | assumption)
              have q691 : x52_1 < (t681.length : Int) := of_decide_eq_true (by first | (with_reducible assumption) | assumption)
              obtain ⟨ad691, e691, hx691_0, hx691_1⟩ := at_T72 (Kd.R_reads' HO_50.out).2.2 x52_1 p691 q691
              cases e691
              replace p691 := eq_true p691
              replace q691 := eq_true q691
              go_wp2_with (first | ((with_reducible refine gate_dst (N := 17) rfl ?_); refine box_event ?hg (N := 17) ?hd (cs := #[.int .i64 0, .int .i64 0]) (t := 72) ?hr ?_; (case hd => rfl); (case hg => rfl); (case hr => first | (go_simp; done) | (go_simp; rfl)); intro gb692 hg w30 hbox hb; have n0_ := Aside0.mk (Kd.R_below (by (with_reducible repeat (first | apply Kd.R_alloc | apply Kd.R_drewN | apply Kd.R_drew)); exact HO_9.out) hb); have n1_ := Aside0.mk (Kd.R_below (Kd.R_elderB (by (with_reducible repeat (first | apply Kd.R_alloc | apply Kd.R_drewN | apply Kd.R_drew)); exact HO_12.out) gb692 (Nat.le_of_eq hg.symm)) hb); have n2_ := Aside0.mk (Kd.R_below (Kd.R_elderB (by (with_reducible repeat (first | apply Kd.R_alloc | apply Kd.R_drewN | apply Kd.R_drew)); exact HO_50.out) gb692 (Nat.le_of_eq hg.symm)) hb); have n3_ := Aside0.mk (blk_below (g := gb677) (o := .cells #[.int .i64 t674, .int .i64 t675] 66 (0, 0)) (by (with_reducible repeat (first | refine blk_drewN ?_ _ | refine blk_drew ?_ | refine blk_alloc ?_ _)); exact BK677.out) hb); have n4_ := Aside0.mk (blk_below (g := gb690) (o := .cells #[.int .i64 t687, .int .i64 t688] 72 (0, 0)) (by (with_reducible repeat (first | refine blk_drewN ?_ _ | refine blk_drew ?_ | refine blk_alloc ?_ _)); exact BK690.out) hb); have n5_ := Aside0.mk (below_step (by repeat (first | (with_reducible first | exact HB.out | apply below_alloc | apply pw_below_drewN | apply below_drew1 | refine below_set ?_ GE677.out | refine below_set ?_ GE690.out) | exact HB.out)) hb); have n6_ := Aside0.mk (hbox); have n7_ := Aside0.mk ((by rw [hg]; exact (below_size (by repeat (first | (with_reducible first | exact HB.out | apply below_alloc | apply pw_below_drewN | apply below_drew1 | refine below_set ?_ GE677.out | refine below_set ?_ GE690.out) | exact HB.out))) : w.heap.size ≤ gb692)); have n8_ := Aside0.mk ((by rw [hg]; exact (below_size (by repeat (first | (with_reducible first | exact HB.out | apply below_alloc | apply pw_below_drewN | apply below_drew1 | refine below_set ?_ GE677.out | refine below_set ?_ GE690.out) | exact HB.out))) : w.heap.size ≤ gb692)); have n9_ := Aside0.mk ((by rw [hg]; exact Nat.ne_of_lt (blk_lt (g := gb677) (o := .cells #[.int .i64 t674, .int .i64 t675] 66 (0, 0)) (by (with_reducible repeat (first | refine blk_drewN ?_ _ | refine blk_drew ?_ | refine blk_alloc ?_ _)); exact BK677.out)) : gb677 ≠ gb692)); have n10_ := Aside0.mk ((by rw [hg]; exact Nat.ne_of_gt (blk_lt (g := gb677) (o := .cells #[.int .i64 t674, .int .i64 t675] 66 (0, 0)) (by (with_reducible repeat (first | refine blk_drewN ?_ _ | refine blk_drew ?_ | refine blk_alloc ?_ _)); exact BK677.out)) : gb692 ≠ gb677)); have n11_ := Aside0.mk ((by rw [hg]; exact Nat.ne_of_lt (blk_lt (g := gb690) (o := .cells #[.int .i64 t687, .int .i64 t688] 72 (0, 0)) (by (with_reducible repeat (first | refine blk_drewN ?_ _ | refine blk_drew ?_ | refine blk_alloc ?_ _)); exact BK690.out)) : gb690 ≠ gb692)); have n12_ := Aside0.mk ((by rw [hg]; exact Nat.ne_of_gt (blk_lt (g := gb690) (o := .cells #[.int .i64 t687, .int .i64 t688] 72 (0, 0)) (by (with_reducible repeat (first | refine blk_drewN ?_ _ | refine blk_drew ?_ | refine blk_alloc ?_ _)); exact BK690.out)) : gb692 ≠ gb690)); clear HO_9; clear HO_12; clear HO_50; clear BK677; clear BK690; clear HB; have HO_9 := n0_; have HO_12 := n1_; have HO_50 := n2_; have BK677 := n3_; have BK690 := n4_; have HB := n5_; have BK692 := n6_; have GW692 := n7_; have GE692 := n8_; have NB677_692 := n9_; have NB692_677 := n10_; have NB690_692 := n11_; have NB692_690 := n12_; clear n0_ n1_ n2_ n3_ n4_ n5_ n6_ n7_ n8_ n9_ n10_ n11_ n12_; clear hb hbox hg; have hnb31 := NB692_677.out; have hnc31 := NB677_692.out; have hnb32 := NB692_690.out; have hnc32 := NB690_692.out; have hcz33_0 : w30.cell? ⟨gb692, 0, none⟩ = some (.int .i64 0) := (blk_cell BK692.out 0).trans rfl; have hcz33_1 : w30.cell? ⟨gb692, 1, none⟩ = some (.int .i64 0) := (blk_cell BK692.out 1).trans rfl; have hfz33_0 := blk_frozen BK692.out 0; have hfz33_1 := blk_frozen BK692.out 1))
              go_roundg k1
              case measure => have := HK1.out; omega
              case rel => exact ⟨(wrap64 (x15_1 + ((rd_T72 t681 x52_1).f1))), (wrap64 (x52_1 + 1)), (by first | rfl | (simp; done) | (simp [*]; done)), (by first | rfl | (simp; done) | (simp [*]; done)), H', ⟨by have := HK1.out; omega⟩, ⟨by (with_reducible repeat (first | apply Kd.R_alloc | apply Kd.R_drewN | apply Kd.R_drew)); exact Kd.R_mono (Kd.R_far (p := ⟨gb692, 1, none⟩) (Kd.R_far (p := ⟨gb692, 0, none⟩) (Kd.R_types HO_9.out BK692.out (by decide)) (fun _ hk => hk.2) (.int .i64 ((rd_T72 t681 x52_1).f0))) (fun _ hk => hk.2) (.int .i64 ((rd_T72 t681 x52_1).f1))) (fun _ hk => hk.1)⟩, ⟨by (with_reducible repeat (first | apply Kd.R_alloc | apply Kd.R_drewN | apply Kd.R_drew)); exact Kd.R_mono (Kd.R_far (p := ⟨gb692, 1, none⟩) (Kd.R_far (p := ⟨gb692, 0, none⟩) (Kd.R_mono HO_12.out (fun k_ hk => (⟨hk, hk.2⟩ : _ ∧ k_ ≠ gb692))) (fun _ hk => hk.2) (.int .i64 ((rd_T72 t681 x52_1).f0))) (fun _ hk => hk.2) (.int .i64 ((rd_T72 t681 x52_1).f1))) (fun _ hk => hk.1.1)⟩, ⟨by (with_reducible repeat (first | apply Kd.R_alloc | apply Kd.R_drewN | apply Kd.R_drew)); exact Kd.R_mono (Kd.R_far (p := ⟨gb692, 1, none⟩) (Kd.R_far (p := ⟨gb692, 0, none⟩) (Kd.R_mono HO_50.out (fun k_ hk => (⟨hk, hk.2⟩ : _ ∧ k_ ≠ gb692))) (fun _ hk => hk.2) (.int .i64 ((rd_T72 t681 x52_1).f0))) (fun _ hk => hk.2) (.int .i64 ((rd_T72 t681 x52_1).f1))) (fun _ hk => hk.1.1)⟩, ⟨by (with_reducible repeat (first | refine blk_drewN ?_ _ | refine blk_drew ?_ | refine blk_alloc ?_ _)); refine blk_far ?_ NB677_692.out _; (with_reducible repeat (first | refine blk_drewN ?_ _ | refine blk_drew ?_ | refine blk_alloc ?_ _)); refine blk_far ?_ NB677_692.out _; (with_reducible repeat (first | refine blk_drewN ?_ _ | refine blk_drew ?_ | refine blk_alloc ?_ _)); exact BK677.out⟩, ⟨by (with_reducible repeat (first | refine blk_drewN ?_ _ | refine blk_drew ?_ | refine blk_alloc ?_ _)); refine blk_far ?_ NB690_692.out _; (with_reducible repeat (first | refine blk_drewN ?_ _ | refine blk_drew ?_ | refine blk_alloc ?_ _)); refine blk_far ?_ NB690_692.out _; (with_reducible repeat (first | refine blk_drewN ?_ _ | refine blk_drew ?_ | refine blk_alloc ?_ _)); exact BK690.out⟩, ⟨by repeat (first | (with_reducible first | exact HB.out | apply below_alloc | apply pw_below_drewN | apply below_drew1 | refine below_set ?_ GE677.out | refine below_set ?_ GE690.out | refine below_set ?_ GE692.out) | exact HB.out)⟩⟩
            · rw [if_neg c29] at H
              exact absurd H (by simp)
          · rw [if_neg c28] at H
            exact absurd H (by simp)
        · rw [if_neg c27] at H
          have c27b0 : decide (x52_1 < (t681.length : Int)) = false := decide_eq_false c27
          clear c27
          replace H := Option.bind_eq_some_iff.mp H
          obtain ⟨t693, A340, H⟩ := H
          replace H : ((weirkeeperlaw05_refs.f k1 l3).bind fun t694 => ((weirkeeperref05_Right.f k1 a1 a2 t694).bind fun t697 => (if (t693 == t697) = true then ((weirkeeperlaw05_refs.f k1 t671).bind fun t698 => ((weirkeeperref05_Same.f k1 t698 t681).bind fun t701 => (if t701 = true then (if (t674 == t687 && (t675 == t688)) = true then (if t676 = t689 then ((space_Left.f k1 a1 a2 l3).bind fun t702 => (if t702 = x15_1 then ((weirkeeperlaw05_awake.f k1).bind fun t703 => (some t703)) else (some false))) else (some false)) else (some false)) else (some false)))) else (some false)))) = some true := H
          have A34 := Aside0.mk A340
          clear A340
          replace H := Option.bind_eq_some_iff.mp H
          obtain ⟨t694, A350, H⟩ := H
          replace H : ((weirkeeperref05_Right.f k1 a1 a2 t694).bind fun t697 => (if (t693 == t697) = true then ((weirkeeperlaw05_refs.f k1 t671).bind fun t698 => ((weirkeeperref05_Same.f k1 t698 t681).bind fun t701 => (if t701 = true then (if (t674 == t687 && (t675 == t688)) = true then (if t676 = t689 then ((space_Left.f k1 a1 a2 l3).bind fun t702 => (if t702 = x15_1 then ((weirkeeperlaw05_awake.f k1).bind fun t703 => (some t703)) else (some false))) else (some false)) else (some false)) else (some false)))) else (some false))) = some true := H
          have A35 := Aside0.mk A350
          clear A350
          replace H := Option.bind_eq_some_iff.mp H
          obtain ⟨t697, A360, H⟩ := H
          replace H : (if (t693 == t697) = true then ((weirkeeperlaw05_refs.f k1 t671).bind fun t698 => ((weirkeeperref05_Same.f k1 t698 t681).bind fun t701 => (if t701 = true then (if (t674 == t687 && (t675 == t688)) = true then (if t676 = t689 then ((space_Left.f k1 a1 a2 l3).bind fun t702 => (if t702 = x15_1 then ((weirkeeperlaw05_awake.f k1).bind fun t703 => (some t703)) else (some false))) else (some false)) else (some false)) else (some false)))) else (some false)) = some true := H
          have A36 := Aside0.mk A360
          clear A360
          by_cases c37 : (t693 == t697) = true
          · rw [if_pos c37] at H
            have c37b0 : (t693 == t697) = true := c37
            (try (have c37b1 : decide (t693 = t697) = true := by simpa using c37))
            (try (have c37b2 : (t693 == t697) = true := by simpa using c37))
            clear c37
            replace H := Option.bind_eq_some_iff.mp H
            obtain ⟨t698, A380, H⟩ := H
            replace H : ((weirkeeperref05_Same.f k1 t698 t681).bind fun t701 => (if t701 = true then (if (t674 == t687 && (t675 == t688)) = true then (if t676 = t689 then ((space_Left.f k1 a1 a2 l3).bind fun t702 => (if t702 = x15_1 then ((weirkeeperlaw05_awake.f k1).bind fun t703 => (some t703)) else (some false))) else (some false)) else (some false)) else (some false))) = some true := H
            have A38 := Aside0.mk A380
            clear A380
            replace H := Option.bind_eq_some_iff.mp H
            obtain ⟨t701, A390, H⟩ := H
            replace H : (if t701 = true then (if (t674 == t687 && (t675 == t688)) = true then (if t676 = t689 then ((space_Left.f k1 a1 a2 l3).bind fun t702 => (if t702 = x15_1 then ((weirkeeperlaw05_awake.f k1).bind fun t703 => (some t703)) else (some false))) else (some false)) else (some false)) else (some false)) = some true := H
            have A39 := Aside0.mk A390
            clear A390
            by_cases c40 : t701 = true
            · subst c40
              have H1 : (if (t674 == t687 && (t675 == t688)) = true then (if t676 = t689 then ((space_Left.f k1 a1 a2 l3).bind fun t702 => (if t702 = x15_1 then ((weirkeeperlaw05_awake.f k1).bind fun t703 => (some t703)) else (some false))) else (some false)) else (some false)) = some true := by rw [if_pos rfl] at H; exact H
              clear H
              have H := H1
              clear H1
              by_cases c41 : (t674 == t687 && (t675 == t688)) = true
              · rw [if_pos c41] at H
                have c41b0 : (t674 == t687 && (t675 == t688)) = true := c41
                (try (have c41b1 : decide (t674 = t687 && (t675 == t688)) = true := by simpa using c41))
                (try (have c41b2 : (t674 == t687 && (t675 == t688)) = true := by simpa using c41))
                clear c41
                have E_c41 : t674 = t687 ∧ t675 = t688 := by simpa using c41b0
                (try clear c41b0)
                (try clear c41b1)
                (try clear c41b2)
                obtain ⟨e0_, e1_⟩ := E_c41
                (have e0s := e0_.symm; clear e0_; subst e0s)
                (have e1s := e1_.symm; clear e1_; subst e1s)
                by_cases c42 : t676 = t689
                · rw [if_pos c42] at H
                  have c42b0 : (t676 == t689) = true := beq_iff_eq.mpr c42
                  have c42b1 : (t676 != t689) = false := bne_eq_false_iff_eq.mpr c42
                  clear c42
                  replace H := Option.bind_eq_some_iff.mp H
                  obtain ⟨t702, A430, H⟩ := H
                  replace H : (if t702 = x15_1 then ((weirkeeperlaw05_awake.f k1).bind fun t703 => (some t703)) else (some false)) = some true := H
                  have A43 := Aside0.mk A430
                  clear A430
                  by_cases c44 : t702 = x15_1
                  · rw [if_pos c44] at H
                    have c44b0 : (t702 == x15_1) = true := beq_iff_eq.mpr c44
                    have c44b1 : (t702 != x15_1) = false := bne_eq_false_iff_eq.mpr c44
                    clear c44
                    replace H := Option.bind_eq_some_iff.mp H
                    obtain ⟨t703, A450, H⟩ := H
                    replace H : (some t703) = some true := H
                    have A45 := Aside0.mk A450
                    clear A450
                    (have H9_ := Option.some.inj H; first | subst H9_ | (have h9_ := Aside0.mk H9_; clear H9_))
                    go_wp2_with (first | ((with_reducible refine gate_callee (f := 36) rfl ?_); refine goesL_ (some 64) rfl rfl Try.func36 (by kernel_rfl) rfl #[.int .i64 a1, .int .i64 a2, .slice A3 l3.length c3] rfl (by (try simp only [List.map_toArray, List.map_cons, List.map_nil]); first | done | rfl | (simp only [List.length_drop, List.length_take]; rfl)) ?_; (with_reducible refine (space_Right.calls k1 a1 a2 _ _ l3 t693 _ ?side1 ?side2 A34.out).mono ?_); (case side1 => repeat (first | exact (Kd.C_below HR3.out HB.out) | (with_reducible refine Kd.C_alloc ?_ _) | (with_reducible refine Kd.C_drewN ?_ _) | (with_reducible refine Kd.C_drew ?_))); (case side2 => exact HC3.out); rintro e w46 ⟨rfl, hb⟩; refine ⟨_, rfl, ?_⟩; have n0_ := Aside0.mk (Kd.R_below (by (with_reducible repeat (first | apply Kd.R_alloc | apply Kd.R_drewN | apply Kd.R_drew)); exact HO_9.out) hb); have n1_ := Aside0.mk (Kd.R_below (by (with_reducible repeat (first | apply Kd.R_alloc | apply Kd.R_drewN | apply Kd.R_drew)); exact HO_12.out) hb); have n2_ := Aside0.mk (Kd.R_below (by (with_reducible repeat (first | apply Kd.R_alloc | apply Kd.R_drewN | apply Kd.R_drew)); exact HO_50.out) hb); have n3_ := Aside0.mk (blk_below (g := gb677) (o := .cells #[.int .i64 t687, .int .i64 t688] 66 (0, 0)) (by (with_reducible repeat (first | refine blk_drewN ?_ _ | refine blk_drew ?_ | refine blk_alloc ?_ _)); exact BK677.out) hb); have n4_ := Aside0.mk (blk_below (g := gb690) (o := .cells #[.int .i64 t687, .int .i64 t688] 72 (0, 0)) (by (with_reducible repeat (first | refine blk_drewN ?_ _ | refine blk_drew ?_ | refine blk_alloc ?_ _)); exact BK690.out) hb); have n5_ := Aside0.mk (below_step (by repeat (first | (with_reducible first | exact HB.out | apply below_alloc | apply pw_below_drewN | apply below_drew1 | refine below_set ?_ GE677.out | refine below_set ?_ GE690.out) | exact HB.out)) hb); clear HO_9; clear HO_12; clear HO_50; clear BK677; clear BK690; clear HB; have HO_9 := n0_; have HO_12 := n1_; have HO_50 := n2_; have BK677 := n3_; have BK690 := n4_; have HB := n5_; clear n0_ n1_ n2_ n3_ n4_ n5_; (try clear hb); (try clear hb2); (try clear hk); (try clear hi)) | ((with_reducible refine gate_callee (f := 34) rfl ?_); refine goesL_ (some 68) rfl rfl Try.func34 (by kernel_rfl) rfl #[.slice A3 l3.length c3] rfl (by (try simp only [List.map_toArray, List.map_cons, List.map_nil]); first | done | rfl | (simp only [List.length_drop, List.length_take]; rfl)) ?_; (with_reducible refine (weirkeeperlaw05_refs.calls k1 _ _ l3 t694 _ ?side1 ?side2 A35.out).mono ?_); (case side1 => repeat (first | exact (Kd.C_below HR3.out HB.out) | (with_reducible refine Kd.C_alloc ?_ _) | (with_reducible refine Kd.C_drewN ?_ _) | (with_reducible refine Kd.C_drew ?_))); (case side2 => exact HC3.out); rintro e w47 ⟨v695, rfl, ho0, hb⟩; refine ⟨_, rfl, ?_⟩; have n0_ := Aside0.mk (Kd.R_below (by (with_reducible repeat (first | apply Kd.R_alloc | apply Kd.R_drewN | apply Kd.R_drew)); exact HO_9.out) hb); have n1_ := Aside0.mk (Kd.R_elder' (by (with_reducible repeat (first | apply Kd.R_alloc | apply Kd.R_drewN | apply Kd.R_drew)); exact HO_12.out) (Kd.R_base ho0) hb); have n2_ := Aside0.mk (Kd.R_elder' (by (with_reducible repeat (first | apply Kd.R_alloc | apply Kd.R_drewN | apply Kd.R_drew)); exact HO_50.out) (Kd.R_base ho0) hb); have n3_ := Aside0.mk (Kd.R_lower (Kd.R_newB (Kd.R_new' (Kd.R_new' ho0 (Kd.R_lt (by (with_reducible repeat (first | apply Kd.R_alloc | apply Kd.R_drewN | apply Kd.R_drew)); exact HO_12.out))) (Kd.R_lt (by (with_reducible repeat (first | apply Kd.R_alloc | apply Kd.R_drewN | apply Kd.R_drew)); exact HO_50.out))) (g := gb690) (o := .cells #[.int .i64 t687, .int .i64 t688] 72 (0, 0)) (by (with_reducible repeat (first | refine blk_drewN ?_ _ | refine blk_drew ?_ | refine blk_alloc ?_ _)); exact BK690.out)) (below_size (by repeat (first | (with_reducible first | exact HB.out | apply below_alloc | apply pw_below_drewN | apply below_drew1 | refine below_set ?_ GE677.out | refine below_set ?_ GE690.out) | exact HB.out)))); have n4_ := Aside0.mk (blk_below (g := gb677) (o := .cells #[.int .i64 t687, .int .i64 t688] 66 (0, 0)) (by (with_reducible repeat (first | refine blk_drewN ?_ _ | refine blk_drew ?_ | refine blk_alloc ?_ _)); exact BK677.out) hb); have n5_ := Aside0.mk (blk_below (g := gb690) (o := .cells #[.int .i64 t687, .int .i64 t688] 72 (0, 0)) (by (with_reducible repeat (first | refine blk_drewN ?_ _ | refine blk_drew ?_ | refine blk_alloc ?_ _)); exact BK690.out) hb); have n6_ := Aside0.mk (below_step (by repeat (first | (with_reducible first | exact HB.out | apply below_alloc | apply pw_below_drewN | apply below_drew1 | refine below_set ?_ GE677.out | refine below_set ?_ GE690.out) | exact HB.out)) hb); clear HO_9; clear HO_12; clear HO_50; clear BK677; clear BK690; clear HB; have HO_9 := n0_; have HO_12 := n1_; have HO_50 := n2_; have HO696 := n3_; have BK677 := n4_; have BK690 := n5_; have HB := n6_; clear n0_ n1_ n2_ n3_ n4_ n5_ n6_; (try clear hb); (try clear hb2); (try clear hk); (try clear hi); (try clear ho0); obtain ⟨Ao48, co48, eo48⟩ := Kd.R_slice HO696.out; subst eo48) | ((with_reducible refine gate_callee (f := 37) rfl ?_); refine goesL_ (some 69) rfl rfl Try.func37 (by kernel_rfl) rfl #[.int .i64 a1, .int .i64 a2, .slice Ao48 t694.length co48] rfl (by (try simp only [List.map_toArray, List.map_cons, List.map_nil]); first | done | rfl | (simp only [List.length_drop, List.length_take]; rfl)) ?_; (with_reducible refine (weirkeeperref05_Right.calls k1 a1 a2 _ _ t694 t697 _ ?side1 ?side2 A36.out).mono ?_); (case side1 => repeat (first | exact (Kd.R_reads' HO696.out).2.2 | (with_reducible refine Kd.C_alloc ?_ _) | (with_reducible refine Kd.C_drewN ?_ _) | (with_reducible refine Kd.C_drew ?_))); (case side2 => exact (Kd.R_reads' HO696.out).2.1); rintro e w' ⟨rfl, ⟨nd, rfl⟩⟩; refine ⟨_, rfl, ?_⟩; obtain ⟨Ao49, co49, eo49⟩ := Kd.R_slice HO_9.out; subst eo49) | (go_at_call 34; (with_reducible refine (weirkeeperlaw05_refs.calls k1 _ _ t671 t698 _ ?side1 ?side2 A38.out).mono ?_); (case side1 => repeat (first | exact (Kd.R_reads' HO_9.out).2.2 | (with_reducible refine Kd.C_alloc ?_ _) | (with_reducible refine Kd.C_drewN ?_ _) | (with_reducible refine Kd.C_drew ?_))); (case side2 => exact (Kd.R_reads' HO_9.out).2.1); rintro e w50 ⟨v699, rfl, ho0, hb⟩; have n0_ := Aside0.mk (Kd.R_below (by (with_reducible repeat (first | apply Kd.R_alloc | apply Kd.R_drewN | apply Kd.R_drew)); exact HO_9.out) hb); have n1_ := Aside0.mk (Kd.R_elder' (by (with_reducible repeat (first | apply Kd.R_alloc | apply Kd.R_drewN | apply Kd.R_drew)); exact HO_12.out) (Kd.R_base ho0) hb); have n2_ := Aside0.mk (Kd.R_elder' (by (with_reducible repeat (first | apply Kd.R_alloc | apply Kd.R_drewN | apply Kd.R_drew)); exact HO_50.out) (Kd.R_base ho0) hb); have n3_ := Aside0.mk (Kd.R_elder' (by (with_reducible repeat (first | apply Kd.R_alloc | apply Kd.R_drewN | apply Kd.R_drew)); exact HO696.out) (Kd.R_base ho0) hb); have n4_ := Aside0.mk (Kd.R_lower (Kd.R_newB (Kd.R_new' (Kd.R_new' (Kd.R_new' ho0 (Kd.R_lt (by (with_reducible repeat (first | apply Kd.R_alloc | apply Kd.R_drewN | apply Kd.R_drew)); exact HO_12.out))) (Kd.R_lt (by (with_reducible repeat (first | apply Kd.R_alloc | apply Kd.R_drewN | apply Kd.R_drew)); exact HO_50.out))) (Kd.R_lt (by (with_reducible repeat (first | apply Kd.R_alloc | apply Kd.R_drewN | apply Kd.R_drew)); exact HO696.out))) (g := gb690) (o := .cells #[.int .i64 t687, .int .i64 t688] 72 (0, 0)) (by (with_reducible repeat (first | refine blk_drewN ?_ _ | refine blk_drew ?_ | refine blk_alloc ?_ _)); exact BK690.out)) (below_size (by repeat (first | (with_reducible first | exact HB.out | apply below_alloc | apply pw_below_drewN | apply below_drew1 | refine below_set ?_ GE677.out | refine below_set ?_ GE690.out) | exact HB.out)))); have n5_ := Aside0.mk (blk_below (g := gb677) (o := .cells #[.int .i64 t687, .int .i64 t688] 66 (0, 0)) (by (with_reducible repeat (first | refine blk_drewN ?_ _ | refine blk_drew ?_ | refine blk_alloc ?_ _)); exact BK677.out) hb); have n6_ := Aside0.mk (blk_below (g := gb690) (o := .cells #[.int .i64 t687, .int .i64 t688] 72 (0, 0)) (by (with_reducible repeat (first | refine blk_drewN ?_ _ | refine blk_drew ?_ | refine blk_alloc ?_ _)); exact BK690.out) hb); have n7_ := Aside0.mk (below_step (by repeat (first | (with_reducible first | exact HB.out | apply below_alloc | apply pw_below_drewN | apply below_drew1 | refine below_set ?_ GE677.out | refine below_set ?_ GE690.out) | exact HB.out)) hb); clear HO_9; clear HO_12; clear HO_50; clear HO696; clear BK677; clear BK690; clear HB; have HO_9 := n0_; have HO_12 := n1_; have HO_50 := n2_; have HO696 := n3_; have HO700 := n4_; have BK677 := n5_; have BK690 := n6_; have HB := n7_; clear n0_ n1_ n2_ n3_ n4_ n5_ n6_ n7_; (try clear hb); (try clear hb2); (try clear hk); (try clear hi); (try clear ho0); obtain ⟨Ao51, co51, eo51⟩ := Kd.R_slice HO700.out; subst eo51) | (go_at_call 38; (with_reducible refine (weirkeeperref05_Same.calls k1 _ _ t698 _ _ t681 true _ ?side1 ?side2 ?side3 ?side4 A39.out).mono ?_); (case side1 => repeat (first | exact (Kd.R_reads' HO700.out).2.2 | (with_reducible refine Kd.C_alloc ?_ _) | (with_reducible refine Kd.C_drewN ?_ _) | (with_reducible refine Kd.C_drew ?_))); (case side2 => exact (Kd.R_reads' HO700.out).2.1); (case side3 => repeat (first | exact (Kd.R_reads' HO_12.out).2.2 | (with_reducible refine Kd.C_alloc ?_ _) | (with_reducible refine Kd.C_drewN ?_ _) | (with_reducible refine Kd.C_drew ?_))); (case side4 => exact (Kd.R_reads' HO_12.out).2.1); rintro e w' ⟨rfl, ⟨nd, rfl⟩⟩; have hnb52 := NB677_690.out; have hnc52 := NB690_677.out; have hcz53_0 : w50.cell? ⟨gb677, 0, none⟩ = some (.int .i64 t687) := (blk_cell BK677.out 0).trans rfl; have hcz53_1 : w50.cell? ⟨gb677, 1, none⟩ = some (.int .i64 t688) := (blk_cell BK677.out 1).trans rfl; have hfz53_0 := blk_frozen BK677.out 0; have hfz53_1 := blk_frozen BK677.out 1; have hcz54_0 : w50.cell? ⟨gb690, 0, none⟩ = some (.int .i64 t687) := (blk_cell BK690.out 0).trans rfl; have hcz54_1 : w50.cell? ⟨gb690, 1, none⟩ = some (.int .i64 t688) := (blk_cell BK690.out 1).trans rfl; have hfz54_0 := blk_frozen BK690.out 0; have hfz54_1 := blk_frozen BK690.out 1) | (go_at_call 39; (with_reducible refine (space_Left.calls k1 a1 a2 _ _ l3 t702 _ ?side1 ?side2 A43.out).mono ?_); (case side1 => repeat (first | exact (Kd.C_below HR3.out (by repeat (first | (with_reducible first | exact HB.out | apply below_alloc | apply pw_below_drewN | apply below_drew1 | refine below_set ?_ GE677.out | refine below_set ?_ GE690.out) | exact HB.out))) | (with_reducible refine Kd.C_alloc ?_ _) | (with_reducible refine Kd.C_drewN ?_ _) | (with_reducible refine Kd.C_drew ?_))); (case side2 => exact HC3.out); rintro e w55 ⟨rfl, hb⟩; have n0_ := Aside0.mk (Kd.R_below (by (with_reducible repeat (first | apply Kd.R_alloc | apply Kd.R_drewN | apply Kd.R_drew)); exact HO_9.out) hb); have n1_ := Aside0.mk (Kd.R_below (by (with_reducible repeat (first | apply Kd.R_alloc | apply Kd.R_drewN | apply Kd.R_drew)); exact HO_12.out) hb); have n2_ := Aside0.mk (Kd.R_below (by (with_reducible repeat (first | apply Kd.R_alloc | apply Kd.R_drewN | apply Kd.R_drew)); exact HO_50.out) hb); have n3_ := Aside0.mk (Kd.R_below (by (with_reducible repeat (first | apply Kd.R_alloc | apply Kd.R_drewN | apply Kd.R_drew)); exact HO696.out) hb); have n4_ := Aside0.mk (Kd.R_below (by (with_reducible repeat (first | apply Kd.R_alloc | apply Kd.R_drewN | apply Kd.R_drew)); exact HO700.out) hb); have n5_ := Aside0.mk (blk_below (g := gb677) (o := .cells #[.int .i64 t687, .int .i64 t688] 66 (0, 0)) (by (with_reducible repeat (first | refine blk_drewN ?_ _ | refine blk_drew ?_ | refine blk_alloc ?_ _)); exact BK677.out) hb); have n6_ := Aside0.mk (blk_below (g := gb690) (o := .cells #[.int .i64 t687, .int .i64 t688] 72 (0, 0)) (by (with_reducible repeat (first | refine blk_drewN ?_ _ | refine blk_drew ?_ | refine blk_alloc ?_ _)); exact BK690.out) hb); have n7_ := Aside0.mk (below_step (by repeat (first | (with_reducible first | exact HB.out | apply below_alloc | apply pw_below_drewN | apply below_drew1 | refine below_set ?_ GE677.out | refine below_set ?_ GE690.out) | exact HB.out)) hb); clear HO_9; clear HO_12; clear HO_50; clear HO696; clear HO700; clear BK677; clear BK690; clear HB; have HO_9 := n0_; have HO_12 := n1_; have HO_50 := n2_; have HO696 := n3_; have HO700 := n4_; have BK677 := n5_; have BK690 := n6_; have HB := n7_; clear n0_ n1_ n2_ n3_ n4_ n5_ n6_ n7_; (try clear hb); (try clear hb2); (try clear hk); (try clear hi)) | (go_at_call 30; (with_reducible refine (weirkeeperlaw05_awake.calls k1 _ A45.out).mono ?_); rintro e w56 ⟨rfl, hb⟩; have n0_ := Aside0.mk (Kd.R_below (by (with_reducible repeat (first | apply Kd.R_alloc | apply Kd.R_drewN | apply Kd.R_drew)); exact HO_9.out) hb); have n1_ := Aside0.mk (Kd.R_below (by (with_reducible repeat (first | apply Kd.R_alloc | apply Kd.R_drewN | apply Kd.R_drew)); exact HO_12.out) hb); have n2_ := Aside0.mk (Kd.R_below (by (with_reducible repeat (first | apply Kd.R_alloc | apply Kd.R_drewN | apply Kd.R_drew)); exact HO_50.out) hb); have n3_ := Aside0.mk (Kd.R_below (by (with_reducible repeat (first | apply Kd.R_alloc | apply Kd.R_drewN | apply Kd.R_drew)); exact HO696.out) hb); have n4_ := Aside0.mk (Kd.R_below (by (with_reducible repeat (first | apply Kd.R_alloc | apply Kd.R_drewN | apply Kd.R_drew)); exact HO700.out) hb); have n5_ := Aside0.mk (blk_below (g := gb677) (o := .cells #[.int .i64 t687, .int .i64 t688] 66 (0, 0)) (by (with_reducible repeat (first | refine blk_drewN ?_ _ | refine blk_drew ?_ | refine blk_alloc ?_ _)); exact BK677.out) hb); have n6_ := Aside0.mk (blk_below (g := gb690) (o := .cells #[.int .i64 t687, .int .i64 t688] 72 (0, 0)) (by (with_reducible repeat (first | refine blk_drewN ?_ _ | refine blk_drew ?_ | refine blk_alloc ?_ _)); exact BK690.out) hb); have n7_ := Aside0.mk (below_step (by repeat (first | (with_reducible first | exact HB.out | apply below_alloc | apply pw_below_drewN | apply below_drew1 | refine below_set ?_ GE677.out | refine below_set ?_ GE690.out) | exact HB.out)) hb); clear HO_9; clear HO_12; clear HO_50; clear HO696; clear HO700; clear BK677; clear BK690; clear HB; have HO_9 := n0_; have HO_12 := n1_; have HO_50 := n2_; have HO696 := n3_; have HO700 := n4_; have BK677 := n5_; have BK690 := n6_; have HB := n7_; clear n0_ n1_ n2_ n3_ n4_ n5_ n6_ n7_; (try clear hb); (try clear hb2); (try clear hk); (try clear hi)))
                    go_ret
                    exact ⟨by first | rfl | (simp only [h9_.out]; done) | (have h8_ := h9_.out; simp [h8_]; done) | (simp [errW_none, errW_some] <;> rfl) | (simp [*, errW_none, errW_some] <;> rfl), by repeat (first | (with_reducible first | exact HB.out | apply below_alloc | apply pw_below_drewN | apply below_drew1 | refine below_set ?_ GE677.out | refine below_set ?_ GE690.out) | exact HB.out)⟩
                  · rw [if_neg c44] at H
                    have c44b0 : (t702 == x15_1) = false := beq_eq_false_iff_ne.mpr c44
                    have c44b1 : (t702 != x15_1) = true := bne_iff_ne.mpr c44
                    exact absurd H (by simp)
                · rw [if_neg c42] at H
                  have c42b0 : (t676 == t689) = false := beq_eq_false_iff_ne.mpr c42
                  have c42b1 : (t676 != t689) = true := bne_iff_ne.mpr c42
                  exact absurd H (by simp)
              · rw [if_neg c41] at H
                have c41b0 : (t674 == t687 && (t675 == t688)) = false := by simpa using c41
                (try (have c41b1 : decide (t674 = t687 && (t675 == t688)) = false := by simpa using c41))
                (try (have c41b2 : (t674 == t687 && (t675 == t688)) = false := by simpa using c41))
                (try (have c41b3 : ¬ (t674 = t687 && (t675 == t688)) := by simpa using c41))
                clear c41
                exact absurd H (by simp)
            · replace c40 := Bool.eq_false_iff.mpr c40
              subst c40
              have H1 : (some false) = some true := by rw [if_neg (show ¬ (false = true) by decide)] at H; exact H
              clear H
              have H := H1
              clear H1
              exact absurd H (by simp)
          · rw [if_neg c37] at H
            have c37b0 : (t693 == t697) = false := by simpa using c37
            (try (have c37b1 : decide (t693 = t697) = false := by simpa using c37))
            (try (have c37b2 : (t693 == t697) = false := by simpa using c37))
            (try (have c37b3 : ¬ (t693 = t697) := by simpa using c37))
            clear c37
            exact absurd H (by simp)
  · replace c6 := Bool.eq_false_iff.mpr c6
    subst c6
    have H1 : ((weirkeeperlaw05_awake.f k).bind fun t670 => (some t670)) = some true := by rw [if_neg (show ¬ (false = true) by decide)] at H; exact H
    clear H
    have H := H1
    clear H1
    replace H := Option.bind_eq_some_iff.mp H
    obtain ⟨t670, A570, H⟩ := H
    replace H : (some t670) = some true := H
    have A57 := Aside0.mk A570
    clear A570
    (have H9_ := Option.some.inj H; first | subst H9_ | (have h9_ := Aside0.mk H9_; clear H9_))
    go_enter Try.func8, Try.ntmps8
    go_wp2_with (first | ((with_reducible refine gate_callee (f := 29) rfl ?_); refine goesL_ (some 21) rfl rfl Try.func29 (by kernel_rfl) rfl #[.int .i64 a1, .int .i64 a2, .slice A3 l3.length c3] rfl (by (try simp only [List.map_toArray, List.map_cons, List.map_nil]); first | done | rfl | (simp only [List.length_drop, List.length_take]; rfl)) ?_; (with_reducible refine (weirkeeperlaw05_small.calls a1 a2 _ _ l3 false _ ?side1 ?side2 A5.out).mono ?_); (case side1 => repeat (first | exact HR3.out | (with_reducible refine Kd.C_alloc ?_ _) | (with_reducible refine Kd.C_drewN ?_ _) | (with_reducible refine Kd.C_drew ?_))); (case side2 => exact HC3.out); rintro e w' ⟨rfl, ⟨nd, rfl⟩⟩; refine ⟨_, rfl, ?_⟩) | ((with_reducible refine gate_callee (f := 30) rfl ?_); refine goesL_ (some 23) rfl rfl Try.func30 (by kernel_rfl) rfl #[] rfl (by (try simp only [List.map_toArray, List.map_cons, List.map_nil]); first | done | rfl | (simp only [List.length_drop, List.length_take]; rfl)) ?_; (with_reducible refine (weirkeeperlaw05_awake.calls k _ A57.out).mono ?_); rintro e w58 ⟨rfl, hb⟩; refine ⟨_, rfl, ?_⟩; have n0_ := Aside0.mk (below_step (by repeat (first | (with_reducible first | exact HB.out | apply below_alloc | apply pw_below_drewN | apply below_drew1) | exact HB.out)) hb); clear HB; have HB := n0_; clear n0_; (try clear hb); (try clear hb2); (try clear hk); (try clear hi)))
    go_ret
    exact ⟨by first | rfl | (simp only [h9_.out]; done) | (have h8_ := h9_.out; simp [h8_]; done) | (simp [errW_none, errW_some] <;> rfl) | (simp [*, errW_none, errW_some] <;> rfl), by repeat (first | (with_reducible first | exact HB.out | apply below_alloc | apply pw_below_drewN | apply below_drew1) | exact HB.out)⟩

end Go.Proofs.Ythcohkgpbjcliaa.F

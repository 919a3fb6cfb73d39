/- Contracts of Go functions of the seat Ythcohkgpbjcliaa: what a call comes to; no condition but those that each theorem names. -/
import Derived.Test.YthcohkgpbjcliaaFPre
import Derived.Test.YthcohkgpbjcliaaFspacex0
import Derived.Test.YthcohkgpbjcliaaFlaw05awake
namespace Go.Proofs.Ythcohkgpbjcliaa.F
open Go.RowKit Go.Proofs.YthcohkgpbjcliaaW.PrintWords Go.Proofs.YthcohkgpbjcliaaW.PrintLast Go.Proofs.YthcohkgpbjcliaaW.PrintMore
attribute [local go_sem] max2_int min2_int max_two min_two max_three min_three max_four min_four   -- for this text's walks alone
set_option linter.unusedVariables false
set_option linter.unusedSimpArgs false

attribute [local go_sem] fieldD25_0 fieldD25_1
/-! ### weirkeeperlaw05_SpaceGreatest: function 13 -/
mutual
def weirkeeperlaw05_SpaceGreatest.j0 : Nat → Int → Int → Int → List (S66) → Bool → Option (Bool)
  | 0, _, _, _, _, _ => none
  | k + 1, x0, x1, x2, x3, x33 => if x33 = true then ((weirkeeperlaw05_awake.f k).bind fun t823 => (some t823)) else ((space_Free.f k x1 x2 x3).bind fun t824 => (weirkeeperlaw05_SpaceGreatest.l0 k x0 x1 x2 x3 0 t824 (t824.length : Int) 0))
def weirkeeperlaw05_SpaceGreatest.l0 : Nat → Int → Int → Int → List (S66) → Int → List (S66) → Int → Int → Option (Bool)
  | 0, _, _, _, _, _, _, _, _ => none
  | k + 1, x0, x1, x2, x3, x9, x38, x39, x40 => if x40 < x39 then (if 0 ≤ x40 then (if x40 < (x38.length : Int) then (weirkeeperlaw05_SpaceGreatest.l0 k x0 x1 x2 x3 (mx x9 ((rd_T66 x38 x40).f1)) x38 x39 (wrap64 (x40 + 1))) else (none)) else (none)) else ((space_Fit.f k x0 x1 x2 x3).bind fun bt829 => (if x9 = 0 then (if bt829.2.2 = 5 then ((weirkeeperlaw05_awake.f k).bind fun t833 => (some t833)) else (some false)) else ((space_Fit.f k x9 x1 x2 x3).bind fun bt834 => (if ((bt829.2.2 == 0) == (decide (x0 ≤ x9))) = true then (if bt834.2.2 = 0 then (if bt834.2.1 = x9 then ((weirkeeperlaw05_awake.f k).bind fun t838 => (some t838)) else (some false)) else (some false)) else (some false)))))
end
def weirkeeperlaw05_SpaceGreatest.f (k : Nat) (a0 : Int) (a1 : Int) (a2 : Int) (l3 : List (S66)) : Option (Bool) := if (l3.length : Int) > 30 then (weirkeeperlaw05_SpaceGreatest.j0 k a0 a1 a2 l3 true) else (if a0 < 1 then (weirkeeperlaw05_SpaceGreatest.j0 k a0 a1 a2 l3 true) else (if a0 > 2147483647 then (weirkeeperlaw05_SpaceGreatest.j0 k a0 a1 a2 l3 true) else ((space_Right.f k a1 a2 l3).bind fun t822 => (weirkeeperlaw05_SpaceGreatest.j0 k a0 a1 a2 l3 (!t822)))))
theorem weirkeeperlaw05_SpaceGreatest.mono_l : ∀ k, (∀ y0 y1 y2 y3 y4, LeO (weirkeeperlaw05_SpaceGreatest.j0 k y0 y1 y2 y3 y4) (weirkeeperlaw05_SpaceGreatest.j0 (k + 1) y0 y1 y2 y3 y4)) ∧ (∀ y0 y1 y2 y3 y4 y5 y6 y7, LeO (weirkeeperlaw05_SpaceGreatest.l0 k y0 y1 y2 y3 y4 y5 y6 y7) (weirkeeperlaw05_SpaceGreatest.l0 (k + 1) y0 y1 y2 y3 y4 y5 y6 y7))
  | 0 => ⟨fun _ _ _ _ _ r h => by simp [weirkeeperlaw05_SpaceGreatest.j0] at h, fun _ _ _ _ _ _ _ _ r h => by simp [weirkeeperlaw05_SpaceGreatest.l0] at h⟩
  | k + 1 => by
    obtain ⟨ih0, ih1⟩ := weirkeeperlaw05_SpaceGreatest.mono_l k
    refine ⟨?_, ?_⟩
    · intro y0 y1 y2 y3 y4
      unfold weirkeeperlaw05_SpaceGreatest.j0
      repeat' first
      | (with_reducible exact ih0 _ _ _ _ _)
      | (with_reducible exact ih1 _ _ _ _ _ _ _ _)
      | (with_reducible exact space_Fit.mono _ _ _ _ _)
      | (with_reducible exact space_Free.mono _ _ _ _)
      | (with_reducible exact space_Right.mono _ _ _ _)
      | (with_reducible exact weirkeeperlaw05_awake.mono _)
      | (with_reducible exact LeO.refl _)
      | (with_reducible exact LeO.none _)
      | (with_reducible refine LeO.ite ?_ ?_)
      | (with_reducible refine LeO.bind ?_ (fun _ => ?_))
      | exact ih0 _ _ _ _ _
      | exact ih1 _ _ _ _ _ _ _ _
      | exact space_Fit.mono _ _ _ _ _
      | exact space_Free.mono _ _ _ _
      | exact space_Right.mono _ _ _ _
      | exact weirkeeperlaw05_awake.mono _
      | exact LeO.none _
      | refine LeO.ite ?_ ?_
      | refine LeO.bind ?_ (fun _ => ?_)
    · intro y0 y1 y2 y3 y4 y5 y6 y7
      unfold weirkeeperlaw05_SpaceGreatest.l0
      repeat' first
      | (with_reducible exact ih0 _ _ _ _ _)
      | (with_reducible exact ih1 _ _ _ _ _ _ _ _)
      | (with_reducible exact space_Fit.mono _ _ _ _ _)
      | (with_reducible exact space_Free.mono _ _ _ _)
      | (with_reducible exact space_Right.mono _ _ _ _)
      | (with_reducible exact weirkeeperlaw05_awake.mono _)
      | (with_reducible exact LeO.refl _)
      | (with_reducible exact LeO.none _)
      | (with_reducible refine LeO.ite ?_ ?_)
      | (with_reducible refine LeO.bind ?_ (fun _ => ?_))
      | exact ih0 _ _ _ _ _
      | exact ih1 _ _ _ _ _ _ _ _
      | exact space_Fit.mono _ _ _ _ _
      | exact space_Free.mono _ _ _ _
      | exact space_Right.mono _ _ _ _
      | exact weirkeeperlaw05_awake.mono _
      | exact LeO.none _
      | refine LeO.ite ?_ ?_
      | refine LeO.bind ?_ (fun _ => ?_)
theorem weirkeeperlaw05_SpaceGreatest.mono : ∀ a0 a1 a2 a3 k, LeO (weirkeeperlaw05_SpaceGreatest.f k a0 a1 a2 a3) (weirkeeperlaw05_SpaceGreatest.f (k + 1) a0 a1 a2 a3) := by
  intro a0 a1 a2 a3 k
  obtain ⟨ih0, ih1⟩ := weirkeeperlaw05_SpaceGreatest.mono_l k
  unfold weirkeeperlaw05_SpaceGreatest.f
  repeat' first
      | (with_reducible exact ih0 _ _ _ _ _)
      | (with_reducible exact ih1 _ _ _ _ _ _ _ _)
      | (with_reducible exact space_Fit.mono _ _ _ _ _)
      | (with_reducible exact space_Free.mono _ _ _ _)
      | (with_reducible exact space_Right.mono _ _ _ _)
      | (with_reducible exact weirkeeperlaw05_awake.mono _)
      | (with_reducible exact LeO.refl _)
      | (with_reducible exact LeO.none _)
      | (with_reducible refine LeO.ite ?_ ?_)
      | (with_reducible refine LeO.bind ?_ (fun _ => ?_))
      | exact ih0 _ _ _ _ _
      | exact ih1 _ _ _ _ _ _ _ _
      | exact space_Fit.mono _ _ _ _ _
      | exact space_Free.mono _ _ _ _
      | exact space_Right.mono _ _ _ _
      | exact weirkeeperlaw05_awake.mono _
      | exact LeO.none _
      | refine LeO.ite ?_ ?_
      | refine LeO.bind ?_ (fun _ => ?_)
set_option maxHeartbeats 8000000 in
set_option maxRecDepth 100000 in
theorem weirkeeperlaw05_SpaceGreatest.calls (k : Nat) (a0 : Int) (a1 : Int) (a2 : Int) (A3 : Option Addr) (c3 : Nat) (l3 : List (S66)) (w : World) (hr3 : Kd.C k66 w A3 l3.length l3) (hc3 : l3.length ≤ c3) (h : weirkeeperlaw05_SpaceGreatest.f k a0 a1 a2 l3 = some true) :
    Calls Try.prog 13 #[.int .i64 a0, .int .i64 a1, .int .i64 a2, .slice A3 l3.length c3] w fun e w' => e = .returned (.bool true) ∧ Below w.heap.size w w' := by
  have hu66 := Try.underlying66
  have HR3 := Aside0.mk hr3
  have HC3 := Aside0.mk hc3
  clear hr3 hc3
  have HB := Aside0.mk (Below.refl w.heap.size w)
  have H : (if (l3.length : Int) > 30 then (weirkeeperlaw05_SpaceGreatest.j0 k a0 a1 a2 l3 true) else (if a0 < 1 then (weirkeeperlaw05_SpaceGreatest.j0 k a0 a1 a2 l3 true) else (if a0 > 2147483647 then (weirkeeperlaw05_SpaceGreatest.j0 k a0 a1 a2 l3 true) else ((space_Right.f k a1 a2 l3).bind fun t822 => (weirkeeperlaw05_SpaceGreatest.j0 k a0 a1 a2 l3 (!t822)))))) = some true := h
  clear h
  have HC5 := Aside0.mk H
  clear H
  go_enter Try.func13, Try.ntmps13
  go_upto_region 1 with (fail)
  go_cut [33] (fun v33 wc => ∃ (kq : Nat) (x33_4 : Bool), v33 = .bool x33_4 ∧ Aside0 (weirkeeperlaw05_SpaceGreatest.j0 kq a0 a1 a2 l3 x33_4 = some true) ∧ Aside0 (kq ≤ k) ∧ Aside0 (Below w.heap.size w wc))
  case first =>
    have H := HC5.out
    clear HC5
    by_cases c6 : (l3.length : Int) > 30
    · rw [if_pos c6] at H
      have c6b0 : decide (30 < (l3.length : Int)) = true := decide_eq_true c6
      have c6b1 : decide (30 < l3.length) = true := decide_eq_true (by omega)
      clear c6
      (first | rw [c6b0] | (simp only [i64_w, i32_w]; rw [c6b0]) | skip)
      have H' := Aside0.mk H
      clear H
      go_wp2
      go_meet
      case rel => exact ⟨_, (true), (by first | rfl | (simp; done) | (simp [*]; done)), H', ⟨by first | omega | exact Nat.le_refl _⟩, ⟨by repeat (first | (with_reducible first | exact HB.out | apply below_alloc | apply pw_below_drewN | apply below_drew1) | exact HB.out)⟩⟩
    · rw [if_neg c6] at H
      have c6b0 : decide (30 < (l3.length : Int)) = false := decide_eq_false c6
      have c6b1 : decide (30 < l3.length) = false := decide_eq_false (by omega)
      clear c6
      (first | rw [c6b0] | (simp only [i64_w, i32_w]; rw [c6b0]) | skip)
      by_cases c7 : a0 < 1
      · rw [if_pos c7] at H
        have c7b0 : decide (a0 < 1) = true := decide_eq_true c7
        clear c7
        have H' := Aside0.mk H
        clear H
        go_wp2
        go_meet
        case rel => exact ⟨_, (true), (by first | rfl | (simp; done) | (simp [*]; done)), H', ⟨by first | omega | exact Nat.le_refl _⟩, ⟨by repeat (first | (with_reducible first | exact HB.out | apply below_alloc | apply pw_below_drewN | apply below_drew1) | exact HB.out)⟩⟩
      · rw [if_neg c7] at H
        have c7b0 : decide (a0 < 1) = false := decide_eq_false c7
        clear c7
        by_cases c8 : a0 > 2147483647
        · rw [if_pos c8] at H
          have c8b0 : decide (2147483647 < a0) = true := decide_eq_true c8
          clear c8
          have H' := Aside0.mk H
          clear H
          go_wp2
          go_meet
          case rel => exact ⟨_, (true), (by first | rfl | (simp; done) | (simp [*]; done)), H', ⟨by first | omega | exact Nat.le_refl _⟩, ⟨by repeat (first | (with_reducible first | exact HB.out | apply below_alloc | apply pw_below_drewN | apply below_drew1) | exact HB.out)⟩⟩
        · rw [if_neg c8] at H
          have c8b0 : decide (2147483647 < a0) = false := decide_eq_false c8
          clear c8
          replace H := Option.bind_eq_some_iff.mp H
          obtain ⟨t822, A90, H⟩ := H
          replace H : (weirkeeperlaw05_SpaceGreatest.j0 k a0 a1 a2 l3 (!t822)) = some true := H
          have A9 := Aside0.mk A90
          clear A90
          have H' := Aside0.mk H
          clear H
          go_wp2_with (first | (go_at_call 36; (with_reducible refine (space_Right.calls k a1 a2 _ _ l3 t822 _ ?side1 ?side2 A9.out).mono ?_); (case side1 => repeat (first | exact (Kd.C_below HR3.out HB.out) | (with_reducible refine Kd.C_alloc ?_ _) | (with_reducible refine Kd.C_drewN ?_ _) | (with_reducible refine Kd.C_drew ?_))); (case side2 => exact HC3.out); rintro e w10 ⟨rfl, hb⟩; have n0_ := Aside0.mk (below_step (by repeat (first | (with_reducible first | exact HB.out | apply below_alloc | apply pw_below_drewN | apply below_drew1) | exact HB.out)) hb); clear HB; have HB := n0_; clear n0_; (try clear hb); (try clear hb2); (try clear hk); (try clear hi)))
          go_meet
          case rel => exact ⟨_, (!t822), (by first | rfl | (simp; done) | (simp [*]; done)), H', ⟨by first | omega | exact Nat.le_refl _⟩, ⟨by repeat (first | (with_reducible first | exact HB.out | apply below_alloc | apply pw_below_drewN | apply below_drew1) | exact HB.out)⟩⟩
  case rest =>
    clear HC5
    try clear c1
    try clear p2
    try clear c3
    try clear c6
    try clear c6b0
    try clear c6b1
    try clear c7
    try clear c7b0
    try clear c8
    try clear c8b0
    obtain ⟨kq, x33_4, rfl, HA, HJ4, HB⟩ := hcut
    cases kq with
    | zero => exact absurd HA.out (by simp [weirkeeperlaw05_SpaceGreatest.j0])
    | succ kj4 =>
      have H := HA.out
      clear HA
      simp only [weirkeeperlaw05_SpaceGreatest.j0] at H
      by_cases c11 : x33_4 = true
      · subst c11
        have H1 : ((weirkeeperlaw05_awake.f kj4).bind fun t823 => (some t823)) = some true := by rw [if_pos rfl] at H; exact H
        clear H
        have H := H1
        clear H1
        replace H := Option.bind_eq_some_iff.mp H
        obtain ⟨t823, A120, H⟩ := H
        replace H : (some t823) = some true := H
        have A12 := Aside0.mk A120
        clear A120
        (have H9_ := Option.some.inj H; first | subst H9_ | (have h9_ := Aside0.mk H9_; clear H9_))
        go_wp2_with (first | ((with_reducible refine gate_callee (f := 30) rfl ?_); refine goesL_ (some 34) rfl rfl Try.func30 (by kernel_rfl) rfl #[] rfl (by (try simp only [List.map_toArray, List.map_cons, List.map_nil]); first | done | rfl | (simp only [List.length_drop, List.length_take]; rfl)) ?_; (with_reducible refine (weirkeeperlaw05_awake.calls kj4 _ A12.out).mono ?_); rintro e w13 ⟨rfl, hb⟩; refine ⟨_, rfl, ?_⟩; have n0_ := Aside0.mk (below_step (by repeat (first | (with_reducible first | exact HB.out | apply below_alloc | apply pw_below_drewN | apply below_drew1) | exact HB.out)) hb); clear HB; have HB := n0_; clear n0_; (try clear hb); (try clear hb2); (try clear hk); (try clear hi)))
        go_ret
        exact ⟨by first | rfl | (simp only [h9_.out]; done) | (have h8_ := h9_.out; simp [h8_]; done) | (simp [errW_none, errW_some] <;> rfl) | (simp [*, errW_none, errW_some] <;> rfl), by repeat (first | (with_reducible first | exact HB.out | apply below_alloc | apply pw_below_drewN | apply below_drew1) | exact HB.out)⟩
      · replace c11 := Bool.eq_false_iff.mpr c11
        subst c11
        have H1 : ((space_Free.f kj4 a1 a2 l3).bind fun t824 => (weirkeeperlaw05_SpaceGreatest.l0 kj4 a0 a1 a2 l3 0 t824 (t824.length : Int) 0)) = some true := by rw [if_neg (show ¬ (false = true) by decide)] at H; exact H
        clear H
        have H := H1
        clear H1
        replace H := Option.bind_eq_some_iff.mp H
        obtain ⟨t824, A140, H⟩ := H
        replace H : (weirkeeperlaw05_SpaceGreatest.l0 kj4 a0 a1 a2 l3 0 t824 (t824.length : Int) 0) = some true := H
        have A14 := Aside0.mk A140
        clear A140
        have H' := Aside0.mk H
        clear H
        go_wp2_with (first | ((with_reducible refine gate_callee (f := 31) rfl ?_); refine goesL_ (some 38) rfl rfl Try.func31 (by kernel_rfl) rfl #[.int .i64 a1, .int .i64 a2, .slice A3 l3.length c3] rfl (by (try simp only [List.map_toArray, List.map_cons, List.map_nil]); first | done | rfl | (simp only [List.length_drop, List.length_take]; rfl)) ?_; (with_reducible refine (space_Free.calls kj4 a1 a2 _ _ l3 t824 _ ?side1 ?side2 A14.out).mono ?_); (case side1 => repeat (first | exact (Kd.C_below HR3.out HB.out) | (with_reducible refine Kd.C_alloc ?_ _) | (with_reducible refine Kd.C_drewN ?_ _) | (with_reducible refine Kd.C_drew ?_))); (case side2 => exact HC3.out); rintro e w15 ⟨v825, rfl, ho0, hb⟩; refine ⟨_, rfl, ?_⟩; have n0_ := Aside0.mk (Kd.R_lower ho0 (below_size (by repeat (first | (with_reducible first | exact HB.out | apply below_alloc | apply pw_below_drewN | apply below_drew1) | exact HB.out)))); have n1_ := Aside0.mk (below_step (by repeat (first | (with_reducible first | exact HB.out | apply below_alloc | apply pw_below_drewN | apply below_drew1) | exact HB.out)) hb); clear HB; have HO826 := n0_; have HB := n1_; clear n0_ n1_; (try clear hb); (try clear hb2); (try clear hk); (try clear hi); (try clear ho0); obtain ⟨Ao16, co16, eo16⟩ := Kd.R_slice HO826.out; subst eo16))
        go_loopg [9, 40] kj4 (fun kq v9 v40 w' => ∃ (x9_2 : Int) (x40_2 : Int), v9 = .int .i64 x9_2 ∧ v40 = .int .i64 x40_2 ∧ Aside0 (weirkeeperlaw05_SpaceGreatest.l0 kq a0 a1 a2 l3 x9_2 t824 (t824.length : Int) x40_2 = some true) ∧ Aside0 (kq ≤ kj4) ∧ Aside0 (Kd.R k66 66 w' w.heap.size (fun _ => True) (.slice Ao16 t824.length co16) t824) ∧ Aside0 (Below w.heap.size w w'))
        case atStart => exact ⟨(0), (0), (by first | rfl | (simp; done) | (simp [*]; done)), (by first | rfl | (simp; done) | (simp [*]; done)), H', ⟨Nat.le_refl _⟩, ⟨by (with_reducible repeat (first | apply Kd.R_alloc | apply Kd.R_drewN | apply Kd.R_drew)); exact HO826.out⟩, ⟨by repeat (first | (with_reducible first | exact HB.out | apply below_alloc | apply pw_below_drewN | apply below_drew1) | exact HB.out)⟩⟩
        case round =>
          clear H'
          try clear c1
          try clear p2
          try clear c3
          try clear c6
          try clear c6b0
          try clear c6b1
          try clear c7
          try clear c7b0
          try clear c8
          try clear c8b0
          try clear c11
          try clear c13
          try clear p2
          obtain ⟨x9_2, x40_2, rfl, rfl, HA, HK2, HO_38, HB⟩ := hrel
          cases gk with
          | zero => exact absurd HA.out (by simp [weirkeeperlaw05_SpaceGreatest.l0])
          | succ k2 =>
            have H := HA.out
            clear HA
            simp only [weirkeeperlaw05_SpaceGreatest.l0] at H
            by_cases c17 : x40_2 < (t824.length : Int)
            · rw [if_pos c17] at H
              have c17b0 : decide (x40_2 < (t824.length : Int)) = true := decide_eq_true c17
              clear c17
              by_cases c18 : 0 ≤ x40_2
              · rw [if_pos c18] at H
                have c18b0 : decide (0 ≤ x40_2) = true := decide_eq_true c18
                clear c18
                by_cases c19 : x40_2 < (t824.length : Int)
                · rw [if_pos c19] at H
                  have c19b0 : decide (x40_2 < (t824.length : Int)) = true := decide_eq_true c19
                  clear c19
                  obtain ⟨ji20, hji20⟩ : ∃ j_ : Int, (mx x9_2 ((rd_T66 t824 x40_2).f1)) = j_ := ⟨_, rfl⟩
                  replace H : (weirkeeperlaw05_SpaceGreatest.l0 k2 a0 a1 a2 l3 ji20 t824 (t824.length : Int) (wrap64 (x40_2 + 1))) = some true := by first | (rw [hji20] at H; exact H) | (simp only [hji20] at H ⊢; exact H)
                  have hji20_ : (if x9_2 < ((rd_T66 t824 x40_2).f1) then ((rd_T66 t824 x40_2).f1) else x9_2) = ji20 := hji20
                  have H' := Aside0.mk H
                  clear H
                  have p827 : 0 ≤ (x40_2 : Int) := of_decide_eq_true (by first | (with_reducible assumption) | assumption)
                  have q827 : x40_2 < (t824.length : Int) := of_decide_eq_true (by first | (with_reducible assumption) | assumption)
                  obtain ⟨ad827, e827, hx827_0, hx827_1⟩ := at_T66 (Kd.R_reads' HO_38.out).2.2 x40_2 p827 q827
                  cases e827
                  replace p827 := eq_true p827
                  replace q827 := eq_true q827
                  go_wp2_with (first | ((with_reducible refine gate_dst (N := 11) rfl ?_); refine box_event ?hg (N := 11) ?hd (cs := #[.int .i64 0, .int .i64 0]) (t := 66) ?hr ?_; (case hd => rfl); (case hg => rfl); (case hr => first | (go_simp; done) | (go_simp; rfl)); intro gb828 hg w21 hbox hb; have n0_ := Aside0.mk (Kd.R_below (Kd.R_elderB (by (with_reducible repeat (first | apply Kd.R_alloc | apply Kd.R_drewN | apply Kd.R_drew)); exact HO_38.out) gb828 (Nat.le_of_eq hg.symm)) hb); have n1_ := Aside0.mk (below_step (by repeat (first | (with_reducible first | exact HB.out | apply below_alloc | apply pw_below_drewN | apply below_drew1) | exact HB.out)) hb); have n2_ := Aside0.mk (hbox); have n3_ := Aside0.mk ((by rw [hg]; exact (below_size (by repeat (first | (with_reducible first | exact HB.out | apply below_alloc | apply pw_below_drewN | apply below_drew1) | exact HB.out))) : w.heap.size ≤ gb828)); have n4_ := Aside0.mk ((by rw [hg]; exact (below_size (by repeat (first | (with_reducible first | exact HB.out | apply below_alloc | apply pw_below_drewN | apply below_drew1) | exact HB.out))) : w.heap.size ≤ gb828)); clear HO_38; clear HB; have HO_38 := n0_; have HB := n1_; have BK828 := n2_; have GW828 := n3_; have GE828 := n4_; clear n0_ n1_ n2_ n3_ n4_; clear hb hbox hg; have hcz22_0 : w21.cell? ⟨gb828, 0, none⟩ = some (.int .i64 0) := (blk_cell BK828.out 0).trans rfl; have hcz22_1 : w21.cell? ⟨gb828, 1, none⟩ = some (.int .i64 0) := (blk_cell BK828.out 1).trans rfl; have hfz22_0 := blk_frozen BK828.out 0; have hfz22_1 := blk_frozen BK828.out 1))
                  go_roundg k2
                  case measure => have := HJ4.out; have := HK2.out; omega
                  case rel => exact ⟨(ji20), (wrap64 (x40_2 + 1)), (by first | rfl | (simp; done) | (simp only [← hji20] <;> (first | rfl | simp)) | (simp [*]; done)), (by first | rfl | (simp; done) | (simp [*]; done)), H', ⟨by have := HJ4.out; have := HK2.out; omega⟩, ⟨by (with_reducible repeat (first | apply Kd.R_alloc | apply Kd.R_drewN | apply Kd.R_drew)); exact Kd.R_mono (Kd.R_far (p := ⟨gb828, 1, none⟩) (Kd.R_far (p := ⟨gb828, 0, none⟩) (Kd.R_mono HO_38.out (fun k_ hk => (⟨hk, hk.2⟩ : _ ∧ k_ ≠ gb828))) (fun _ hk => hk.2) (.int .i64 ((rd_T66 t824 x40_2).f0))) (fun _ hk => hk.2) (.int .i64 ((rd_T66 t824 x40_2).f1))) (fun _ hk => trivial)⟩, ⟨by repeat (first | (with_reducible first | exact HB.out | apply below_alloc | apply pw_below_drewN | apply below_drew1 | refine below_set ?_ GE828.out) | exact HB.out)⟩⟩
                · rw [if_neg c19] at H
                  exact absurd H (by simp)
              · rw [if_neg c18] at H
                exact absurd H (by simp)
            · rw [if_neg c17] at H
              have c17b0 : decide (x40_2 < (t824.length : Int)) = false := decide_eq_false c17
              clear c17
              replace H := Option.bind_eq_some_iff.mp H
              obtain ⟨⟨t829, t830, t831⟩, A230, H⟩ := H
              replace H : (if x9_2 = 0 then (if t831 = 5 then ((weirkeeperlaw05_awake.f k2).bind fun t833 => (some t833)) else (some false)) else ((space_Fit.f k2 x9_2 a1 a2 l3).bind fun bt834 => (if ((t831 == 0) == (decide (a0 ≤ x9_2))) = true then (if bt834.2.2 = 0 then (if bt834.2.1 = x9_2 then ((weirkeeperlaw05_awake.f k2).bind fun t838 => (some t838)) else (some false)) else (some false)) else (some false)))) = some true := H
              have A23 := Aside0.mk A230
              clear A230
              by_cases c24 : x9_2 = 0
              · rw [if_pos c24] at H
                have c24b0 : (x9_2 == 0) = true := beq_iff_eq.mpr c24
                have c24b1 : (x9_2 != 0) = false := bne_eq_false_iff_eq.mpr c24
                clear c24
                by_cases c25 : t831 = 5
                · rw [if_pos c25] at H
                  have c25b0 : (t831 == 5) = true := beq_iff_eq.mpr c25
                  have c25b1 : (t831 != 5) = false := bne_eq_false_iff_eq.mpr c25
                  clear c25
                  replace H := Option.bind_eq_some_iff.mp H
                  obtain ⟨t833, A260, H⟩ := H
                  replace H : (some t833) = some true := H
                  have A26 := Aside0.mk A260
                  clear A260
                  (have H9_ := Option.some.inj H; first | subst H9_ | (have h9_ := Aside0.mk H9_; clear H9_))
                  go_wp2_with (first | ((with_reducible refine gate_callee (f := 32) rfl ?_); refine goesL_ (some 54) rfl rfl Try.func32 (by kernel_rfl) rfl #[.int .i64 a0, .int .i64 a1, .int .i64 a2, .slice A3 l3.length c3] rfl (by (try simp only [List.map_toArray, List.map_cons, List.map_nil]); first | done | rfl | (simp only [List.length_drop, List.length_take]; rfl)) ?_; (with_reducible refine (space_Fit.calls k2 a0 a1 a2 _ _ l3 t829 t830 t831 _ ?side1 ?side2 A23.out).mono ?_); (case side1 => repeat (first | exact (Kd.C_below HR3.out HB.out) | (with_reducible refine Kd.C_alloc ?_ _) | (with_reducible refine Kd.C_drewN ?_ _) | (with_reducible refine Kd.C_drew ?_))); (case side2 => exact HC3.out); rintro e w27 ⟨rfl, hb⟩; refine ⟨_, rfl, ?_⟩; have n0_ := Aside0.mk (Kd.R_below (by (with_reducible repeat (first | apply Kd.R_alloc | apply Kd.R_drewN | apply Kd.R_drew)); exact HO_38.out) hb); have n1_ := Aside0.mk (below_step (by repeat (first | (with_reducible first | exact HB.out | apply below_alloc | apply pw_below_drewN | apply below_drew1) | exact HB.out)) hb); clear HO_38; clear HB; have HO_38 := n0_; have HB := n1_; clear n0_ n1_; (try clear hb); (try clear hb2); (try clear hk); (try clear hi)) | ((with_reducible refine gate_dst (N := 12) rfl ?_); refine box_event ?hg (N := 12) ?hd (cs := #[.int .i64 0, .int .i64 0]) (t := 66) ?hr ?_; (case hd => rfl); (case hg => rfl); (case hr => first | (go_simp; done) | (go_simp; rfl)); intro gb832 hg w28 hbox hb; have n0_ := Aside0.mk (Kd.R_below (Kd.R_elderB (by (with_reducible repeat (first | apply Kd.R_alloc | apply Kd.R_drewN | apply Kd.R_drew)); exact HO_38.out) gb832 (Nat.le_of_eq hg.symm)) hb); have n1_ := Aside0.mk (below_step (by repeat (first | (with_reducible first | exact HB.out | apply below_alloc | apply pw_below_drewN | apply below_drew1) | exact HB.out)) hb); have n2_ := Aside0.mk (hbox); have n3_ := Aside0.mk ((by rw [hg]; exact (below_size (by repeat (first | (with_reducible first | exact HB.out | apply below_alloc | apply pw_below_drewN | apply below_drew1) | exact HB.out))) : w.heap.size ≤ gb832)); have n4_ := Aside0.mk ((by rw [hg]; exact (below_size (by repeat (first | (with_reducible first | exact HB.out | apply below_alloc | apply pw_below_drewN | apply below_drew1) | exact HB.out))) : w.heap.size ≤ gb832)); clear HO_38; clear HB; have HO_38 := n0_; have HB := n1_; have BK832 := n2_; have GW832 := n3_; have GE832 := n4_; clear n0_ n1_ n2_ n3_ n4_; clear hb hbox hg; have hcz29_0 : w28.cell? ⟨gb832, 0, none⟩ = some (.int .i64 0) := (blk_cell BK832.out 0).trans rfl; have hcz29_1 : w28.cell? ⟨gb832, 1, none⟩ = some (.int .i64 0) := (blk_cell BK832.out 1).trans rfl; have hfz29_0 := blk_frozen BK832.out 0; have hfz29_1 := blk_frozen BK832.out 1) | (go_at_call 30; (with_reducible refine (weirkeeperlaw05_awake.calls k2 _ A26.out).mono ?_); rintro e w30 ⟨rfl, hb⟩; have n0_ := Aside0.mk (Kd.R_below (by (with_reducible repeat (first | apply Kd.R_alloc | apply Kd.R_drewN | apply Kd.R_drew)); exact (Kd.R_mono (Kd.R_far (p := ⟨gb832, 1, none⟩) (Kd.R_far (p := ⟨gb832, 0, none⟩) (Kd.R_mono HO_38.out (fun k_ hk => (⟨hk, hk.2⟩ : _ ∧ k_ ≠ gb832))) (fun _ hk => hk.2) (.int .i64 t829)) (fun _ hk => hk.2) (.int .i64 t830)) (fun _ h_ => h_.1))) hb); have n1_ := Aside0.mk (blk_below (g := gb832) (o := .cells #[.int .i64 t829, .int .i64 t830] 66 (0, 0)) (by (with_reducible repeat (first | refine blk_drewN ?_ _ | refine blk_drew ?_ | refine blk_alloc ?_ _)); refine blk_put (cs := #[.int .i64 t829, .int .i64 0]) ?_ 1 _ rfl; (with_reducible repeat (first | refine blk_drewN ?_ _ | refine blk_drew ?_ | refine blk_alloc ?_ _)); refine blk_put (cs := #[.int .i64 0, .int .i64 0]) ?_ 0 _ rfl; (with_reducible repeat (first | refine blk_drewN ?_ _ | refine blk_drew ?_ | refine blk_alloc ?_ _)); exact BK832.out) hb); have n2_ := Aside0.mk (below_step (by repeat (first | (with_reducible first | exact HB.out | apply below_alloc | apply pw_below_drewN | apply below_drew1 | refine below_set ?_ GE832.out) | exact HB.out)) hb); clear HO_38; clear BK832; clear HB; have HO_38 := n0_; have BK832 := n1_; have HB := n2_; clear n0_ n1_ n2_; (try clear hb); (try clear hb2); (try clear hk); (try clear hi)))
                  go_ret
                  exact ⟨by first | rfl | (simp only [h9_.out]; done) | (have h8_ := h9_.out; simp [h8_]; done) | (simp [errW_none, errW_some] <;> rfl) | (simp [*, errW_none, errW_some] <;> rfl), by repeat (first | (with_reducible first | exact HB.out | apply below_alloc | apply pw_below_drewN | apply below_drew1 | refine below_set ?_ GE832.out) | exact HB.out)⟩
                · rw [if_neg c25] at H
                  have c25b0 : (t831 == 5) = false := beq_eq_false_iff_ne.mpr c25
                  have c25b1 : (t831 != 5) = true := bne_iff_ne.mpr c25
                  exact absurd H (by simp)
              · rw [if_neg c24] at H
                have c24b0 : (x9_2 == 0) = false := beq_eq_false_iff_ne.mpr c24
                have c24b1 : (x9_2 != 0) = true := bne_iff_ne.mpr c24
                replace H := Option.bind_eq_some_iff.mp H
                obtain ⟨⟨t834, t835, t836⟩, A310, H⟩ := H
                replace H : (if ((t831 == 0) == (decide (a0 ≤ x9_2))) = true then (if t836 = 0 then (if t835 = x9_2 then ((weirkeeperlaw05_awake.f k2).bind fun t838 => (some t838)) else (some false)) else (some false)) else (some false)) = some true := H
                have A31 := Aside0.mk A310
                clear A310
                by_cases c32 : ((t831 == 0) == (decide (a0 ≤ x9_2))) = true
                · rw [if_pos c32] at H
                  have c32b0 : ((t831 == 0) == (decide (a0 ≤ x9_2))) = true := c32
                  (try (have c32b1 : decide ((t831 == 0) = (decide (a0 ≤ x9_2))) = true := by simpa using c32))
                  (try (have c32b2 : ((t831 == 0) == (decide (a0 ≤ x9_2))) = true := by simpa using c32))
                  clear c32
                  by_cases c33 : t836 = 0
                  · rw [if_pos c33] at H
                    have c33b0 : (t836 == 0) = true := beq_iff_eq.mpr c33
                    have c33b1 : (t836 != 0) = false := bne_eq_false_iff_eq.mpr c33
                    clear c33
                    by_cases c34 : t835 = x9_2
                    · rw [if_pos c34] at H
                      have c34b0 : (t835 == x9_2) = true := beq_iff_eq.mpr c34
                      have c34b1 : (t835 != x9_2) = false := bne_eq_false_iff_eq.mpr c34
                      clear c34
                      replace H := Option.bind_eq_some_iff.mp H
                      obtain ⟨t838, A350, H⟩ := H
                      replace H : (some t838) = some true := H
                      have A35 := Aside0.mk A350
                      clear A350
                      (have H9_ := Option.some.inj H; first | subst H9_ | (have h9_ := Aside0.mk H9_; clear H9_))
                      go_wp2_with (first | ((with_reducible refine gate_callee (f := 32) rfl ?_); refine goesL_ (some 54) rfl rfl Try.func32 (by kernel_rfl) rfl #[.int .i64 a0, .int .i64 a1, .int .i64 a2, .slice A3 l3.length c3] rfl (by (try simp only [List.map_toArray, List.map_cons, List.map_nil]); first | done | rfl | (simp only [List.length_drop, List.length_take]; rfl)) ?_; (with_reducible refine (space_Fit.calls k2 a0 a1 a2 _ _ l3 t829 t830 t831 _ ?side1 ?side2 A23.out).mono ?_); (case side1 => repeat (first | exact (Kd.C_below HR3.out HB.out) | (with_reducible refine Kd.C_alloc ?_ _) | (with_reducible refine Kd.C_drewN ?_ _) | (with_reducible refine Kd.C_drew ?_))); (case side2 => exact HC3.out); rintro e w36 ⟨rfl, hb⟩; refine ⟨_, rfl, ?_⟩; have n0_ := Aside0.mk (Kd.R_below (by (with_reducible repeat (first | apply Kd.R_alloc | apply Kd.R_drewN | apply Kd.R_drew)); exact HO_38.out) hb); have n1_ := Aside0.mk (below_step (by repeat (first | (with_reducible first | exact HB.out | apply below_alloc | apply pw_below_drewN | apply below_drew1) | exact HB.out)) hb); clear HO_38; clear HB; have HO_38 := n0_; have HB := n1_; clear n0_ n1_; (try clear hb); (try clear hb2); (try clear hk); (try clear hi)) | ((with_reducible refine gate_dst (N := 12) rfl ?_); refine box_event ?hg (N := 12) ?hd (cs := #[.int .i64 0, .int .i64 0]) (t := 66) ?hr ?_; (case hd => rfl); (case hg => rfl); (case hr => first | (go_simp; done) | (go_simp; rfl)); intro gb832 hg w37 hbox hb; have n0_ := Aside0.mk (Kd.R_below (Kd.R_elderB (by (with_reducible repeat (first | apply Kd.R_alloc | apply Kd.R_drewN | apply Kd.R_drew)); exact HO_38.out) gb832 (Nat.le_of_eq hg.symm)) hb); have n1_ := Aside0.mk (below_step (by repeat (first | (with_reducible first | exact HB.out | apply below_alloc | apply pw_below_drewN | apply below_drew1) | exact HB.out)) hb); have n2_ := Aside0.mk (hbox); have n3_ := Aside0.mk ((by rw [hg]; exact (below_size (by repeat (first | (with_reducible first | exact HB.out | apply below_alloc | apply pw_below_drewN | apply below_drew1) | exact HB.out))) : w.heap.size ≤ gb832)); have n4_ := Aside0.mk ((by rw [hg]; exact (below_size (by repeat (first | (with_reducible first | exact HB.out | apply below_alloc | apply pw_below_drewN | apply below_drew1) | exact HB.out))) : w.heap.size ≤ gb832)); clear HO_38; clear HB; have HO_38 := n0_; have HB := n1_; have BK832 := n2_; have GW832 := n3_; have GE832 := n4_; clear n0_ n1_ n2_ n3_ n4_; clear hb hbox hg; have hcz38_0 : w37.cell? ⟨gb832, 0, none⟩ = some (.int .i64 0) := (blk_cell BK832.out 0).trans rfl; have hcz38_1 : w37.cell? ⟨gb832, 1, none⟩ = some (.int .i64 0) := (blk_cell BK832.out 1).trans rfl; have hfz38_0 := blk_frozen BK832.out 0; have hfz38_1 := blk_frozen BK832.out 1) | ((with_reducible refine gate_callee (f := 32) rfl ?_); refine goesL_ (some 69) rfl rfl Try.func32 (by kernel_rfl) rfl #[.int .i64 x9_2, .int .i64 a1, .int .i64 a2, .slice A3 l3.length c3] rfl (by (try simp only [List.map_toArray, List.map_cons, List.map_nil]); first | done | rfl | (simp only [List.length_drop, List.length_take]; rfl)) ?_; (with_reducible refine (space_Fit.calls k2 x9_2 a1 a2 _ _ l3 t834 t835 t836 _ ?side1 ?side2 A31.out).mono ?_); (case side1 => exact Kd.C_below HR3.out (by repeat (first | (with_reducible first | exact HB.out | apply below_alloc | apply pw_below_drewN | apply below_drew1 | refine below_set ?_ GE832.out) | exact HB.out))); (case side2 => exact HC3.out); rintro e w39 ⟨rfl, hb⟩; refine ⟨_, rfl, ?_⟩; have n0_ := Aside0.mk (Kd.R_below (by (with_reducible repeat (first | apply Kd.R_alloc | apply Kd.R_drewN | apply Kd.R_drew)); exact (Kd.R_mono (Kd.R_far (p := ⟨gb832, 1, none⟩) (Kd.R_far (p := ⟨gb832, 0, none⟩) (Kd.R_mono HO_38.out (fun k_ hk => (⟨hk, hk.2⟩ : _ ∧ k_ ≠ gb832))) (fun _ hk => hk.2) (.int .i64 t829)) (fun _ hk => hk.2) (.int .i64 t830)) (fun _ h_ => h_.1))) hb); have n1_ := Aside0.mk (blk_below (g := gb832) (o := .cells #[.int .i64 t829, .int .i64 t830] 66 (0, 0)) (by (with_reducible repeat (first | refine blk_drewN ?_ _ | refine blk_drew ?_ | refine blk_alloc ?_ _)); refine blk_put (cs := #[.int .i64 t829, .int .i64 0]) ?_ 1 _ rfl; (with_reducible repeat (first | refine blk_drewN ?_ _ | refine blk_drew ?_ | refine blk_alloc ?_ _)); refine blk_put (cs := #[.int .i64 0, .int .i64 0]) ?_ 0 _ rfl; (with_reducible repeat (first | refine blk_drewN ?_ _ | refine blk_drew ?_ | refine blk_alloc ?_ _)); exact BK832.out) hb); have n2_ := Aside0.mk (below_step (by repeat (first | (with_reducible first | exact HB.out | apply below_alloc | apply pw_below_drewN | apply below_drew1 | refine below_set ?_ GE832.out) | exact HB.out)) hb); clear HO_38; clear BK832; clear HB; have HO_38 := n0_; have BK832 := n1_; have HB := n2_; clear n0_ n1_ n2_; (try clear hb); (try clear hb2); (try clear hk); (try clear hi)) | ((with_reducible refine gate_dst (N := 14) rfl ?_); refine box_event ?hg (N := 14) ?hd (cs := #[.int .i64 0, .int .i64 0]) (t := 66) ?hr ?_; (case hd => rfl); (case hg => rfl); (case hr => first | (go_simp; done) | (go_simp; rfl)); intro gb837 hg w40 hbox hb; have n0_ := Aside0.mk (Kd.R_below (Kd.R_elderB (by (with_reducible repeat (first | apply Kd.R_alloc | apply Kd.R_drewN | apply Kd.R_drew)); exact HO_38.out) gb837 (Nat.le_of_eq hg.symm)) hb); have n1_ := Aside0.mk (blk_below (g := gb832) (o := .cells #[.int .i64 t829, .int .i64 t830] 66 (0, 0)) (by (with_reducible repeat (first | refine blk_drewN ?_ _ | refine blk_drew ?_ | refine blk_alloc ?_ _)); exact BK832.out) hb); have n2_ := Aside0.mk (below_step (by repeat (first | (with_reducible first | exact HB.out | apply below_alloc | apply pw_below_drewN | apply below_drew1 | refine below_set ?_ GE832.out) | exact HB.out)) hb); have n3_ := Aside0.mk (hbox); have n4_ := Aside0.mk ((by rw [hg]; exact (below_size (by repeat (first | (with_reducible first | exact HB.out | apply below_alloc | apply pw_below_drewN | apply below_drew1 | refine below_set ?_ GE832.out) | exact HB.out))) : w.heap.size ≤ gb837)); have n5_ := Aside0.mk ((by rw [hg]; exact (below_size (by repeat (first | (with_reducible first | exact HB.out | apply below_alloc | apply pw_below_drewN | apply below_drew1 | refine below_set ?_ GE832.out) | exact HB.out))) : w.heap.size ≤ gb837)); have n6_ := Aside0.mk ((by rw [hg]; exact Nat.ne_of_lt (blk_lt (g := gb832) (o := .cells #[.int .i64 t829, .int .i64 t830] 66 (0, 0)) (by (with_reducible repeat (first | refine blk_drewN ?_ _ | refine blk_drew ?_ | refine blk_alloc ?_ _)); exact BK832.out)) : gb832 ≠ gb837)); have n7_ := Aside0.mk ((by rw [hg]; exact Nat.ne_of_gt (blk_lt (g := gb832) (o := .cells #[.int .i64 t829, .int .i64 t830] 66 (0, 0)) (by (with_reducible repeat (first | refine blk_drewN ?_ _ | refine blk_drew ?_ | refine blk_alloc ?_ _)); exact BK832.out)) : gb837 ≠ gb832)); clear HO_38; clear BK832; clear HB; have HO_38 := n0_; have BK832 := n1_; have HB := n2_; have BK837 := n3_; have GW837 := n4_; have GE837 := n5_; have NB832_837 := n6_; have NB837_832 := n7_; clear n0_ n1_ n2_ n3_ n4_ n5_ n6_ n7_; clear hb hbox hg; have hnb41 := NB837_832.out; have hnc41 := NB832_837.out; have hcz42_0 : w40.cell? ⟨gb837, 0, none⟩ = some (.int .i64 0) := (blk_cell BK837.out 0).trans rfl; have hcz42_1 : w40.cell? ⟨gb837, 1, none⟩ = some (.int .i64 0) := (blk_cell BK837.out 1).trans rfl; have hfz42_0 := blk_frozen BK837.out 0; have hfz42_1 := blk_frozen BK837.out 1) | (go_at_call 30; (with_reducible refine (weirkeeperlaw05_awake.calls k2 _ A35.out).mono ?_); rintro e w43 ⟨rfl, hb⟩; have n0_ := Aside0.mk (Kd.R_below (by (with_reducible repeat (first | apply Kd.R_alloc | apply Kd.R_drewN | apply Kd.R_drew)); exact (Kd.R_mono (Kd.R_far (p := ⟨gb837, 1, none⟩) (Kd.R_far (p := ⟨gb837, 0, none⟩) (Kd.R_mono HO_38.out (fun k_ hk => (⟨hk, hk.2⟩ : _ ∧ k_ ≠ gb837))) (fun _ hk => hk.2) (.int .i64 t834)) (fun _ hk => hk.2) (.int .i64 t835)) (fun _ h_ => h_.1))) hb); have n1_ := Aside0.mk (blk_below (g := gb832) (o := .cells #[.int .i64 t829, .int .i64 t830] 66 (0, 0)) (by (with_reducible repeat (first | refine blk_drewN ?_ _ | refine blk_drew ?_ | refine blk_alloc ?_ _)); refine blk_far ?_ NB832_837.out _; (with_reducible repeat (first | refine blk_drewN ?_ _ | refine blk_drew ?_ | refine blk_alloc ?_ _)); refine blk_far ?_ NB832_837.out _; (with_reducible repeat (first | refine blk_drewN ?_ _ | refine blk_drew ?_ | refine blk_alloc ?_ _)); exact BK832.out) hb); have n2_ := Aside0.mk (blk_below (g := gb837) (o := .cells #[.int .i64 t834, .int .i64 t835] 66 (0, 0)) (by (with_reducible repeat (first | refine blk_drewN ?_ _ | refine blk_drew ?_ | refine blk_alloc ?_ _)); refine blk_put (cs := #[.int .i64 t834, .int .i64 0]) ?_ 1 _ rfl; (with_reducible repeat (first | refine blk_drewN ?_ _ | refine blk_drew ?_ | refine blk_alloc ?_ _)); refine blk_put (cs := #[.int .i64 0, .int .i64 0]) ?_ 0 _ rfl; (with_reducible repeat (first | refine blk_drewN ?_ _ | refine blk_drew ?_ | refine blk_alloc ?_ _)); exact BK837.out) hb); have n3_ := Aside0.mk (below_step (by repeat (first | (with_reducible first | exact HB.out | apply below_alloc | apply pw_below_drewN | apply below_drew1 | refine below_set ?_ GE832.out | refine below_set ?_ GE837.out) | exact HB.out)) hb); clear HO_38; clear BK832; clear BK837; clear HB; have HO_38 := n0_; have BK832 := n1_; have BK837 := n2_; have HB := n3_; clear n0_ n1_ n2_ n3_; (try clear hb); (try clear hb2); (try clear hk); (try clear hi)))
                      go_ret
                      exact ⟨by first | rfl | (simp only [h9_.out]; done) | (have h8_ := h9_.out; simp [h8_]; done) | (simp [errW_none, errW_some] <;> rfl) | (simp [*, errW_none, errW_some] <;> rfl), by repeat (first | (with_reducible first | exact HB.out | apply below_alloc | apply pw_below_drewN | apply below_drew1 | refine below_set ?_ GE832.out | refine below_set ?_ GE837.out) | exact HB.out)⟩
                    · rw [if_neg c34] at H
                      have c34b0 : (t835 == x9_2) = false := beq_eq_false_iff_ne.mpr c34
                      have c34b1 : (t835 != x9_2) = true := bne_iff_ne.mpr c34
                      exact absurd H (by simp)
                  · rw [if_neg c33] at H
                    have c33b0 : (t836 == 0) = false := beq_eq_false_iff_ne.mpr c33
                    have c33b1 : (t836 != 0) = true := bne_iff_ne.mpr c33
                    exact absurd H (by simp)
                · rw [if_neg c32] at H
                  have c32b0 : ((t831 == 0) == (decide (a0 ≤ x9_2))) = false := by simpa using c32
                  (try (have c32b1 : decide ((t831 == 0) = (decide (a0 ≤ x9_2))) = false := by simpa using c32))
                  (try (have c32b2 : ((t831 == 0) == (decide (a0 ≤ x9_2))) = false := by simpa using c32))
                  (try (have c32b3 : ¬ ((t831 == 0) = (decide (a0 ≤ x9_2))) := by simpa using c32))
                  clear c32
                  exact absurd H (by simp)

end Go.Proofs.Ythcohkgpbjcliaa.F

/- Contracts of Go functions of the seat Ythcohkgpbjcliaa: what a call comes to; no condition but those that each theorem names. -/
import Derived.Test.YthcohkgpbjcliaaFPre
import Derived.Test.YthcohkgpbjcliaaFref05x1
import Derived.Test.YthcohkgpbjcliaaFref05x0
namespace Go.Proofs.Ythcohkgpbjcliaa.F
open Go.RowKit Go.Proofs.YthcohkgpbjcliaaW.PrintWords Go.Proofs.YthcohkgpbjcliaaW.PrintLast Go.Proofs.YthcohkgpbjcliaaW.PrintMore
attribute [local go_sem] max2_int min2_int max_two min_two max_three min_three max_four min_four   -- for this text's walks alone
set_option linter.unusedVariables false
set_option linter.unusedSimpArgs false

theorem ite_ok_ref05x2 {α} (c : Prop) [Decidable c] (a b : α) (w : World) : (if c then Result.ok a w else Result.ok b w) = Result.ok (if c then a else b) w := by split <;> rfl
theorem ite_ff_ref05x2 (a b : Bool) : (if (!a) = true then false else b) = (a && b) := by cases a <;> rfl
theorem ite_fg_ref05x2 (a b : Bool) : (if a = false then false else b) = (a && b) := by cases a <;> rfl
attribute [local go_sem] ite_ok_ref05x2 ite_ff_ref05x2 ite_fg_ref05x2 Bool.not_and Bool.and_true
/-! ### weirkeeperref05_Fit: function 35 -/
mutual
def weirkeeperref05_Fit.j0 : Nat → Int → Int → Int → List (S72) → Bool → Option (Int × Int × Int)
  | 0, _, _, _, _, _ => none
  | k + 1, x0, x1, x2, x3, x26 => if x26 = true then (some (0, 0, 1)) else ((weirkeeperref05_Free.f k x1 x2 x3).bind fun t662 => (weirkeeperref05_Fit.l0 k x0 t662 0))
def weirkeeperref05_Fit.l0 : Nat → Int → List (S72) → Int → Option (Int × Int × Int)
  | 0, _, _, _ => none
  | k + 1, x0, x11, x12 => if x12 < (x11.length : Int) then (if 0 ≤ x12 then (if ((rd_T72 x11 x12).f1) ≥ x0 then (some ((rd_T72 x11 x12).f0, x0, 0)) else (weirkeeperref05_Fit.l0 k x0 x11 (wrap64 (x12 + 1)))) else (none)) else (some (0, 0, 5))
end
def weirkeeperref05_Fit.f (k : Nat) (a0 : Int) (a1 : Int) (a2 : Int) (l3 : List (S72)) : Option (Int × Int × Int) := (weirkeeperref05_Right.f k a1 a2 l3).bind fun t661 => (if t661 = true then (if a0 < 1 then (weirkeeperref05_Fit.j0 k a0 a1 a2 l3 true) else (weirkeeperref05_Fit.j0 k a0 a1 a2 l3 (decide (a0 > 2147483647)))) else (weirkeeperref05_Fit.j0 k a0 a1 a2 l3 true))
theorem weirkeeperref05_Fit.mono_l : ∀ k, (∀ y0 y1 y2 y3 y4, LeO (weirkeeperref05_Fit.j0 k y0 y1 y2 y3 y4) (weirkeeperref05_Fit.j0 (k + 1) y0 y1 y2 y3 y4)) ∧ (∀ y0 y1 y2, LeO (weirkeeperref05_Fit.l0 k y0 y1 y2) (weirkeeperref05_Fit.l0 (k + 1) y0 y1 y2))
  | 0 => ⟨fun _ _ _ _ _ r h => by simp [weirkeeperref05_Fit.j0] at h, fun _ _ _ r h => by simp [weirkeeperref05_Fit.l0] at h⟩
  | k + 1 => by
    obtain ⟨ih0, ih1⟩ := weirkeeperref05_Fit.mono_l k
    refine ⟨?_, ?_⟩
    · intro y0 y1 y2 y3 y4
      unfold weirkeeperref05_Fit.j0
      repeat' first
      | (with_reducible exact ih0 _ _ _ _ _)
      | (with_reducible exact ih1 _ _ _)
      | (with_reducible exact weirkeeperref05_Free.mono _ _ _ _)
      | (with_reducible exact weirkeeperref05_Right.mono _ _ _ _)
      | (with_reducible exact LeO.refl _)
      | (with_reducible exact LeO.none _)
      | (with_reducible refine LeO.ite ?_ ?_)
      | (with_reducible refine LeO.bind ?_ (fun _ => ?_))
      | exact ih0 _ _ _ _ _
      | exact ih1 _ _ _
      | exact weirkeeperref05_Free.mono _ _ _ _
      | exact weirkeeperref05_Right.mono _ _ _ _
      | exact LeO.none _
      | refine LeO.ite ?_ ?_
      | refine LeO.bind ?_ (fun _ => ?_)
    · intro y0 y1 y2
      unfold weirkeeperref05_Fit.l0
      repeat' first
      | (with_reducible exact ih0 _ _ _ _ _)
      | (with_reducible exact ih1 _ _ _)
      | (with_reducible exact weirkeeperref05_Free.mono _ _ _ _)
      | (with_reducible exact weirkeeperref05_Right.mono _ _ _ _)
      | (with_reducible exact LeO.refl _)
      | (with_reducible exact LeO.none _)
      | (with_reducible refine LeO.ite ?_ ?_)
      | (with_reducible refine LeO.bind ?_ (fun _ => ?_))
      | exact ih0 _ _ _ _ _
      | exact ih1 _ _ _
      | exact weirkeeperref05_Free.mono _ _ _ _
      | exact weirkeeperref05_Right.mono _ _ _ _
      | exact LeO.none _
      | refine LeO.ite ?_ ?_
      | refine LeO.bind ?_ (fun _ => ?_)
theorem weirkeeperref05_Fit.mono : ∀ a0 a1 a2 a3 k, LeO (weirkeeperref05_Fit.f k a0 a1 a2 a3) (weirkeeperref05_Fit.f (k + 1) a0 a1 a2 a3) := by
  intro a0 a1 a2 a3 k
  obtain ⟨ih0, ih1⟩ := weirkeeperref05_Fit.mono_l k
  unfold weirkeeperref05_Fit.f
  repeat' first
      | (with_reducible exact ih0 _ _ _ _ _)
      | (with_reducible exact ih1 _ _ _)
      | (with_reducible exact weirkeeperref05_Free.mono _ _ _ _)
      | (with_reducible exact weirkeeperref05_Right.mono _ _ _ _)
      | (with_reducible exact LeO.refl _)
      | (with_reducible exact LeO.none _)
      | (with_reducible refine LeO.ite ?_ ?_)
      | (with_reducible refine LeO.bind ?_ (fun _ => ?_))
      | exact ih0 _ _ _ _ _
      | exact ih1 _ _ _
      | exact weirkeeperref05_Free.mono _ _ _ _
      | exact weirkeeperref05_Right.mono _ _ _ _
      | exact LeO.none _
      | refine LeO.ite ?_ ?_
      | refine LeO.bind ?_ (fun _ => ?_)
set_option maxHeartbeats 8000000 in
set_option maxRecDepth 100000 in
theorem weirkeeperref05_Fit.calls (k : Nat) (a0 : Int) (a1 : Int) (a2 : Int) (A3 : Option Addr) (c3 : Nat) (l3 : List (S72)) (r1 : Int) (r2 : Int) (r3 : Int) (w : World) (hr3 : Kd.C k72 w A3 l3.length l3) (hc3 : l3.length ≤ c3) (h : weirkeeperref05_Fit.f k a0 a1 a2 l3 = some (r1, r2, r3)) :
    Calls Try.prog 35 #[.int .i64 a0, .int .i64 a1, .int .i64 a2, .slice A3 l3.length c3] w fun e w' => e = .returned (.tuple #[.agg #[.int .i64 r1, .int .i64 r2], .int .i64 r3]) ∧ Below w.heap.size w w' := by
  have hu72 := Try.underlying72
  have HR3 := Aside0.mk hr3
  have HC3 := Aside0.mk hc3
  clear hr3 hc3
  have HB := Aside0.mk (Below.refl w.heap.size w)
  have H : ((weirkeeperref05_Right.f k a1 a2 l3).bind fun t661 => (if t661 = true then (if a0 < 1 then (weirkeeperref05_Fit.j0 k a0 a1 a2 l3 true) else (weirkeeperref05_Fit.j0 k a0 a1 a2 l3 (decide (a0 > 2147483647)))) else (weirkeeperref05_Fit.j0 k a0 a1 a2 l3 true))) = some (r1, r2, r3) := h
  clear h
  replace H := Option.bind_eq_some_iff.mp H
  obtain ⟨t661, A50, H⟩ := H
  replace H : (if t661 = true then (if a0 < 1 then (weirkeeperref05_Fit.j0 k a0 a1 a2 l3 true) else (weirkeeperref05_Fit.j0 k a0 a1 a2 l3 (decide (a0 > 2147483647)))) else (weirkeeperref05_Fit.j0 k a0 a1 a2 l3 true)) = some (r1, r2, r3) := H
  have A5 := Aside0.mk A50
  clear A50
  have HC6 := Aside0.mk H
  clear H
  go_enter Try.func35, Try.ntmps35
  go_upto_region 2 with (first | ((with_reducible refine gate_dst (N := 8) rfl ?_); refine box_event ?hg (N := 8) ?hd (cs := #[.int .i64 0, .int .i64 0]) (t := 72) ?hr ?_; (case hd => rfl); (case hg => rfl); (case hr => first | (go_simp; done) | (go_simp; rfl)); intro gb660 hg w7 hbox hb; have n0_ := Aside0.mk (below_step (by repeat (first | (with_reducible first | exact HB.out | apply below_alloc | apply pw_below_drewN | apply below_drew1) | exact HB.out)) hb); have n1_ := Aside0.mk (hbox); have n2_ := Aside0.mk ((by rw [hg]; exact (below_size (by repeat (first | (with_reducible first | exact HB.out | apply below_alloc | apply pw_below_drewN | apply below_drew1) | exact HB.out))) : w.heap.size ≤ gb660)); have n3_ := Aside0.mk ((by rw [hg]; exact (below_size (by repeat (first | (with_reducible first | exact HB.out | apply below_alloc | apply pw_below_drewN | apply below_drew1) | exact HB.out))) : w.heap.size ≤ gb660)); clear HB; have HB := n0_; have BK660 := n1_; have GW660 := n2_; have GE660 := n3_; clear n0_ n1_ n2_ n3_; clear hb hbox hg) | ((with_reducible refine gate_callee (f := 37) rfl ?_); refine goesL_ (some 16) rfl rfl Try.func37 (by kernel_rfl) rfl #[.int .i64 a1, .int .i64 a2, .slice A3 l3.length c3] rfl (by (try simp only [List.map_toArray, List.map_cons, List.map_nil]); first | done | rfl | (simp only [List.length_drop, List.length_take]; rfl)) ?_; (with_reducible refine (weirkeeperref05_Right.calls k a1 a2 _ _ l3 t661 _ ?side1 ?side2 A5.out).mono ?_); (case side1 => repeat (first | exact (Kd.C_below HR3.out HB.out) | (with_reducible refine Kd.C_alloc ?_ _) | (with_reducible refine Kd.C_drewN ?_ _) | (with_reducible refine Kd.C_drew ?_))); (case side2 => exact HC3.out); rintro e w' ⟨rfl, ⟨nd, rfl⟩⟩; refine ⟨_, rfl, ?_⟩))
  (try simp only [Act.put, List.setIfInBounds_toArray, List.set_cons_zero, List.set_cons_succ])
  go_cut [26] (fun v26 wc => ∃ (kq : Nat) (x26_5 : Bool), v26 = .bool x26_5 ∧ Aside0 (weirkeeperref05_Fit.j0 kq a0 a1 a2 l3 x26_5 = some (r1, r2, r3)) ∧ Aside0 (kq ≤ k) ∧ Aside0 (wc.heap[gb660]? = some (.cells #[.int .i64 0, .int .i64 0] 72 (0, 0))) ∧ Aside0 (Below w.heap.size w wc))
  case first =>
    have H := HC6.out
    clear HC6
    by_cases c8 : t661 = true
    · subst c8
      have H1 : (if a0 < 1 then (weirkeeperref05_Fit.j0 k a0 a1 a2 l3 true) else (weirkeeperref05_Fit.j0 k a0 a1 a2 l3 (decide (a0 > 2147483647)))) = some (r1, r2, r3) := by rw [if_pos rfl] at H; exact H
      clear H
      have H := H1
      clear H1
      by_cases c9 : a0 < 1
      · rw [if_pos c9] at H
        have c9b0 : decide (a0 < 1) = true := decide_eq_true c9
        clear c9
        (first | rw [c9b0] | (simp only [i64_w, i32_w]; rw [c9b0]) | skip)
        have H' := Aside0.mk H
        clear H
        go_wp2
        go_meet
        case rel => exact ⟨_, (true), (by first | rfl | (simp; done) | (simp [*]; done)), H', ⟨by first | omega | exact Nat.le_refl _⟩, ⟨by (with_reducible repeat (first | refine blk_drewN ?_ _ | refine blk_drew ?_ | refine blk_alloc ?_ _)); exact BK660.out⟩, ⟨by repeat (first | (with_reducible first | exact HB.out | apply below_alloc | apply pw_below_drewN | apply below_drew1 | refine below_set ?_ GE660.out) | exact HB.out)⟩⟩
      · rw [if_neg c9] at H
        have c9b0 : decide (a0 < 1) = false := decide_eq_false c9
        clear c9
        (first | rw [c9b0] | (simp only [i64_w, i32_w]; rw [c9b0]) | skip)
        have H' := Aside0.mk H
        clear H
        go_wp2
        go_meet
        case rel => exact ⟨_, (decide (a0 > 2147483647)), (by first | rfl | (simp; done) | (simp [*]; done)), H', ⟨by first | omega | exact Nat.le_refl _⟩, ⟨by (with_reducible repeat (first | refine blk_drewN ?_ _ | refine blk_drew ?_ | refine blk_alloc ?_ _)); exact BK660.out⟩, ⟨by repeat (first | (with_reducible first | exact HB.out | apply below_alloc | apply pw_below_drewN | apply below_drew1 | refine below_set ?_ GE660.out) | exact HB.out)⟩⟩
    · replace c8 := Bool.eq_false_iff.mpr c8
      subst c8
      have H1 : (weirkeeperref05_Fit.j0 k a0 a1 a2 l3 true) = some (r1, r2, r3) := by rw [if_neg (show ¬ (false = true) by decide)] at H; exact H
      clear H
      have H := H1
      clear H1
      have H' := Aside0.mk H
      clear H
      go_wp2
      go_meet
      case rel => exact ⟨_, (true), (by first | rfl | (simp; done) | (simp [*]; done)), H', ⟨by first | omega | exact Nat.le_refl _⟩, ⟨by (with_reducible repeat (first | refine blk_drewN ?_ _ | refine blk_drew ?_ | refine blk_alloc ?_ _)); exact BK660.out⟩, ⟨by repeat (first | (with_reducible first | exact HB.out | apply below_alloc | apply pw_below_drewN | apply below_drew1 | refine below_set ?_ GE660.out) | exact HB.out)⟩⟩
  case rest =>
    clear HC6
    try clear p2
    try clear c3
    try clear c8
    try clear c9
    try clear c9b0
    obtain ⟨kq, x26_5, rfl, HA, HJ5, BK660, HB⟩ := hcut
    cases kq with
    | zero => exact absurd HA.out (by simp [weirkeeperref05_Fit.j0])
    | succ kj5 =>
      have H := HA.out
      clear HA
      simp only [weirkeeperref05_Fit.j0] at H
      by_cases c10 : x26_5 = true
      · subst c10
        have H1 : (some (0, 0, 1)) = some (r1, r2, r3) := by rw [if_pos rfl] at H; exact H
        clear H
        have H := H1
        clear H1
        simp only [Option.some.injEq, Prod.mk.injEq] at H
        obtain ⟨rfl, rfl, rfl⟩ := H
        have hcz11_0 : wc.cell? ⟨gb660, 0, none⟩ = some (.int .i64 0) := (blk_cell BK660.out 0).trans rfl
        have hcz11_1 : wc.cell? ⟨gb660, 1, none⟩ = some (.int .i64 0) := (blk_cell BK660.out 1).trans rfl
        have hfz11_0 := blk_frozen BK660.out 0
        have hfz11_1 := blk_frozen BK660.out 1
        go_wp2
        refine bodyPost_ret (results_ct rfl _ _ gb660 72 #[.int .i64 0, .int .i64 0] (0, 0) _ rfl (by (with_reducible repeat (first | refine blk_drewN ?_ _ | refine blk_drew ?_ | refine blk_alloc ?_ _)); refine blk_put (cs := #[.int .i64 0, .int .i64 0]) ?_ 1 _ rfl; (with_reducible repeat (first | refine blk_drewN ?_ _ | refine blk_drew ?_ | refine blk_alloc ?_ _)); refine blk_put (cs := #[.int .i64 0, .int .i64 0]) ?_ 0 _ rfl; (with_reducible repeat (first | refine blk_drewN ?_ _ | refine blk_drew ?_ | refine blk_alloc ?_ _)); exact BK660.out) Try.underlying72 rfl (by kernel_rfl)) rfl ?_
        exact ⟨by first | rfl | (simp [errW_none, errW_some] <;> rfl) | (simp [*, errW_none, errW_some] <;> rfl), by repeat (first | (with_reducible first | exact HB.out | apply below_alloc | apply pw_below_drewN | apply below_drew1 | refine below_set ?_ GE660.out) | exact HB.out)⟩
      · replace c10 := Bool.eq_false_iff.mpr c10
        subst c10
        have H1 : ((weirkeeperref05_Free.f kj5 a1 a2 l3).bind fun t662 => (weirkeeperref05_Fit.l0 kj5 a0 t662 0)) = some (r1, r2, r3) := by rw [if_neg (show ¬ (false = true) by decide)] at H; exact H
        clear H
        have H := H1
        clear H1
        replace H := Option.bind_eq_some_iff.mp H
        obtain ⟨t662, A120, H⟩ := H
        replace H : (weirkeeperref05_Fit.l0 kj5 a0 t662 0) = some (r1, r2, r3) := H
        have A12 := Aside0.mk A120
        clear A120
        have H' := Aside0.mk H
        clear H
        go_wp2_with (first | ((with_reducible refine gate_callee (f := 33) rfl ?_); refine goesL_ (some 31) rfl rfl Try.func33 (by kernel_rfl) rfl #[.int .i64 a1, .int .i64 a2, .slice A3 l3.length c3] rfl (by (try simp only [List.map_toArray, List.map_cons, List.map_nil]); first | done | rfl | (simp only [List.length_drop, List.length_take]; rfl)) ?_; (with_reducible refine (weirkeeperref05_Free.calls kj5 a1 a2 _ _ l3 t662 _ ?side1 ?side2 A12.out).mono ?_); (case side1 => repeat (first | exact (Kd.C_below HR3.out HB.out) | (with_reducible refine Kd.C_alloc ?_ _) | (with_reducible refine Kd.C_drewN ?_ _) | (with_reducible refine Kd.C_drew ?_))); (case side2 => exact HC3.out); rintro e w13 ⟨v663, rfl, ho0, hb⟩; refine ⟨_, rfl, ?_⟩; have n0_ := Aside0.mk (Kd.R_lower (Kd.R_newB ho0 (g := gb660) (o := .cells #[.int .i64 0, .int .i64 0] 72 (0, 0)) (by (with_reducible repeat (first | refine blk_drewN ?_ _ | refine blk_drew ?_ | refine blk_alloc ?_ _)); exact BK660.out)) (below_size (by repeat (first | (with_reducible first | exact HB.out | apply below_alloc | apply pw_below_drewN | apply below_drew1 | refine below_set ?_ GE660.out) | exact HB.out)))); have n1_ := Aside0.mk (blk_below (g := gb660) (o := .cells #[.int .i64 0, .int .i64 0] 72 (0, 0)) (by (with_reducible repeat (first | refine blk_drewN ?_ _ | refine blk_drew ?_ | refine blk_alloc ?_ _)); exact BK660.out) hb); have n2_ := Aside0.mk (below_step (by repeat (first | (with_reducible first | exact HB.out | apply below_alloc | apply pw_below_drewN | apply below_drew1 | refine below_set ?_ GE660.out) | exact HB.out)) hb); clear BK660; clear HB; have HO664 := n0_; have BK660 := n1_; have HB := n2_; clear n0_ n1_ n2_; (try clear hb); (try clear hb2); (try clear hk); (try clear hi); (try clear ho0)))
        go_loopg [12] kj5 (fun kq v12 w' => ∃ (x12_2 : Int) (x661000_2 : Int) (x661001_2 : Int), v12 = .int .i64 x12_2 ∧ Aside0 (weirkeeperref05_Fit.l0 kq a0 t662 x12_2 = some (r1, r2, r3)) ∧ Aside0 (kq ≤ kj5) ∧ Aside0 (Kd.R k72 72 w' w.heap.size (fun k_ => k_ ≠ gb660) v663 t662) ∧ Aside0 (w'.heap[gb660]? = some (.cells #[.int .i64 x661000_2, .int .i64 x661001_2] 72 (0, 0))) ∧ Aside0 (Below w.heap.size w w'))
        case atStart => exact ⟨(0), (0), (0), (by first | rfl | (simp; done) | (simp [*]; done)), H', ⟨Nat.le_refl _⟩, ⟨by (with_reducible repeat (first | apply Kd.R_alloc | apply Kd.R_drewN | apply Kd.R_drew)); exact Kd.R_mono HO664.out (fun _ hk => hk.2)⟩, ⟨by (with_reducible repeat (first | refine blk_drewN ?_ _ | refine blk_drew ?_ | refine blk_alloc ?_ _)); exact BK660.out⟩, ⟨by repeat (first | (with_reducible first | exact HB.out | apply below_alloc | apply pw_below_drewN | apply below_drew1 | refine below_set ?_ GE660.out) | exact HB.out)⟩⟩
        case round =>
          clear H'
          try clear c1
          try clear p2
          try clear c3
          try clear c8
          try clear c9
          try clear c9b0
          try clear c10
          try clear hcz11_0
          try clear hcz11_1
          try clear hfz11_0
          try clear hfz11_1
          try clear p2
          obtain ⟨x12_2, x661000_2, x661001_2, rfl, HA, HK2, HO_11, BK660, HB⟩ := hrel
          cases gk with
          | zero => exact absurd HA.out (by simp [weirkeeperref05_Fit.l0])
          | succ k2 =>
            have H := HA.out
            clear HA
            simp only [weirkeeperref05_Fit.l0] at H
            by_cases c14 : x12_2 < (t662.length : Int)
            · rw [if_pos c14] at H
              have c14b0 : decide (x12_2 < (t662.length : Int)) = true := decide_eq_true c14
              clear c14
              by_cases c15 : 0 ≤ x12_2
              · rw [if_pos c15] at H
                have c15b0 : decide (0 ≤ x12_2) = true := decide_eq_true c15
                clear c15
                by_cases c16 : ((rd_T72 t662 x12_2).f1) ≥ a0
                · rw [if_pos c16] at H
                  have c16b0 : decide (a0 ≤ ((rd_T72 t662 x12_2).f1)) = true := decide_eq_true c16
                  clear c16
                  simp only [Option.some.injEq, Prod.mk.injEq] at H
                  obtain ⟨rfl, rfl, rfl⟩ := H
                  obtain ⟨Ao17, co17, eo17⟩ := Kd.R_slice HO_11.out
                  subst eo17
                  have p665 : 0 ≤ (x12_2 : Int) := of_decide_eq_true (by first | (with_reducible assumption) | assumption)
                  have q665 : x12_2 < (t662.length : Int) := of_decide_eq_true (by first | (with_reducible assumption) | assumption)
                  obtain ⟨ad665, e665, hx665_0, hx665_1⟩ := at_T72 (Kd.R_reads' HO_11.out).2.2 x12_2 p665 q665
                  cases e665
                  replace p665 := eq_true p665
                  replace q665 := eq_true q665
                  have p666 : 0 ≤ (x12_2 : Int) := of_decide_eq_true (by first | (with_reducible assumption) | assumption)
                  have q666 : x12_2 < (t662.length : Int) := of_decide_eq_true (by first | (with_reducible assumption) | assumption)
                  obtain ⟨ad666, e666, hx666_0, hx666_1⟩ := at_T72 (Kd.R_reads' HO_11.out).2.2 x12_2 p666 q666
                  obtain rfl : ad665 = ad666 := (by injection e666)
                  replace p666 := eq_true p666
                  replace q666 := eq_true q666
                  have hcz18_0 : wr.cell? ⟨gb660, 0, none⟩ = some (.int .i64 x661000_2) := (blk_cell BK660.out 0).trans rfl
                  have hcz18_1 : wr.cell? ⟨gb660, 1, none⟩ = some (.int .i64 x661001_2) := (blk_cell BK660.out 1).trans rfl
                  have hfz18_0 := blk_frozen BK660.out 0
                  have hfz18_1 := blk_frozen BK660.out 1
                  go_wp2
                  refine bodyPost_ret (results_ct rfl _ _ gb660 72 #[.int .i64 ((rd_T72 t662 x12_2).f0), .int .i64 a0] (0, 0) _ rfl (by (with_reducible repeat (first | refine blk_drewN ?_ _ | refine blk_drew ?_ | refine blk_alloc ?_ _)); refine blk_put (cs := #[.int .i64 ((rd_T72 t662 x12_2).f0), .int .i64 x661001_2]) ?_ 1 _ rfl; (with_reducible repeat (first | refine blk_drewN ?_ _ | refine blk_drew ?_ | refine blk_alloc ?_ _)); refine blk_put (cs := #[.int .i64 x661000_2, .int .i64 x661001_2]) ?_ 0 _ rfl; (with_reducible repeat (first | refine blk_drewN ?_ _ | refine blk_drew ?_ | refine blk_alloc ?_ _)); exact BK660.out) Try.underlying72 rfl (by kernel_rfl)) rfl ?_
                  exact ⟨by first | rfl | (simp [errW_none, errW_some] <;> rfl) | (simp [*, errW_none, errW_some] <;> rfl), by repeat (first | (with_reducible first | exact HB.out | apply below_alloc | apply pw_below_drewN | apply below_drew1 | refine below_set ?_ GE660.out) | exact HB.out)⟩
                · rw [if_neg c16] at H
                  have c16b0 : decide (a0 ≤ ((rd_T72 t662 x12_2).f1)) = false := decide_eq_false c16
                  clear c16
                  have H' := Aside0.mk H
                  clear H
                  obtain ⟨Ao19, co19, eo19⟩ := Kd.R_slice HO_11.out
                  subst eo19
                  have p665 : 0 ≤ (x12_2 : Int) := of_decide_eq_true (by first | (with_reducible assumption) | assumption)
                  have q665 : x12_2 < (t662.length : Int) := of_decide_eq_true (by first | (with_reducible assumption) | assumption)
                  obtain ⟨ad665, e665, hx665_0, hx665_1⟩ := at_T72 (Kd.R_reads' HO_11.out).2.2 x12_2 p665 q665
                  cases e665
                  replace p665 := eq_true p665
                  replace q665 := eq_true q665
                  go_wp2
                  go_roundg k2
                  case measure => have := HJ5.out; have := HK2.out; omega
                  case rel => exact ⟨(wrap64 (x12_2 + 1)), (x661000_2), (x661001_2), (by first | rfl | (simp; done) | (simp [*]; done)), H', ⟨by have := HJ5.out; have := HK2.out; omega⟩, ⟨by (with_reducible repeat (first | apply Kd.R_alloc | apply Kd.R_drewN | apply Kd.R_drew)); exact HO_11.out⟩, ⟨by (with_reducible repeat (first | refine blk_drewN ?_ _ | refine blk_drew ?_ | refine blk_alloc ?_ _)); exact BK660.out⟩, ⟨by repeat (first | (with_reducible first | exact HB.out | apply below_alloc | apply pw_below_drewN | apply below_drew1 | refine below_set ?_ GE660.out) | exact HB.out)⟩⟩
              · rw [if_neg c15] at H
                exact absurd H (by simp)
            · rw [if_neg c14] at H
              have c14b0 : decide (x12_2 < (t662.length : Int)) = false := decide_eq_false c14
              clear c14
              simp only [Option.some.injEq, Prod.mk.injEq] at H
              obtain ⟨rfl, rfl, rfl⟩ := H
              obtain ⟨Ao20, co20, eo20⟩ := Kd.R_slice HO_11.out
              subst eo20
              have hcz21_0 : wr.cell? ⟨gb660, 0, none⟩ = some (.int .i64 x661000_2) := (blk_cell BK660.out 0).trans rfl
              have hcz21_1 : wr.cell? ⟨gb660, 1, none⟩ = some (.int .i64 x661001_2) := (blk_cell BK660.out 1).trans rfl
              have hfz21_0 := blk_frozen BK660.out 0
              have hfz21_1 := blk_frozen BK660.out 1
              go_wp2
              refine bodyPost_ret (results_ct rfl _ _ gb660 72 #[.int .i64 0, .int .i64 0] (0, 0) _ rfl (by (with_reducible repeat (first | refine blk_drewN ?_ _ | refine blk_drew ?_ | refine blk_alloc ?_ _)); refine blk_put (cs := #[.int .i64 0, .int .i64 x661001_2]) ?_ 1 _ rfl; (with_reducible repeat (first | refine blk_drewN ?_ _ | refine blk_drew ?_ | refine blk_alloc ?_ _)); refine blk_put (cs := #[.int .i64 x661000_2, .int .i64 x661001_2]) ?_ 0 _ rfl; (with_reducible repeat (first | refine blk_drewN ?_ _ | refine blk_drew ?_ | refine blk_alloc ?_ _)); exact BK660.out) Try.underlying72 rfl (by kernel_rfl)) rfl ?_
              exact ⟨by first | rfl | (simp [errW_none, errW_some] <;> rfl) | (simp [*, errW_none, errW_some] <;> rfl), by repeat (first | (with_reducible first | exact HB.out | apply below_alloc | apply pw_below_drewN | apply below_drew1 | refine below_set ?_ GE660.out) | exact HB.out)⟩

/-! ### weirkeeperref05_Same: function 38 -/
def weirkeeperref05_Same.l0 : Nat → List (S72) → List (S72) → Int → Option (Bool)
  | 0, _, _, _ => none
  | k + 1, x0, x1, x5 => if x5 < (x0.length : Int) then (if 0 ≤ x5 then (if x5 < (x1.length : Int) then (if (!(((rd_T72 x0 x5).f0) == ((rd_T72 x1 x5).f0)) || (!(((rd_T72 x0 x5).f1) == ((rd_T72 x1 x5).f1)))) = true then (some false) else (weirkeeperref05_Same.l0 k x0 x1 (wrap64 (x5 + 1)))) else (none)) else (none)) else (some true)
def weirkeeperref05_Same.f (k : Nat) (l0 : List (S72)) (l1 : List (S72)) : Option (Bool) := if (l0.length : Int) = (l1.length : Int) then (weirkeeperref05_Same.l0 k l0 l1 0) else (some false)
theorem weirkeeperref05_Same.mono_l : ∀ k, (∀ y0 y1 y2, LeO (weirkeeperref05_Same.l0 k y0 y1 y2) (weirkeeperref05_Same.l0 (k + 1) y0 y1 y2))
  | 0 => fun _ _ _ r h => by simp [weirkeeperref05_Same.l0] at h
  | k + 1 => by
    have ih0 := weirkeeperref05_Same.mono_l k
    · intro y0 y1 y2
      unfold weirkeeperref05_Same.l0
      repeat' first
      | (with_reducible exact ih0 _ _ _)
      | (with_reducible exact LeO.refl _)
      | (with_reducible exact LeO.none _)
      | (with_reducible refine LeO.ite ?_ ?_)
      | (with_reducible refine LeO.bind ?_ (fun _ => ?_))
      | exact ih0 _ _ _
      | exact LeO.none _
      | refine LeO.ite ?_ ?_
      | refine LeO.bind ?_ (fun _ => ?_)
theorem weirkeeperref05_Same.mono : ∀ a0 a1 k, LeO (weirkeeperref05_Same.f k a0 a1) (weirkeeperref05_Same.f (k + 1) a0 a1) := by
  intro a0 a1 k
  have ih0 := weirkeeperref05_Same.mono_l k
  unfold weirkeeperref05_Same.f
  repeat' first
      | (with_reducible exact ih0 _ _ _)
      | (with_reducible exact LeO.refl _)
      | (with_reducible exact LeO.none _)
      | (with_reducible refine LeO.ite ?_ ?_)
      | (with_reducible refine LeO.bind ?_ (fun _ => ?_))
      | exact ih0 _ _ _
      | exact LeO.none _
      | refine LeO.ite ?_ ?_
      | refine LeO.bind ?_ (fun _ => ?_)
set_option maxHeartbeats 8000000 in
set_option maxRecDepth 100000 in
theorem weirkeeperref05_Same.calls (k : Nat) (A0 : Option Addr) (c0 : Nat) (l0 : List (S72)) (A1 : Option Addr) (c1 : Nat) (l1 : List (S72)) (r : Bool) (w : World) (hr0 : Kd.C k72 w A0 l0.length l0) (hc0 : l0.length ≤ c0) (hr1 : Kd.C k72 w A1 l1.length l1) (hc1 : l1.length ≤ c1) (h : weirkeeperref05_Same.f k l0 l1 = some r) :
    Calls Try.prog 38 #[.slice A0 l0.length c0, .slice A1 l1.length c1] w fun e w' => e = .returned (.bool r) ∧ Drawn0 w w' := by
  have hu72 := Try.underlying72
  have HR0 := Aside0.mk hr0
  have HC0 := Aside0.mk hc0
  clear hr0 hc0
  have HR1 := Aside0.mk hr1
  have HC1 := Aside0.mk hc1
  clear hr1 hc1
  have H : (if (l0.length : Int) = (l1.length : Int) then (weirkeeperref05_Same.l0 k l0 l1 0) else (some false)) = some r := h
  clear h
  by_cases c3 : (l0.length : Int) = (l1.length : Int)
  · rw [if_pos c3] at H
    have c3b0 : ((l0.length : Int) == (l1.length : Int)) = true := beq_iff_eq.mpr c3
    have c3b1 : ((l0.length : Int) != (l1.length : Int)) = false := bne_eq_false_iff_eq.mpr c3
    have c3b2 : (l0.length == l1.length) = true := by first | simpa using c3 | (simp at c3 ⊢; omega)
    clear c3
    have H' := Aside0.mk H
    clear H
    go_enter Try.func38, Try.ntmps38
    go_wp2
    repeat (go_quiet (fail); try go_wp2)
    go_loopg [5] k (fun kq v5 w' => ∃ (x5_1 : Int), v5 = .int .i64 x5_1 ∧ Aside0 (weirkeeperref05_Same.l0 kq l0 l1 x5_1 = some r) ∧ Aside0 (kq ≤ k) ∧ Drawn0 w w')
    case atStart => exact ⟨(0), (by first | rfl | (simp; done) | (simp [*]; done)), H', ⟨Nat.le_refl _⟩, by repeat (first | exact Drawn0.refl _ | apply Drawn0.step)⟩
    case round =>
      clear H'
      try clear c1
      try clear p2
      try clear c3
      try clear c3b0
      try clear c3b1
      try clear c3b2
      obtain ⟨x5_1, rfl, HA, HK1, ⟨m1, rfl⟩⟩ := hrel
      cases gk with
      | zero => exact absurd HA.out (by simp [weirkeeperref05_Same.l0])
      | succ k1 =>
        have H := HA.out
        clear HA
        simp only [weirkeeperref05_Same.l0] at H
        by_cases c4 : x5_1 < (l0.length : Int)
        · rw [if_pos c4] at H
          have c4b0 : decide (x5_1 < (l0.length : Int)) = true := decide_eq_true c4
          clear c4
          by_cases c5 : 0 ≤ x5_1
          · rw [if_pos c5] at H
            have c5b0 : decide (0 ≤ x5_1) = true := decide_eq_true c5
            clear c5
            by_cases c6 : x5_1 < (l1.length : Int)
            · rw [if_pos c6] at H
              have c6b0 : decide (x5_1 < (l1.length : Int)) = true := decide_eq_true c6
              clear c6
              by_cases c7 : (!(((rd_T72 l0 x5_1).f0) == ((rd_T72 l1 x5_1).f0)) || (!(((rd_T72 l0 x5_1).f1) == ((rd_T72 l1 x5_1).f1)))) = true
              · rw [if_pos c7] at H
                have c7b0 : (!(((rd_T72 l0 x5_1).f0) == ((rd_T72 l1 x5_1).f0)) || (!(((rd_T72 l0 x5_1).f1) == ((rd_T72 l1 x5_1).f1)))) = true := c7
                clear c7
                obtain rfl := Option.some.inj H
                have p667 : 0 ≤ (x5_1 : Int) := of_decide_eq_true (by first | (with_reducible assumption) | assumption)
                have q667 : x5_1 < (l0.length : Int) := of_decide_eq_true (by first | (with_reducible assumption) | assumption)
                obtain ⟨ad667, e667, hx667_0, hx667_1⟩ := at_T72 HR0.out x5_1 p667 q667
                cases e667
                replace p667 := eq_true p667
                replace q667 := eq_true q667
                have p668 : 0 ≤ (x5_1 : Int) := of_decide_eq_true (by first | (with_reducible assumption) | assumption)
                have q668 : x5_1 < (l1.length : Int) := of_decide_eq_true (by first | (with_reducible assumption) | assumption)
                obtain ⟨ad668, e668, hx668_0, hx668_1⟩ := at_T72 HR1.out x5_1 p668 q668
                cases e668
                replace p668 := eq_true p668
                replace q668 := eq_true q668
                go_wp2
                repeat (go_quiet (fail); try go_wp2)
                go_ret
                exact ⟨by first | rfl | (simp; done) | (simp [*]; done), by repeat (first | exact Drawn0.refl _ | apply Drawn0.step)⟩
              · rw [if_neg c7] at H
                have c7b0 : (!(((rd_T72 l0 x5_1).f0) == ((rd_T72 l1 x5_1).f0)) || (!(((rd_T72 l0 x5_1).f1) == ((rd_T72 l1 x5_1).f1)))) = false := by simpa using c7
                clear c7
                have H' := Aside0.mk H
                clear H
                have p667 : 0 ≤ (x5_1 : Int) := of_decide_eq_true (by first | (with_reducible assumption) | assumption)
                have q667 : x5_1 < (l0.length : Int) := of_decide_eq_true (by first | (with_reducible assumption) | assumption)
                obtain ⟨ad667, e667, hx667_0, hx667_1⟩ := at_T72 HR0.out x5_1 p667 q667
                cases e667
                replace p667 := eq_true p667
                replace q667 := eq_true q667
                have p668 : 0 ≤ (x5_1 : Int) := of_decide_eq_true (by first | (with_reducible assumption) | assumption)
                have q668 : x5_1 < (l1.length : Int) := of_decide_eq_true (by first | (with_reducible assumption) | assumption)
                obtain ⟨ad668, e668, hx668_0, hx668_1⟩ := at_T72 HR1.out x5_1 p668 q668
                cases e668
                replace p668 := eq_true p668
                replace q668 := eq_true q668
                go_wp2
                repeat (go_quiet (fail); try go_wp2)
                go_roundg k1
                case measure => have := HK1.out; omega
                case rel => exact ⟨(wrap64 (x5_1 + 1)), (by first | rfl | (simp; done) | (simp [*]; done)), H', ⟨by have := HK1.out; omega⟩, by repeat (first | exact Drawn0.refl _ | apply Drawn0.step)⟩
            · rw [if_neg c6] at H
              exact absurd H (by simp)
          · rw [if_neg c5] at H
            exact absurd H (by simp)
        · rw [if_neg c4] at H
          have c4b0 : decide (x5_1 < (l0.length : Int)) = false := decide_eq_false c4
          clear c4
          obtain rfl := Option.some.inj H
          go_wp2
          repeat (go_quiet (fail); try go_wp2)
          go_ret
          exact ⟨by first | rfl | (simp; done) | (simp [*]; done), by repeat (first | exact Drawn0.refl _ | apply Drawn0.step)⟩
  · rw [if_neg c3] at H
    have c3b0 : ((l0.length : Int) == (l1.length : Int)) = false := beq_eq_false_iff_ne.mpr c3
    have c3b1 : ((l0.length : Int) != (l1.length : Int)) = true := bne_iff_ne.mpr c3
    have c3b2 : (l0.length == l1.length) = false := by first | simpa using c3 | (simp at c3 ⊢; omega)
    obtain rfl := Option.some.inj H
    go_enter Try.func38, Try.ntmps38
    go_wp2
    repeat (go_quiet (fail); try go_wp2)
    go_ret
    exact ⟨by first | rfl | (simp; done) | (simp [*]; done), by repeat (first | exact Drawn0.refl _ | apply Drawn0.step)⟩

end Go.Proofs.Ythcohkgpbjcliaa.F

/- Contracts of Go functions of the seat Ythcohkgpbjcliaa: what a call comes to; no condition but those that each theorem names. -/
import Derived.Test.YthcohkgpbjcliaaFPre
namespace Go.Proofs.Ythcohkgpbjcliaa.F
open Go.RowKit Go.Proofs.YthcohkgpbjcliaaW.PrintWords Go.Proofs.YthcohkgpbjcliaaW.PrintLast Go.Proofs.YthcohkgpbjcliaaW.PrintMore
attribute [local go_sem] max2_int min2_int max_two min_two max_three min_three max_four min_four   -- for this text's walks alone
set_option linter.unusedVariables false
set_option linter.unusedSimpArgs false

/-! ### weirkeeperref05_Right: function 37 -/
mutual
def weirkeeperref05_Right.j0 : Nat → Int → Int → List (S72) → Bool → Option (Bool)
  | 0, _, _, _, _ => none
  | k + 1, x0, x1, x2, x19 => if x19 = true then (some false) else (weirkeeperref05_Right.l0 k x0 x1 x2 0)
def weirkeeperref05_Right.l0 : Nat → Int → Int → List (S72) → Int → Option (Bool)
  | 0, _, _, _, _ => none
  | k + 1, x0, x1, x2, x7 => if x7 < (x2.length : Int) then (if 0 ≤ x7 then (if ((rd_T72 x2 x7).f1) < 1 then (weirkeeperref05_Right.j2 k x0 x1 x2 x7 true) else (if ((rd_T72 x2 x7).f0) < x0 then (weirkeeperref05_Right.j2 k x0 x1 x2 x7 true) else (if ((rd_T72 x2 x7).f0) > x1 then (weirkeeperref05_Right.j2 k x0 x1 x2 x7 true) else (weirkeeperref05_Right.j2 k x0 x1 x2 x7 (decide (((rd_T72 x2 x7).f1) > (wrap64 (x1 - ((rd_T72 x2 x7).f0))))))))) else (none)) else (some true)
def weirkeeperref05_Right.j2 : Nat → Int → Int → List (S72) → Int → Bool → Option (Bool)
  | 0, _, _, _, _, _ => none
  | k + 1, x0, x1, x2, x7, x64 => if x64 = true then (some false) else (weirkeeperref05_Right.l1 k x0 x1 x2 x7 0)
def weirkeeperref05_Right.l1 : Nat → Int → Int → List (S72) → Int → Int → Option (Bool)
  | 0, _, _, _, _, _ => none
  | k + 1, x0, x1, x2, x7, x8 => if x8 < x7 then (if 0 ≤ x7 then (if x7 < (x2.length : Int) then (if 0 ≤ x8 then (if x8 < (x2.length : Int) then (if ((rd_T72 x2 x7).f0) < (wrap64 (((rd_T72 x2 x8).f0) + ((rd_T72 x2 x8).f1))) then (if ((rd_T72 x2 x8).f0) < (wrap64 (((rd_T72 x2 x7).f0) + ((rd_T72 x2 x7).f1))) then (some false) else (weirkeeperref05_Right.l1 k x0 x1 x2 x7 (wrap64 (x8 + 1)))) else (weirkeeperref05_Right.l1 k x0 x1 x2 x7 (wrap64 (x8 + 1)))) else (none)) else (none)) else (none)) else (none)) else (weirkeeperref05_Right.l0 k x0 x1 x2 (wrap64 (x7 + 1)))
end
def weirkeeperref05_Right.f (k : Nat) (a0 : Int) (a1 : Int) (l2 : List (S72)) : Option (Bool) := if a0 < 0 then (weirkeeperref05_Right.j0 k a0 a1 l2 true) else (if a0 > a1 then (weirkeeperref05_Right.j0 k a0 a1 l2 true) else (weirkeeperref05_Right.j0 k a0 a1 l2 (decide (a1 > 2147483647))))
theorem weirkeeperref05_Right.mono_l : ∀ k, (∀ y0 y1 y2 y3, LeO (weirkeeperref05_Right.j0 k y0 y1 y2 y3) (weirkeeperref05_Right.j0 (k + 1) y0 y1 y2 y3)) ∧ (∀ y0 y1 y2 y3, LeO (weirkeeperref05_Right.l0 k y0 y1 y2 y3) (weirkeeperref05_Right.l0 (k + 1) y0 y1 y2 y3)) ∧ (∀ y0 y1 y2 y3 y4, LeO (weirkeeperref05_Right.j2 k y0 y1 y2 y3 y4) (weirkeeperref05_Right.j2 (k + 1) y0 y1 y2 y3 y4)) ∧ (∀ y0 y1 y2 y3 y4, LeO (weirkeeperref05_Right.l1 k y0 y1 y2 y3 y4) (weirkeeperref05_Right.l1 (k + 1) y0 y1 y2 y3 y4))
  | 0 => ⟨fun _ _ _ _ r h => by simp [weirkeeperref05_Right.j0] at h, fun _ _ _ _ r h => by simp [weirkeeperref05_Right.l0] at h, fun _ _ _ _ _ r h => by simp [weirkeeperref05_Right.j2] at h, fun _ _ _ _ _ r h => by simp [weirkeeperref05_Right.l1] at h⟩
  | k + 1 => by
    obtain ⟨ih0, ih1, ih2, ih3⟩ := weirkeeperref05_Right.mono_l k
    refine ⟨?_, ?_, ?_, ?_⟩
    · intro y0 y1 y2 y3
      unfold weirkeeperref05_Right.j0
      repeat' first
      | (with_reducible exact ih0 _ _ _ _)
      | (with_reducible exact ih1 _ _ _ _)
      | (with_reducible exact ih2 _ _ _ _ _)
      | (with_reducible exact ih3 _ _ _ _ _)
      | (with_reducible exact LeO.refl _)
      | (with_reducible exact LeO.none _)
      | (with_reducible refine LeO.ite ?_ ?_)
      | (with_reducible refine LeO.bind ?_ (fun _ => ?_))
      | exact ih0 _ _ _ _
      | exact ih1 _ _ _ _
      | exact ih2 _ _ _ _ _
      | exact ih3 _ _ _ _ _
      | exact LeO.none _
      | refine LeO.ite ?_ ?_
      | refine LeO.bind ?_ (fun _ => ?_)
    · intro y0 y1 y2 y3
      unfold weirkeeperref05_Right.l0
      repeat' first
      | (with_reducible exact ih0 _ _ _ _)
      | (with_reducible exact ih1 _ _ _ _)
      | (with_reducible exact ih2 _ _ _ _ _)
      | (with_reducible exact ih3 _ _ _ _ _)
      | (with_reducible exact LeO.refl _)
      | (with_reducible exact LeO.none _)
      | (with_reducible refine LeO.ite ?_ ?_)
      | (with_reducible refine LeO.bind ?_ (fun _ => ?_))
      | exact ih0 _ _ _ _
      | exact ih1 _ _ _ _
      | exact ih2 _ _ _ _ _
      | exact ih3 _ _ _ _ _
      | exact LeO.none _
      | refine LeO.ite ?_ ?_
      | refine LeO.bind ?_ (fun _ => ?_)
    · intro y0 y1 y2 y3 y4
      unfold weirkeeperref05_Right.j2
      repeat' first
      | (with_reducible exact ih0 _ _ _ _)
      | (with_reducible exact ih1 _ _ _ _)
      | (with_reducible exact ih2 _ _ _ _ _)
      | (with_reducible exact ih3 _ _ _ _ _)
      | (with_reducible exact LeO.refl _)
      | (with_reducible exact LeO.none _)
      | (with_reducible refine LeO.ite ?_ ?_)
      | (with_reducible refine LeO.bind ?_ (fun _ => ?_))
      | exact ih0 _ _ _ _
      | exact ih1 _ _ _ _
      | exact ih2 _ _ _ _ _
      | exact ih3 _ _ _ _ _
      | exact LeO.none _
      | refine LeO.ite ?_ ?_
      | refine LeO.bind ?_ (fun _ => ?_)
    · intro y0 y1 y2 y3 y4
      unfold weirkeeperref05_Right.l1
      repeat' first
      | (with_reducible exact ih0 _ _ _ _)
      | (with_reducible exact ih1 _ _ _ _)
      | (with_reducible exact ih2 _ _ _ _ _)
      | (with_reducible exact ih3 _ _ _ _ _)
      | (with_reducible exact LeO.refl _)
      | (with_reducible exact LeO.none _)
      | (with_reducible refine LeO.ite ?_ ?_)
      | (with_reducible refine LeO.bind ?_ (fun _ => ?_))
      | exact ih0 _ _ _ _
      | exact ih1 _ _ _ _
      | exact ih2 _ _ _ _ _
      | exact ih3 _ _ _ _ _
      | exact LeO.none _
      | refine LeO.ite ?_ ?_
      | refine LeO.bind ?_ (fun _ => ?_)
theorem weirkeeperref05_Right.mono : ∀ a0 a1 a2 k, LeO (weirkeeperref05_Right.f k a0 a1 a2) (weirkeeperref05_Right.f (k + 1) a0 a1 a2) := by
  intro a0 a1 a2 k
  obtain ⟨ih0, ih1, ih2, ih3⟩ := weirkeeperref05_Right.mono_l k
  unfold weirkeeperref05_Right.f
  repeat' first
      | (with_reducible exact ih0 _ _ _ _)
      | (with_reducible exact ih1 _ _ _ _)
      | (with_reducible exact ih2 _ _ _ _ _)
      | (with_reducible exact ih3 _ _ _ _ _)
      | (with_reducible exact LeO.refl _)
      | (with_reducible exact LeO.none _)
      | (with_reducible refine LeO.ite ?_ ?_)
      | (with_reducible refine LeO.bind ?_ (fun _ => ?_))
      | exact ih0 _ _ _ _
      | exact ih1 _ _ _ _
      | exact ih2 _ _ _ _ _
      | exact ih3 _ _ _ _ _
      | exact LeO.none _
      | refine LeO.ite ?_ ?_
      | refine LeO.bind ?_ (fun _ => ?_)
set_option maxHeartbeats 8000000 in
set_option maxRecDepth 100000 in
theorem weirkeeperref05_Right.calls (k : Nat) (a0 : Int) (a1 : Int) (A2 : Option Addr) (c2 : Nat) (l2 : List (S72)) (r : Bool) (w : World) (hr2 : Kd.C k72 w A2 l2.length l2) (hc2 : l2.length ≤ c2) (h : weirkeeperref05_Right.f k a0 a1 l2 = some r) :
    Calls Try.prog 37 #[.int .i64 a0, .int .i64 a1, .slice A2 l2.length c2] w fun e w' => e = .returned (.bool r) ∧ Drawn0 w w' := by
  have HR2 := Aside0.mk hr2
  have HC2 := Aside0.mk hc2
  clear hr2 hc2
  have H : (if a0 < 0 then (weirkeeperref05_Right.j0 k a0 a1 l2 true) else (if a0 > a1 then (weirkeeperref05_Right.j0 k a0 a1 l2 true) else (weirkeeperref05_Right.j0 k a0 a1 l2 (decide (a1 > 2147483647))))) = some r := h
  clear h
  have HC4 := Aside0.mk H
  clear H
  go_enter Try.func37, Try.ntmps37
  go_upto_region 1 with (fail)
  repeat (go_quiet (fail); go_upto_region 1 with (fail))
  go_cut [19] (fun v19 wc => ∃ (kq : Nat) (x19_3 : Bool), v19 = .bool x19_3 ∧ Aside0 (weirkeeperref05_Right.j0 kq a0 a1 l2 x19_3 = some r) ∧ Aside0 (kq ≤ k) ∧ Drawn0 w wc)
  case first =>
    have H := HC4.out
    clear HC4
    by_cases c5 : a0 < 0
    · rw [if_pos c5] at H
      have c5b0 : decide (a0 < 0) = true := decide_eq_true c5
      clear c5
      (first | rw [c5b0] | (simp only [i64_w, i32_w]; rw [c5b0]) | skip)
      have H' := Aside0.mk H
      clear H
      go_wp2
      repeat (go_quiet (fail); try go_wp2)
      go_meet
      case rel => exact ⟨_, (true), (by first | rfl | (simp; done) | (simp [*]; done)), H', ⟨by first | omega | exact Nat.le_refl _⟩, by repeat (first | exact Drawn0.refl _ | apply Drawn0.step)⟩
    · rw [if_neg c5] at H
      have c5b0 : decide (a0 < 0) = false := decide_eq_false c5
      clear c5
      (first | rw [c5b0] | (simp only [i64_w, i32_w]; rw [c5b0]) | skip)
      by_cases c6 : a0 > a1
      · rw [if_pos c6] at H
        have c6b0 : decide (a1 < a0) = true := decide_eq_true c6
        clear c6
        have H' := Aside0.mk H
        clear H
        go_wp2
        repeat (go_quiet (fail); try go_wp2)
        go_meet
        case rel => exact ⟨_, (true), (by first | rfl | (simp; done) | (simp [*]; done)), H', ⟨by first | omega | exact Nat.le_refl _⟩, by repeat (first | exact Drawn0.refl _ | apply Drawn0.step)⟩
      · rw [if_neg c6] at H
        have c6b0 : decide (a1 < a0) = false := decide_eq_false c6
        clear c6
        have H' := Aside0.mk H
        clear H
        go_wp2
        repeat (go_quiet (fail); try go_wp2)
        go_meet
        case rel => exact ⟨_, (decide (a1 > 2147483647)), (by first | rfl | (simp; done) | (simp [*]; done)), H', ⟨by first | omega | exact Nat.le_refl _⟩, by repeat (first | exact Drawn0.refl _ | apply Drawn0.step)⟩
  case rest =>
    clear HC4
    try clear c2
    try clear p2
    try clear c3
    try clear c5
    try clear c5b0
    try clear c6
    try clear c6b0
    obtain ⟨kq, x19_3, rfl, HA, HJ3, ⟨mc3, rfl⟩⟩ := hcut
    cases kq with
    | zero => exact absurd HA.out (by simp [weirkeeperref05_Right.j0])
    | succ kj3 =>
      have H := HA.out
      clear HA
      simp only [weirkeeperref05_Right.j0] at H
      by_cases c7 : x19_3 = true
      · subst c7
        have H1 : (some false) = some r := by rw [if_pos rfl] at H; exact H
        clear H
        have H := H1
        clear H1
        obtain rfl := Option.some.inj H
        go_wp2
        repeat (go_quiet (fail); try go_wp2)
        go_ret
        exact ⟨by first | rfl | (simp; done) | (simp [*]; done), by repeat (first | exact Drawn0.refl _ | apply Drawn0.step)⟩
      · replace c7 := Bool.eq_false_iff.mpr c7
        subst c7
        have H1 : (weirkeeperref05_Right.l0 kj3 a0 a1 l2 0) = some r := by rw [if_neg (show ¬ (false = true) by decide)] at H; exact H
        clear H
        have H := H1
        clear H1
        have H' := Aside0.mk H
        clear H
        go_wp2
        repeat (go_quiet (fail); try go_wp2)
        go_loopg [7] kj3 (fun kq v7 w' => ∃ (x7_2 : Int), v7 = .int .i64 x7_2 ∧ Aside0 (weirkeeperref05_Right.l0 kq a0 a1 l2 x7_2 = some r) ∧ Aside0 (kq ≤ kj3) ∧ Drawn0 w w')
        case atStart => exact ⟨(0), (by first | rfl | (simp; done) | (simp [*]; done)), H', ⟨Nat.le_refl _⟩, by repeat (first | exact Drawn0.refl _ | apply Drawn0.step)⟩
        case round =>
          clear H'
          try clear c2
          try clear p2
          try clear c3
          try clear c5
          try clear c5b0
          try clear c6
          try clear c6b0
          try clear c7
          try clear p2
          obtain ⟨x7_2, rfl, HA, HK2, ⟨m2, rfl⟩⟩ := hrel
          cases gk with
          | zero => exact absurd HA.out (by simp [weirkeeperref05_Right.l0])
          | succ k2 =>
            have H := HA.out
            clear HA
            simp only [weirkeeperref05_Right.l0] at H
            by_cases c8 : x7_2 < (l2.length : Int)
            · rw [if_pos c8] at H
              have c8b0 : decide (x7_2 < (l2.length : Int)) = true := decide_eq_true c8
              clear c8
              have HC9 := Aside0.mk H
              clear H
              go_upto_region 6 with (fail)
              repeat (go_quiet (fail); go_upto_region 6 with (fail))
              go_cut [64] (fun v64 wc => ∃ (kq : Nat) (x64_8 : Bool), v64 = .bool x64_8 ∧ Aside0 (weirkeeperref05_Right.j2 kq a0 a1 l2 x7_2 x64_8 = some r) ∧ Aside0 (kq ≤ k2) ∧ Drawn0 w wc)
              case first =>
                have H := HC9.out
                clear HC9
                by_cases c10 : 0 ≤ x7_2
                · rw [if_pos c10] at H
                  have c10b0 : decide (0 ≤ x7_2) = true := decide_eq_true c10
                  clear c10
                  (first | rw [c10b0] | (simp only [i64_w, i32_w]; rw [c10b0]) | skip)
                  by_cases c11 : ((rd_T72 l2 x7_2).f1) < 1
                  · rw [if_pos c11] at H
                    have c11b0 : decide (((rd_T72 l2 x7_2).f1) < 1) = true := decide_eq_true c11
                    clear c11
                    have H' := Aside0.mk H
                    clear H
                    have p628 : 0 ≤ (x7_2 : Int) := of_decide_eq_true (by first | (with_reducible assumption) | assumption)
                    have q628 : x7_2 < (l2.length : Int) := of_decide_eq_true (by first | (with_reducible assumption) | assumption)
                    obtain ⟨ad628, e628, hx628_0, hx628_1⟩ := at_T72 HR2.out x7_2 p628 q628
                    cases e628
                    replace p628 := eq_true p628
                    replace q628 := eq_true q628
                    go_wp2
                    repeat (go_quiet (fail); try go_wp2)
                    go_meet
                    case rel => exact ⟨_, (true), (by first | rfl | (simp; done) | (simp [*]; done)), H', ⟨by have := HJ3.out; have := HK2.out; first | omega | exact Nat.le_refl _⟩, by repeat (first | exact Drawn0.refl _ | apply Drawn0.step)⟩
                  · rw [if_neg c11] at H
                    have c11b0 : decide (((rd_T72 l2 x7_2).f1) < 1) = false := decide_eq_false c11
                    clear c11
                    by_cases c12 : ((rd_T72 l2 x7_2).f0) < a0
                    · rw [if_pos c12] at H
                      have c12b0 : decide (((rd_T72 l2 x7_2).f0) < a0) = true := decide_eq_true c12
                      clear c12
                      have H' := Aside0.mk H
                      clear H
                      have p628 : 0 ≤ (x7_2 : Int) := of_decide_eq_true (by first | (with_reducible assumption) | assumption)
                      have q628 : x7_2 < (l2.length : Int) := of_decide_eq_true (by first | (with_reducible assumption) | assumption)
                      obtain ⟨ad628, e628, hx628_0, hx628_1⟩ := at_T72 HR2.out x7_2 p628 q628
                      cases e628
                      replace p628 := eq_true p628
                      replace q628 := eq_true q628
                      have p629 : 0 ≤ (x7_2 : Int) := of_decide_eq_true (by first | (with_reducible assumption) | assumption)
                      have q629 : x7_2 < (l2.length : Int) := of_decide_eq_true (by first | (with_reducible assumption) | assumption)
                      obtain ⟨ad629, e629, hx629_0, hx629_1⟩ := at_T72 HR2.out x7_2 p629 q629
                      obtain rfl : ad628 = ad629 := (by injection e629)
                      replace p629 := eq_true p629
                      replace q629 := eq_true q629
                      go_wp2
                      repeat (go_quiet (fail); try go_wp2)
                      go_meet
                      case rel => exact ⟨_, (true), (by first | rfl | (simp; done) | (simp [*]; done)), H', ⟨by have := HJ3.out; have := HK2.out; first | omega | exact Nat.le_refl _⟩, by repeat (first | exact Drawn0.refl _ | apply Drawn0.step)⟩
                    · rw [if_neg c12] at H
                      have c12b0 : decide (((rd_T72 l2 x7_2).f0) < a0) = false := decide_eq_false c12
                      clear c12
                      by_cases c13 : ((rd_T72 l2 x7_2).f0) > a1
                      · rw [if_pos c13] at H
                        have c13b0 : decide (a1 < ((rd_T72 l2 x7_2).f0)) = true := decide_eq_true c13
                        clear c13
                        have H' := Aside0.mk H
                        clear H
                        have p628 : 0 ≤ (x7_2 : Int) := of_decide_eq_true (by first | (with_reducible assumption) | assumption)
                        have q628 : x7_2 < (l2.length : Int) := of_decide_eq_true (by first | (with_reducible assumption) | assumption)
                        obtain ⟨ad628, e628, hx628_0, hx628_1⟩ := at_T72 HR2.out x7_2 p628 q628
                        cases e628
                        replace p628 := eq_true p628
                        replace q628 := eq_true q628
                        have p629 : 0 ≤ (x7_2 : Int) := of_decide_eq_true (by first | (with_reducible assumption) | assumption)
                        have q629 : x7_2 < (l2.length : Int) := of_decide_eq_true (by first | (with_reducible assumption) | assumption)
                        obtain ⟨ad629, e629, hx629_0, hx629_1⟩ := at_T72 HR2.out x7_2 p629 q629
                        obtain rfl : ad628 = ad629 := (by injection e629)
                        replace p629 := eq_true p629
                        replace q629 := eq_true q629
                        have p630 : 0 ≤ (x7_2 : Int) := of_decide_eq_true (by first | (with_reducible assumption) | assumption)
                        have q630 : x7_2 < (l2.length : Int) := of_decide_eq_true (by first | (with_reducible assumption) | assumption)
                        obtain ⟨ad630, e630, hx630_0, hx630_1⟩ := at_T72 HR2.out x7_2 p630 q630
                        obtain rfl : ad628 = ad630 := (by injection e630)
                        replace p630 := eq_true p630
                        replace q630 := eq_true q630
                        go_wp2
                        repeat (go_quiet (fail); try go_wp2)
                        go_meet
                        case rel => exact ⟨_, (true), (by first | rfl | (simp; done) | (simp [*]; done)), H', ⟨by have := HJ3.out; have := HK2.out; first | omega | exact Nat.le_refl _⟩, by repeat (first | exact Drawn0.refl _ | apply Drawn0.step)⟩
                      · rw [if_neg c13] at H
                        have c13b0 : decide (a1 < ((rd_T72 l2 x7_2).f0)) = false := decide_eq_false c13
                        clear c13
                        have H' := Aside0.mk H
                        clear H
                        have p628 : 0 ≤ (x7_2 : Int) := of_decide_eq_true (by first | (with_reducible assumption) | assumption)
                        have q628 : x7_2 < (l2.length : Int) := of_decide_eq_true (by first | (with_reducible assumption) | assumption)
                        obtain ⟨ad628, e628, hx628_0, hx628_1⟩ := at_T72 HR2.out x7_2 p628 q628
                        cases e628
                        replace p628 := eq_true p628
                        replace q628 := eq_true q628
                        have p629 : 0 ≤ (x7_2 : Int) := of_decide_eq_true (by first | (with_reducible assumption) | assumption)
                        have q629 : x7_2 < (l2.length : Int) := of_decide_eq_true (by first | (with_reducible assumption) | assumption)
                        obtain ⟨ad629, e629, hx629_0, hx629_1⟩ := at_T72 HR2.out x7_2 p629 q629
                        obtain rfl : ad628 = ad629 := (by injection e629)
                        replace p629 := eq_true p629
                        replace q629 := eq_true q629
                        have p630 : 0 ≤ (x7_2 : Int) := of_decide_eq_true (by first | (with_reducible assumption) | assumption)
                        have q630 : x7_2 < (l2.length : Int) := of_decide_eq_true (by first | (with_reducible assumption) | assumption)
                        obtain ⟨ad630, e630, hx630_0, hx630_1⟩ := at_T72 HR2.out x7_2 p630 q630
                        obtain rfl : ad628 = ad630 := (by injection e630)
                        replace p630 := eq_true p630
                        replace q630 := eq_true q630
                        have p631 : 0 ≤ (x7_2 : Int) := of_decide_eq_true (by first | (with_reducible assumption) | assumption)
                        have q631 : x7_2 < (l2.length : Int) := of_decide_eq_true (by first | (with_reducible assumption) | assumption)
                        obtain ⟨ad631, e631, hx631_0, hx631_1⟩ := at_T72 HR2.out x7_2 p631 q631
                        obtain rfl : ad628 = ad631 := (by injection e631)
                        replace p631 := eq_true p631
                        replace q631 := eq_true q631
                        have p632 : 0 ≤ (x7_2 : Int) := of_decide_eq_true (by first | (with_reducible assumption) | assumption)
                        have q632 : x7_2 < (l2.length : Int) := of_decide_eq_true (by first | (with_reducible assumption) | assumption)
                        obtain ⟨ad632, e632, hx632_0, hx632_1⟩ := at_T72 HR2.out x7_2 p632 q632
                        obtain rfl : ad628 = ad632 := (by injection e632)
                        replace p632 := eq_true p632
                        replace q632 := eq_true q632
                        go_wp2
                        repeat (go_quiet (fail); try go_wp2)
                        go_meet
                        case rel => exact ⟨_, (decide (((rd_T72 l2 x7_2).f1) > (wrap64 (a1 - ((rd_T72 l2 x7_2).f0))))), (by first | rfl | (simp; done) | (simp [*]; done)), H', ⟨by have := HJ3.out; have := HK2.out; first | omega | exact Nat.le_refl _⟩, by repeat (first | exact Drawn0.refl _ | apply Drawn0.step)⟩
                · rw [if_neg c10] at H
                  exact absurd H (by simp)
              case rest =>
                clear HC9
                try clear c1
                try clear c2
                try clear p2
                try clear c3
                try clear c5
                try clear c5b0
                try clear c6
                try clear c6b0
                try clear p6
                try clear q6
                try clear hx6
                try clear c7
                try clear c8
                try clear c8b0
                try clear c10
                try clear c10b0
                try clear c11
                try clear c11b0
                try clear c12
                try clear c12b0
                try clear c13
                try clear c13b0
                try clear hx628_0
                try clear hx628_1
                try clear hx629_0
                try clear hx629_1
                try clear hx630_0
                try clear hx630_1
                try clear hx631_0
                try clear hx631_1
                try clear hx632_0
                try clear hx632_1
                try clear p2
                try clear p628
                try clear p629
                try clear p630
                try clear p631
                try clear p632
                try clear q628
                try clear q629
                try clear q630
                try clear q631
                try clear q632
                obtain ⟨kq, x64_8, rfl, HA, HJ8, ⟨mc8, rfl⟩⟩ := hcut
                cases kq with
                | zero => exact absurd HA.out (by simp [weirkeeperref05_Right.j2])
                | succ kj8 =>
                  have H := HA.out
                  clear HA
                  simp only [weirkeeperref05_Right.j2] at H
                  by_cases c14 : x64_8 = true
                  · subst c14
                    have H1 : (some false) = some r := by rw [if_pos rfl] at H; exact H
                    clear H
                    have H := H1
                    clear H1
                    obtain rfl := Option.some.inj H
                    go_wp2
                    repeat (go_quiet (fail); try go_wp2)
                    go_ret
                    exact ⟨by first | rfl | (simp; done) | (simp [*]; done), by repeat (first | exact Drawn0.refl _ | apply Drawn0.step)⟩
                  · replace c14 := Bool.eq_false_iff.mpr c14
                    subst c14
                    have H1 : (weirkeeperref05_Right.l1 kj8 a0 a1 l2 x7_2 0) = some r := by rw [if_neg (show ¬ (false = true) by decide)] at H; exact H
                    clear H
                    have H := H1
                    clear H1
                    have H' := Aside0.mk H
                    clear H
                    go_wp2
                    repeat (go_quiet (fail); try go_wp2)
                    go_loopg [8] kj8 (fun kq v8 w' => ∃ (x8_4 : Int), v8 = .int .i64 x8_4 ∧ Aside0 (weirkeeperref05_Right.l1 kq a0 a1 l2 x7_2 x8_4 = some r) ∧ Aside0 (kq ≤ kj8) ∧ Drawn0 w w')
                    case atStart => exact ⟨(0), (by first | rfl | (simp; done) | (simp [*]; done)), H', ⟨Nat.le_refl _⟩, by repeat (first | exact Drawn0.refl _ | apply Drawn0.step)⟩
                    case round =>
                      clear H'
                      try clear c1
                      try clear c2
                      try clear p2
                      try clear c3
                      try clear c5
                      try clear c5b0
                      try clear c6
                      try clear c6b0
                      try clear p6
                      try clear q6
                      try clear hx6
                      try clear c7
                      try clear c8
                      try clear c8b0
                      try clear c10
                      try clear c10b0
                      try clear c11
                      try clear c11b0
                      try clear c12
                      try clear c12b0
                      try clear c13
                      try clear c13b0
                      try clear c14
                      try clear hx628_0
                      try clear hx628_1
                      try clear hx629_0
                      try clear hx629_1
                      try clear hx630_0
                      try clear hx630_1
                      try clear hx631_0
                      try clear hx631_1
                      try clear hx632_0
                      try clear hx632_1
                      try clear p2
                      try clear p6
                      try clear p628
                      try clear p629
                      try clear p630
                      try clear p631
                      try clear p632
                      try clear q6
                      try clear q628
                      try clear q629
                      try clear q630
                      try clear q631
                      try clear q632
                      obtain ⟨x8_4, rfl, HA, HK4, ⟨m4, rfl⟩⟩ := hrel
                      cases gk with
                      | zero => exact absurd HA.out (by simp [weirkeeperref05_Right.l1])
                      | succ k4 =>
                        have H := HA.out
                        clear HA
                        simp only [weirkeeperref05_Right.l1] at H
                        by_cases c15 : x8_4 < x7_2
                        · rw [if_pos c15] at H
                          have c15b0 : decide (x8_4 < x7_2) = true := decide_eq_true c15
                          clear c15
                          by_cases c16 : 0 ≤ x7_2
                          · rw [if_pos c16] at H
                            have c16b0 : decide (0 ≤ x7_2) = true := decide_eq_true c16
                            clear c16
                            by_cases c17 : x7_2 < (l2.length : Int)
                            · rw [if_pos c17] at H
                              have c17b0 : decide (x7_2 < (l2.length : Int)) = true := decide_eq_true c17
                              clear c17
                              by_cases c18 : 0 ≤ x8_4
                              · rw [if_pos c18] at H
                                have c18b0 : decide (0 ≤ x8_4) = true := decide_eq_true c18
                                clear c18
                                by_cases c19 : x8_4 < (l2.length : Int)
                                · rw [if_pos c19] at H
                                  have c19b0 : decide (x8_4 < (l2.length : Int)) = true := decide_eq_true c19
                                  clear c19
                                  by_cases c20 : ((rd_T72 l2 x7_2).f0) < (wrap64 (((rd_T72 l2 x8_4).f0) + ((rd_T72 l2 x8_4).f1)))
                                  · rw [if_pos c20] at H
                                    have c20b0 : decide (((rd_T72 l2 x7_2).f0) < (wrap64 (((rd_T72 l2 x8_4).f0) + ((rd_T72 l2 x8_4).f1)))) = true := decide_eq_true c20
                                    clear c20
                                    by_cases c21 : ((rd_T72 l2 x8_4).f0) < (wrap64 (((rd_T72 l2 x7_2).f0) + ((rd_T72 l2 x7_2).f1)))
                                    · rw [if_pos c21] at H
                                      have c21b0 : decide (((rd_T72 l2 x8_4).f0) < (wrap64 (((rd_T72 l2 x7_2).f0) + ((rd_T72 l2 x7_2).f1)))) = true := decide_eq_true c21
                                      clear c21
                                      obtain rfl := Option.some.inj H
                                      have p633 : 0 ≤ (x7_2 : Int) := of_decide_eq_true (by first | (with_reducible assumption) | assumption)
                                      have q633 : x7_2 < (l2.length : Int) := of_decide_eq_true (by first | (with_reducible assumption) | assumption)
                                      obtain ⟨ad633, e633, hx633_0, hx633_1⟩ := at_T72 HR2.out x7_2 p633 q633
                                      cases e633
                                      replace p633 := eq_true p633
                                      replace q633 := eq_true q633
                                      have p634 : 0 ≤ (x8_4 : Int) := of_decide_eq_true (by first | (with_reducible assumption) | assumption)
                                      have q634 : x8_4 < (l2.length : Int) := of_decide_eq_true (by first | (with_reducible assumption) | assumption)
                                      obtain ⟨ad634, e634, hx634_0, hx634_1⟩ := at_T72 HR2.out x8_4 p634 q634
                                      obtain rfl : ad633 = ad634 := (by injection e634)
                                      replace p634 := eq_true p634
                                      replace q634 := eq_true q634
                                      have p635 : 0 ≤ (x8_4 : Int) := of_decide_eq_true (by first | (with_reducible assumption) | assumption)
                                      have q635 : x8_4 < (l2.length : Int) := of_decide_eq_true (by first | (with_reducible assumption) | assumption)
                                      obtain ⟨ad635, e635, hx635_0, hx635_1⟩ := at_T72 HR2.out x8_4 p635 q635
                                      obtain rfl : ad633 = ad635 := (by injection e635)
                                      replace p635 := eq_true p635
                                      replace q635 := eq_true q635
                                      have p636 : 0 ≤ (x8_4 : Int) := of_decide_eq_true (by first | (with_reducible assumption) | assumption)
                                      have q636 : x8_4 < (l2.length : Int) := of_decide_eq_true (by first | (with_reducible assumption) | assumption)
                                      obtain ⟨ad636, e636, hx636_0, hx636_1⟩ := at_T72 HR2.out x8_4 p636 q636
                                      obtain rfl : ad633 = ad636 := (by injection e636)
                                      replace p636 := eq_true p636
                                      replace q636 := eq_true q636
                                      have p637 : 0 ≤ (x7_2 : Int) := of_decide_eq_true (by first | (with_reducible assumption) | assumption)
                                      have q637 : x7_2 < (l2.length : Int) := of_decide_eq_true (by first | (with_reducible assumption) | assumption)
                                      obtain ⟨ad637, e637, hx637_0, hx637_1⟩ := at_T72 HR2.out x7_2 p637 q637
                                      obtain rfl : ad633 = ad637 := (by injection e637)
                                      replace p637 := eq_true p637
                                      replace q637 := eq_true q637
                                      have p638 : 0 ≤ (x7_2 : Int) := of_decide_eq_true (by first | (with_reducible assumption) | assumption)
                                      have q638 : x7_2 < (l2.length : Int) := of_decide_eq_true (by first | (with_reducible assumption) | assumption)
                                      obtain ⟨ad638, e638, hx638_0, hx638_1⟩ := at_T72 HR2.out x7_2 p638 q638
                                      obtain rfl : ad633 = ad638 := (by injection e638)
                                      replace p638 := eq_true p638
                                      replace q638 := eq_true q638
                                      go_wp2
                                      repeat (go_quiet (fail); try go_wp2)
                                      go_ret
                                      exact ⟨by first | rfl | (simp; done) | (simp [*]; done), by repeat (first | exact Drawn0.refl _ | apply Drawn0.step)⟩
                                    · rw [if_neg c21] at H
                                      have c21b0 : decide (((rd_T72 l2 x8_4).f0) < (wrap64 (((rd_T72 l2 x7_2).f0) + ((rd_T72 l2 x7_2).f1)))) = false := decide_eq_false c21
                                      clear c21
                                      have H' := Aside0.mk H
                                      clear H
                                      have p633 : 0 ≤ (x7_2 : Int) := of_decide_eq_true (by first | (with_reducible assumption) | assumption)
                                      have q633 : x7_2 < (l2.length : Int) := of_decide_eq_true (by first | (with_reducible assumption) | assumption)
                                      obtain ⟨ad633, e633, hx633_0, hx633_1⟩ := at_T72 HR2.out x7_2 p633 q633
                                      cases e633
                                      replace p633 := eq_true p633
                                      replace q633 := eq_true q633
                                      have p634 : 0 ≤ (x8_4 : Int) := of_decide_eq_true (by first | (with_reducible assumption) | assumption)
                                      have q634 : x8_4 < (l2.length : Int) := of_decide_eq_true (by first | (with_reducible assumption) | assumption)
                                      obtain ⟨ad634, e634, hx634_0, hx634_1⟩ := at_T72 HR2.out x8_4 p634 q634
                                      obtain rfl : ad633 = ad634 := (by injection e634)
                                      replace p634 := eq_true p634
                                      replace q634 := eq_true q634
                                      have p635 : 0 ≤ (x8_4 : Int) := of_decide_eq_true (by first | (with_reducible assumption) | assumption)
                                      have q635 : x8_4 < (l2.length : Int) := of_decide_eq_true (by first | (with_reducible assumption) | assumption)
                                      obtain ⟨ad635, e635, hx635_0, hx635_1⟩ := at_T72 HR2.out x8_4 p635 q635
                                      obtain rfl : ad633 = ad635 := (by injection e635)
                                      replace p635 := eq_true p635
                                      replace q635 := eq_true q635
                                      have p636 : 0 ≤ (x8_4 : Int) := of_decide_eq_true (by first | (with_reducible assumption) | assumption)
                                      have q636 : x8_4 < (l2.length : Int) := of_decide_eq_true (by first | (with_reducible assumption) | assumption)
                                      obtain ⟨ad636, e636, hx636_0, hx636_1⟩ := at_T72 HR2.out x8_4 p636 q636
                                      obtain rfl : ad633 = ad636 := (by injection e636)
                                      replace p636 := eq_true p636
                                      replace q636 := eq_true q636
                                      have p637 : 0 ≤ (x7_2 : Int) := of_decide_eq_true (by first | (with_reducible assumption) | assumption)
                                      have q637 : x7_2 < (l2.length : Int) := of_decide_eq_true (by first | (with_reducible assumption) | assumption)
                                      obtain ⟨ad637, e637, hx637_0, hx637_1⟩ := at_T72 HR2.out x7_2 p637 q637
                                      obtain rfl : ad633 = ad637 := (by injection e637)
                                      replace p637 := eq_true p637
                                      replace q637 := eq_true q637
                                      have p638 : 0 ≤ (x7_2 : Int) := of_decide_eq_true (by first | (with_reducible assumption) | assumption)
                                      have q638 : x7_2 < (l2.length : Int) := of_decide_eq_true (by first | (with_reducible assumption) | assumption)
                                      obtain ⟨ad638, e638, hx638_0, hx638_1⟩ := at_T72 HR2.out x7_2 p638 q638
                                      obtain rfl : ad633 = ad638 := (by injection e638)
                                      replace p638 := eq_true p638
                                      replace q638 := eq_true q638
                                      go_wp2
                                      repeat (go_quiet (fail); try go_wp2)
                                      go_roundg k4
                                      case measure => have := HJ3.out; have := HK2.out; have := HJ8.out; have := HK4.out; omega
                                      case rel => exact ⟨(wrap64 (x8_4 + 1)), (by first | rfl | (simp; done) | (simp [*]; done)), H', ⟨by have := HJ3.out; have := HK2.out; have := HJ8.out; have := HK4.out; omega⟩, by repeat (first | exact Drawn0.refl _ | apply Drawn0.step)⟩
                                  · rw [if_neg c20] at H
                                    have c20b0 : decide (((rd_T72 l2 x7_2).f0) < (wrap64 (((rd_T72 l2 x8_4).f0) + ((rd_T72 l2 x8_4).f1)))) = false := decide_eq_false c20
                                    clear c20
                                    have H' := Aside0.mk H
                                    clear H
                                    have p633 : 0 ≤ (x7_2 : Int) := of_decide_eq_true (by first | (with_reducible assumption) | assumption)
                                    have q633 : x7_2 < (l2.length : Int) := of_decide_eq_true (by first | (with_reducible assumption) | assumption)
                                    obtain ⟨ad633, e633, hx633_0, hx633_1⟩ := at_T72 HR2.out x7_2 p633 q633
                                    cases e633
                                    replace p633 := eq_true p633
                                    replace q633 := eq_true q633
                                    have p634 : 0 ≤ (x8_4 : Int) := of_decide_eq_true (by first | (with_reducible assumption) | assumption)
                                    have q634 : x8_4 < (l2.length : Int) := of_decide_eq_true (by first | (with_reducible assumption) | assumption)
                                    obtain ⟨ad634, e634, hx634_0, hx634_1⟩ := at_T72 HR2.out x8_4 p634 q634
                                    obtain rfl : ad633 = ad634 := (by injection e634)
                                    replace p634 := eq_true p634
                                    replace q634 := eq_true q634
                                    have p635 : 0 ≤ (x8_4 : Int) := of_decide_eq_true (by first | (with_reducible assumption) | assumption)
                                    have q635 : x8_4 < (l2.length : Int) := of_decide_eq_true (by first | (with_reducible assumption) | assumption)
                                    obtain ⟨ad635, e635, hx635_0, hx635_1⟩ := at_T72 HR2.out x8_4 p635 q635
                                    obtain rfl : ad633 = ad635 := (by injection e635)
                                    replace p635 := eq_true p635
                                    replace q635 := eq_true q635
                                    go_wp2
                                    repeat (go_quiet (fail); try go_wp2)
                                    go_roundg k4
                                    case measure => have := HJ3.out; have := HK2.out; have := HJ8.out; have := HK4.out; omega
                                    case rel => exact ⟨(wrap64 (x8_4 + 1)), (by first | rfl | (simp; done) | (simp [*]; done)), H', ⟨by have := HJ3.out; have := HK2.out; have := HJ8.out; have := HK4.out; omega⟩, by repeat (first | exact Drawn0.refl _ | apply Drawn0.step)⟩
                                · rw [if_neg c19] at H
                                  exact absurd H (by simp)
                              · rw [if_neg c18] at H
                                exact absurd H (by simp)
                            · rw [if_neg c17] at H
                              exact absurd H (by simp)
                          · rw [if_neg c16] at H
                            exact absurd H (by simp)
                        · rw [if_neg c15] at H
                          have c15b0 : decide (x8_4 < x7_2) = false := decide_eq_false c15
                          clear c15
                          have H' := Aside0.mk H
                          clear H
                          go_wp2
                          repeat (go_quiet (fail); try go_wp2)
                          go_roundg k4
                          case measure => have := HJ3.out; have := HK2.out; have := HJ8.out; have := HK4.out; omega
                          case rel => exact ⟨(wrap64 (x7_2 + 1)), (by first | rfl | (simp; done) | (simp [*]; done)), H', ⟨by have := HJ3.out; have := HK2.out; have := HJ8.out; have := HK4.out; omega⟩, by repeat (first | exact Drawn0.refl _ | apply Drawn0.step)⟩
            · rw [if_neg c8] at H
              have c8b0 : decide (x7_2 < (l2.length : Int)) = false := decide_eq_false c8
              clear c8
              obtain rfl := Option.some.inj H
              go_wp2
              repeat (go_quiet (fail); try go_wp2)
              go_ret
              exact ⟨by first | rfl | (simp; done) | (simp [*]; done), by repeat (first | exact Drawn0.refl _ | apply Drawn0.step)⟩

/-! ### weirkeeperref05_in: function 58 -/
def weirkeeperref05_in.l0 : Nat → Int → List (S72) → Int → Option (Bool)
  | 0, _, _, _ => none
  | k + 1, x0, x1, x5 => if x5 < (x1.length : Int) then (if 0 ≤ x5 then (if x0 ≥ ((rd_T72 x1 x5).f0) then (if x0 < (wrap64 (((rd_T72 x1 x5).f0) + ((rd_T72 x1 x5).f1))) then (some true) else (weirkeeperref05_in.l0 k x0 x1 (wrap64 (x5 + 1)))) else (weirkeeperref05_in.l0 k x0 x1 (wrap64 (x5 + 1)))) else (none)) else (some false)
def weirkeeperref05_in.f (k : Nat) (a0 : Int) (l1 : List (S72)) : Option (Bool) := weirkeeperref05_in.l0 k a0 l1 0
theorem weirkeeperref05_in.mono_l : ∀ k, (∀ y0 y1 y2, LeO (weirkeeperref05_in.l0 k y0 y1 y2) (weirkeeperref05_in.l0 (k + 1) y0 y1 y2))
  | 0 => fun _ _ _ r h => by simp [weirkeeperref05_in.l0] at h
  | k + 1 => by
    have ih0 := weirkeeperref05_in.mono_l k
    · intro y0 y1 y2
      unfold weirkeeperref05_in.l0
      repeat' first
      | (with_reducible exact ih0 _ _ _)
      | (with_reducible exact LeO.refl _)
      | (with_reducible exact LeO.none _)
      | (with_reducible refine LeO.ite ?_ ?_)
      | (with_reducible refine LeO.bind ?_ (fun _ => ?_))
      | exact ih0 _ _ _
      | exact LeO.none _
      | refine LeO.ite ?_ ?_
      | refine LeO.bind ?_ (fun _ => ?_)
theorem weirkeeperref05_in.mono : ∀ a0 a1 k, LeO (weirkeeperref05_in.f k a0 a1) (weirkeeperref05_in.f (k + 1) a0 a1) := by
  intro a0 a1 k
  have ih0 := weirkeeperref05_in.mono_l k
  unfold weirkeeperref05_in.f
  repeat' first
      | (with_reducible exact ih0 _ _ _)
      | (with_reducible exact LeO.refl _)
      | (with_reducible exact LeO.none _)
      | (with_reducible refine LeO.ite ?_ ?_)
      | (with_reducible refine LeO.bind ?_ (fun _ => ?_))
      | exact ih0 _ _ _
      | exact LeO.none _
      | refine LeO.ite ?_ ?_
      | refine LeO.bind ?_ (fun _ => ?_)
set_option maxHeartbeats 8000000 in
set_option maxRecDepth 100000 in
theorem weirkeeperref05_in.calls (k : Nat) (a0 : Int) (A1 : Option Addr) (c1 : Nat) (l1 : List (S72)) (r : Bool) (w : World) (hr1 : Kd.C k72 w A1 l1.length l1) (hc1 : l1.length ≤ c1) (h : weirkeeperref05_in.f k a0 l1 = some r) :
    Calls Try.prog 58 #[.int .i64 a0, .slice A1 l1.length c1] w fun e w' => e = .returned (.bool r) ∧ Drawn0 w w' := by
  have HR1 := Aside0.mk hr1
  have HC1 := Aside0.mk hc1
  clear hr1 hc1
  have H : (weirkeeperref05_in.l0 k a0 l1 0) = some r := h
  clear h
  have H' := Aside0.mk H
  clear H
  go_enter Try.func58, Try.ntmps58
  go_wp2
  repeat (go_quiet (fail); try go_wp2)
  go_loopg [5] k (fun kq v5 w' => ∃ (x5_1 : Int), v5 = .int .i64 x5_1 ∧ Aside0 (weirkeeperref05_in.l0 kq a0 l1 x5_1 = some r) ∧ Aside0 (kq ≤ k) ∧ Drawn0 w w')
  case atStart => exact ⟨(0), (by first | rfl | (simp; done) | (simp [*]; done)), H', ⟨Nat.le_refl _⟩, by repeat (first | exact Drawn0.refl _ | apply Drawn0.step)⟩
  case round =>
    clear H'
    try clear c1
    try clear p2
    obtain ⟨x5_1, rfl, HA, HK1, ⟨m1, rfl⟩⟩ := hrel
    cases gk with
    | zero => exact absurd HA.out (by simp [weirkeeperref05_in.l0])
    | succ k1 =>
      have H := HA.out
      clear HA
      simp only [weirkeeperref05_in.l0] at H
      by_cases c3 : x5_1 < (l1.length : Int)
      · rw [if_pos c3] at H
        have c3b0 : decide (x5_1 < (l1.length : Int)) = true := decide_eq_true c3
        clear c3
        by_cases c4 : 0 ≤ x5_1
        · rw [if_pos c4] at H
          have c4b0 : decide (0 ≤ x5_1) = true := decide_eq_true c4
          clear c4
          by_cases c5 : a0 ≥ ((rd_T72 l1 x5_1).f0)
          · rw [if_pos c5] at H
            have c5b0 : decide (((rd_T72 l1 x5_1).f0) ≤ a0) = true := decide_eq_true c5
            clear c5
            by_cases c6 : a0 < (wrap64 (((rd_T72 l1 x5_1).f0) + ((rd_T72 l1 x5_1).f1)))
            · rw [if_pos c6] at H
              have c6b0 : decide (a0 < (wrap64 (((rd_T72 l1 x5_1).f0) + ((rd_T72 l1 x5_1).f1)))) = true := decide_eq_true c6
              clear c6
              obtain rfl := Option.some.inj H
              have p639 : 0 ≤ (x5_1 : Int) := of_decide_eq_true (by first | (with_reducible assumption) | assumption)
              have q639 : x5_1 < (l1.length : Int) := of_decide_eq_true (by first | (with_reducible assumption) | assumption)
              obtain ⟨ad639, e639, hx639_0, hx639_1⟩ := at_T72 HR1.out x5_1 p639 q639
              cases e639
              replace p639 := eq_true p639
              replace q639 := eq_true q639
              have p640 : 0 ≤ (x5_1 : Int) := of_decide_eq_true (by first | (with_reducible assumption) | assumption)
              have q640 : x5_1 < (l1.length : Int) := of_decide_eq_true (by first | (with_reducible assumption) | assumption)
              obtain ⟨ad640, e640, hx640_0, hx640_1⟩ := at_T72 HR1.out x5_1 p640 q640
              obtain rfl : ad639 = ad640 := (by injection e640)
              replace p640 := eq_true p640
              replace q640 := eq_true q640
              have p641 : 0 ≤ (x5_1 : Int) := of_decide_eq_true (by first | (with_reducible assumption) | assumption)
              have q641 : x5_1 < (l1.length : Int) := of_decide_eq_true (by first | (with_reducible assumption) | assumption)
              obtain ⟨ad641, e641, hx641_0, hx641_1⟩ := at_T72 HR1.out x5_1 p641 q641
              obtain rfl : ad639 = ad641 := (by injection e641)
              replace p641 := eq_true p641
              replace q641 := eq_true q641
              go_wp2
              repeat (go_quiet (fail); try go_wp2)
              go_ret
              exact ⟨by first | rfl | (simp; done) | (simp [*]; done), by repeat (first | exact Drawn0.refl _ | apply Drawn0.step)⟩
            · rw [if_neg c6] at H
              have c6b0 : decide (a0 < (wrap64 (((rd_T72 l1 x5_1).f0) + ((rd_T72 l1 x5_1).f1)))) = false := decide_eq_false c6
              clear c6
              have H' := Aside0.mk H
              clear H
              have p639 : 0 ≤ (x5_1 : Int) := of_decide_eq_true (by first | (with_reducible assumption) | assumption)
              have q639 : x5_1 < (l1.length : Int) := of_decide_eq_true (by first | (with_reducible assumption) | assumption)
              obtain ⟨ad639, e639, hx639_0, hx639_1⟩ := at_T72 HR1.out x5_1 p639 q639
              cases e639
              replace p639 := eq_true p639
              replace q639 := eq_true q639
              have p640 : 0 ≤ (x5_1 : Int) := of_decide_eq_true (by first | (with_reducible assumption) | assumption)
              have q640 : x5_1 < (l1.length : Int) := of_decide_eq_true (by first | (with_reducible assumption) | assumption)
              obtain ⟨ad640, e640, hx640_0, hx640_1⟩ := at_T72 HR1.out x5_1 p640 q640
              obtain rfl : ad639 = ad640 := (by injection e640)
              replace p640 := eq_true p640
              replace q640 := eq_true q640
              have p641 : 0 ≤ (x5_1 : Int) := of_decide_eq_true (by first | (with_reducible assumption) | assumption)
              have q641 : x5_1 < (l1.length : Int) := of_decide_eq_true (by first | (with_reducible assumption) | assumption)
              obtain ⟨ad641, e641, hx641_0, hx641_1⟩ := at_T72 HR1.out x5_1 p641 q641
              obtain rfl : ad639 = ad641 := (by injection e641)
              replace p641 := eq_true p641
              replace q641 := eq_true q641
              go_wp2
              repeat (go_quiet (fail); try go_wp2)
              go_roundg k1
              case measure => have := HK1.out; omega
              case rel => exact ⟨(wrap64 (x5_1 + 1)), (by first | rfl | (simp; done) | (simp [*]; done)), H', ⟨by have := HK1.out; omega⟩, by repeat (first | exact Drawn0.refl _ | apply Drawn0.step)⟩
          · rw [if_neg c5] at H
            have c5b0 : decide (((rd_T72 l1 x5_1).f0) ≤ a0) = false := decide_eq_false c5
            clear c5
            have H' := Aside0.mk H
            clear H
            have p639 : 0 ≤ (x5_1 : Int) := of_decide_eq_true (by first | (with_reducible assumption) | assumption)
            have q639 : x5_1 < (l1.length : Int) := of_decide_eq_true (by first | (with_reducible assumption) | assumption)
            obtain ⟨ad639, e639, hx639_0, hx639_1⟩ := at_T72 HR1.out x5_1 p639 q639
            cases e639
            replace p639 := eq_true p639
            replace q639 := eq_true q639
            go_wp2
            repeat (go_quiet (fail); try go_wp2)
            go_roundg k1
            case measure => have := HK1.out; omega
            case rel => exact ⟨(wrap64 (x5_1 + 1)), (by first | rfl | (simp; done) | (simp [*]; done)), H', ⟨by have := HK1.out; omega⟩, by repeat (first | exact Drawn0.refl _ | apply Drawn0.step)⟩
        · rw [if_neg c4] at H
          exact absurd H (by simp)
      · rw [if_neg c3] at H
        have c3b0 : decide (x5_1 < (l1.length : Int)) = false := decide_eq_false c3
        clear c3
        obtain rfl := Option.some.inj H
        go_wp2
        repeat (go_quiet (fail); try go_wp2)
        go_ret
        exact ⟨by first | rfl | (simp; done) | (simp [*]; done), by repeat (first | exact Drawn0.refl _ | apply Drawn0.step)⟩

end Go.Proofs.Ythcohkgpbjcliaa.F

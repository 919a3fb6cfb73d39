/- Contracts of Go functions of the seat Ythcohkgpbjcliaa: what a call comes to; no condition but those that each theorem names. -/
import Derived.Test.YthcohkgpbjcliaaFPre
namespace Go.Proofs.Ythcohkgpbjcliaa.F
open Go.RowKit Go.Proofs.YthcohkgpbjcliaaW.PrintWords Go.Proofs.YthcohkgpbjcliaaW.PrintLast Go.Proofs.YthcohkgpbjcliaaW.PrintMore
attribute [local go_sem] max2_int min2_int max_two min_two max_three min_three max_four min_four   -- for this text's walks alone
set_option linter.unusedVariables false
set_option linter.unusedSimpArgs false

attribute [local go_sem] fieldD25_0 fieldD25_1
/-! ### weirkeeperlaw05_small: function 29 -/
def weirkeeperlaw05_small.f (a0 : Int) (a1 : Int) (l2 : List (S66)) : Option (Bool) := if (l2.length : Int) ≤ 30 then (if a0 < 0 then (some true) else (if a1 < a0 then (some true) else (if a1 > 2147483647 then (some true) else (some (decide ((wrap64 (a1 - a0)) ≤ 100)))))) else (some false)
set_option maxHeartbeats 8000000 in
set_option maxRecDepth 100000 in
theorem weirkeeperlaw05_small.calls (a0 : Int) (a1 : Int) (A2 : Option Addr) (c2 : Nat) (l2 : List (S66)) (r : Bool) (w : World) (hr2 : Kd.C k66 w A2 l2.length l2) (hc2 : l2.length ≤ c2) (h : weirkeeperlaw05_small.f a0 a1 l2 = some r) :
    Calls Try.prog 29 #[.int .i64 a0, .int .i64 a1, .slice A2 l2.length c2] w fun e w' => e = .returned (.bool r) ∧ Drawn0 w w' := by
  have HR2 := Aside0.mk hr2
  have HC2 := Aside0.mk hc2
  clear hr2 hc2
  have H : (if (l2.length : Int) ≤ 30 then (if a0 < 0 then (some true) else (if a1 < a0 then (some true) else (if a1 > 2147483647 then (some true) else (some (decide ((wrap64 (a1 - a0)) ≤ 100)))))) else (some false)) = some r := h
  clear h
  by_cases c4 : (l2.length : Int) ≤ 30
  · rw [if_pos c4] at H
    have c4b0 : decide ((l2.length : Int) ≤ 30) = true := decide_eq_true c4
    have c4b1 : decide (l2.length ≤ 30) = true := decide_eq_true (by omega)
    clear c4
    by_cases c5 : a0 < 0
    · rw [if_pos c5] at H
      have c5b0 : decide (a0 < 0) = true := decide_eq_true c5
      clear c5
      obtain rfl := Option.some.inj H
      go_enter Try.func29, Try.ntmps29
      go_wp2
      go_ret
      exact ⟨by first | rfl | (simp; done) | (simp [*]; done), by repeat (first | exact Drawn0.refl _ | apply Drawn0.step)⟩
    · rw [if_neg c5] at H
      have c5b0 : decide (a0 < 0) = false := decide_eq_false c5
      clear c5
      by_cases c6 : a1 < a0
      · rw [if_pos c6] at H
        have c6b0 : decide (a1 < a0) = true := decide_eq_true c6
        clear c6
        obtain rfl := Option.some.inj H
        go_enter Try.func29, Try.ntmps29
        go_wp2
        go_ret
        exact ⟨by first | rfl | (simp; done) | (simp [*]; done), by repeat (first | exact Drawn0.refl _ | apply Drawn0.step)⟩
      · rw [if_neg c6] at H
        have c6b0 : decide (a1 < a0) = false := decide_eq_false c6
        clear c6
        by_cases c7 : a1 > 2147483647
        · rw [if_pos c7] at H
          have c7b0 : decide (2147483647 < a1) = true := decide_eq_true c7
          clear c7
          obtain rfl := Option.some.inj H
          go_enter Try.func29, Try.ntmps29
          go_wp2
          go_ret
          exact ⟨by first | rfl | (simp; done) | (simp [*]; done), by repeat (first | exact Drawn0.refl _ | apply Drawn0.step)⟩
        · rw [if_neg c7] at H
          have c7b0 : decide (2147483647 < a1) = false := decide_eq_false c7
          clear c7
          obtain rfl := Option.some.inj H
          go_enter Try.func29, Try.ntmps29
          go_wp2
          go_ret
          exact ⟨by first | rfl | (simp; done) | (simp [*]; done), by repeat (first | exact Drawn0.refl _ | apply Drawn0.step)⟩
  · rw [if_neg c4] at H
    have c4b0 : decide ((l2.length : Int) ≤ 30) = false := decide_eq_false c4
    have c4b1 : decide (l2.length ≤ 30) = false := decide_eq_false (by omega)
    clear c4
    obtain rfl := Option.some.inj H
    go_enter Try.func29, Try.ntmps29
    go_wp2
    go_ret
    exact ⟨by first | rfl | (simp; done) | (simp [*]; done), by repeat (first | exact Drawn0.refl _ | apply Drawn0.step)⟩

-- NOT PRINTED: function 116 (slices_AppendSeq_space_Extent_space_Extent)

-- NOT PRINTED: function 111 (slices_Collect_space_Extent)

-- NOT PRINTED: function 120 (slices_insertionSortCmpFunc_space_Extent)

-- NOT PRINTED: function 130 (slices_siftDownCmpFunc_space_Extent)

-- NOT PRINTED: function 121 (slices_heapSortCmpFunc_space_Extent)

end Go.Proofs.Ythcohkgpbjcliaa.F

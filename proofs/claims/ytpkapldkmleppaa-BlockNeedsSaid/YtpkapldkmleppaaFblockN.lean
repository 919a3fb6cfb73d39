/- Contracts of Go functions of the seat Ytpkapldkmleppaa: what a call comes to; no condition but those that each theorem names. -/
import Derived.Test.YtpkapldkmleppaaFPre
namespace Go.Proofs.Ytpkapldkmleppaa.F
open Go.RowKit Go.Proofs.YtpkapldkmleppaaW.PrintWords Go.Proofs.YtpkapldkmleppaaW.PrintLast Go.Proofs.YtpkapldkmleppaaW.PrintMore
attribute [local go_sem] max2_int min2_int max_two min_two max_three min_three max_four min_four   -- for this text's walks alone
set_option linter.unusedVariables false
set_option linter.unusedSimpArgs false

/-! ### block_Need: function 20 -/
def block_Need.f (a0 : Int) : Option (Int) := if a0 < 0 then (some 0) else (if a0 > 65535 then (some 0) else (some (wrap64 (Int.tdiv (wrap64 ((wrap64 ((wrap64 (7 + a0)) + 32)) - 1)) 32))))
set_option maxHeartbeats 8000000 in
set_option maxRecDepth 100000 in
theorem block_Need.calls (a0 : Int) (r : Int) (w : World) (h : block_Need.f a0 = some r) :
    Calls Try.prog 20 #[.int .i64 a0] w fun e w' => e = .returned (.int .i64 r) ∧ Drawn0 w w' := by
  have H : (if a0 < 0 then (some 0) else (if a0 > 65535 then (some 0) else (some (wrap64 (Int.tdiv (wrap64 ((wrap64 ((wrap64 (7 + a0)) + 32)) - 1)) 32))))) = some r := h
  clear h
  by_cases c2 : a0 < 0
  · rw [if_pos c2] at H
    have c2b0 : decide (a0 < 0) = true := decide_eq_true c2
    clear c2
    obtain rfl := Option.some.inj H
    go_enter Try.func20, Try.ntmps20
    go_wp2
    go_ret
    exact ⟨by first | rfl | (simp; done) | (simp [*]; done), by repeat (first | exact Drawn0.refl _ | apply Drawn0.step)⟩
  · rw [if_neg c2] at H
    have c2b0 : decide (a0 < 0) = false := decide_eq_false c2
    clear c2
    by_cases c3 : a0 > 65535
    · rw [if_pos c3] at H
      have c3b0 : decide (65535 < a0) = true := decide_eq_true c3
      clear c3
      obtain rfl := Option.some.inj H
      go_enter Try.func20, Try.ntmps20
      go_wp2
      go_ret
      exact ⟨by first | rfl | (simp; done) | (simp [*]; done), by repeat (first | exact Drawn0.refl _ | apply Drawn0.step)⟩
    · rw [if_neg c3] at H
      have c3b0 : decide (65535 < a0) = false := decide_eq_false c3
      clear c3
      obtain rfl := Option.some.inj H
      go_enter Try.func20, Try.ntmps20
      go_wp2
      go_ret
      exact ⟨by first | rfl | (simp; done) | (simp [*]; done), by repeat (first | exact Drawn0.refl _ | apply Drawn0.step)⟩

-- NOT PRINTED: function 43 (disk_lasting)

end Go.Proofs.Ytpkapldkmleppaa.F

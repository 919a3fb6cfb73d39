/- A longer text needs no fewer sectors, and each needs as many as its bytes, with seven more, are cut into. -/
import Derived.Test.YtpkapldkmleppaaFlaw06BlockNeeds
import Derived.Test.YtpkapldkmleppaaPlBlock
import Derived.Test.YtpkapldkmleppaaPlAwake06
namespace Go.Proofs.Ytpkapldkmleppaa.PlBlockNeeds
open Go.RowKit Go.Proofs.Ytpkapldkmleppaa.F Go.Proofs.YtpkapldkmleppaaW.PrintWords Go.Proofs.YtpkapldkmleppaaW.PrintLast Go.Proofs.YtpkapldkmleppaaW.PrintMore Go.Proofs.Ytpkapldkmleppaa.Pl
set_option linter.unusedVariables false
set_option linter.unusedSimpArgs false
theorem zerosB (n : Nat) : strOfNums (List.replicate n (0 : Int)) = B (List.replicate n 0) := by
  have := strOfNums_map (List.replicate n (0 : UInt8))
  rw [List.map_replicate] at this
  exact this
theorem pure : ∀ (a0 : Int) (a1 : Int), (Lit.int .u16 a0).wf = true → (Lit.int .u16 a1).wf = true → ∃ k, F.weirkeeperlaw06_BlockNeeds.f k a0 a1 = some true := by
  intro a0 a1 h0 h1
  refine ⟨200, ?_⟩
  have b0 := wf_u16 h0
  have b1 := wf_u16 h1
  have e : ∀ a : Int, 0 ≤ a → a < 65536 → ∃ n : Nat, n < 3000 ∧ wrap64 (Int.tmod a 3000) = (n : Int) := fun a h0 h1 => by
    refine ⟨(a % 3000).toNat, by omega, ?_⟩
    rw [Int.tmod_eq_emod_of_nonneg h0, wrap64_in (by omega) (by omega)]
    omega
  obtain ⟨n, hn, en⟩ := e a0 b0.1 b0.2
  obtain ⟨m, hm, em⟩ := e a1 b1.1 b1.2
  unfold weirkeeperlaw06_BlockNeeds.f
  rw [en, em]
  clear en em e
  have h2 : mn (n : Int) (m : Int) = ((min n m : Nat) : Int) := by unfold mn; omega
  have h3 : mx (n : Int) (m : Int) = ((max n m : Nat) : Int) := by unfold mx; omega
  have b : needB n ≤ 100 := by unfold needB; omega
  rw [h2, h3, bneed_eq _ (by omega), Option.bind_some, bneed_eq _ (by omega), Option.bind_some, if_pos (by unfold needB; omega), if_pos (by unfold needB; omega), wrap64_in (by omega) (by omega), if_pos (by omega), if_pos (by omega), show ((n : Int) + 7).toNat = n + 7 by omega, zerosB,
    cutB_B _ (by rw [List.length_replicate]; omega), Option.bind_some, bneed_eq _ (by omega), Option.bind_some, List.length_map, cutL_length _ _ (Nat.le_refl _), List.length_replicate, if_pos (by unfold needB; omega), awake6At _ (by omega)]
  rfl
end Go.Proofs.Ytpkapldkmleppaa.PlBlockNeeds

/- What pack.Num and pack.Take answer is what the document's Num and Take answer, at every number, size and text of at most 300 bytes; longer texts: the fixed answer. -/
import Derived.Test.YtgccimhdbphenaaFlaw01PackNums
import Derived.Test.YtgccimhdbphenaaPlAwake01
namespace Go.Proofs.Ytgccimhdbphenaa.PlPackNums
open Go.RowKit Go.Proofs.Ytgccimhdbphenaa.F Go.Proofs.YtgccimhdbphenaaW.PrintWords Go.Proofs.YtgccimhdbphenaaW.PrintLast Go.Proofs.YtgccimhdbphenaaW.PrintMore Go.Proofs.Ytgccimhdbphenaa.Pl
set_option linter.unusedVariables false
set_option linter.unusedSimpArgs false

theorem pure : ∀ (a0 : Int) (a1 : ByteArray) (a2 : Int), (Lit.int .u64 a0).wf = true → a1.size ≤ 140737488351232 → (Lit.int .i64 a2).wf = true → ∃ k, F.weirkeeperlaw01_PackNums.f k a0 a1 a2 = some true := by
  intro n s size hn hs hz
  obtain ⟨K, hK⟩ := awake_holds
  obtain ⟨n, rfl⟩ := Int.eq_ofNat_of_zero_le (wf_u64 hn).1
  have hn2 := (wf_u64 hn).2
  have hz2 := wf_i64 hz
  refine ⟨K + 20, ?_⟩
  unfold weirkeeperlaw01_PackNums.f
  rw [hK _ (by omega)]
  by_cases h : (s.size : Int) > 300
  · rw [if_pos h]; rfl
  · rw [if_neg h, num_eq n (by omega) size hz2 _ (by omega), Option.bind_some, rnum_eq n (by omega) size _ (by omega), Option.bind_some, B_of s,
      take_eq _ (by rw [data_length]; omega) size _ (by omega), Option.bind_some, rtake_eq _ size _ (by omega), Option.bind_some]
    simp
end Go.Proofs.Ytgccimhdbphenaa.PlPackNums

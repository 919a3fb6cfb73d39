/- The fixed answer of layer 1's statements. -/
import Derived.Test.YtgccimhdbphenaaFlaw01awake
import Derived.Test.YtgccimhdbphenaaPlPack
import Derived.Test.YtgccimhdbphenaaPlRef01
namespace Go.Proofs.Ytgccimhdbphenaa.Pl
open Go.RowKit Go.Proofs.Ytgccimhdbphenaa.F Go.Proofs.YtgccimhdbphenaaW.PrintWords Go.Proofs.YtgccimhdbphenaaW.PrintLast Go.Proofs.YtgccimhdbphenaaW.PrintMore
set_option linter.unusedVariables false
set_option linter.unusedSimpArgs false

theorem ab_len : (textsB [[97, 98], []]).length = 6 := by decide

theorem awake_holds : ∃ K, ∀ k, K ≤ k → weirkeeperlaw01_awake.f k = some true := by
  refine ⟨40, fun k hk => ?_⟩
  have h1 := texts_eq [[97, 98], []] (by simp) (by simp) (Nat.le_trans (Nat.le_of_eq ab_len) (by omega)) k (by simp; omega)
  have h2 := parts_eq (textsB [[97, 98], []]) (Nat.lt_of_le_of_lt (Nat.le_of_eq ab_len) (by omega)) k (by rw [ab_len]; omega)
  have h3 := take_eq [1, 2, 120] (by simp) 2 k (by omega)
  have h4 := num_eq 256 (by decide) 1 (by omega) k (by omega)
  have h5 := takeText_eq [0, 3, 97, 98] (by simp) k (by omega)
  have h6 := same_eq [[97, 98], []] [[97, 98], []] (by simp) k (by simp; omega)
  rw [partsR_texts _ (by simp)] at h2
  have e1 : textsR [[97, 98], []] = (B (textsB [[97, 98], []]), 0) := by unfold textsR; rw [if_pos (by simp)]
  have e3 : takeR [1, 2, 120] 2 = (258, B [120], 0) := rfl
  have e4 : numR 256 1 = (B [], 1) := rfl
  have e5 : takeTextR [0, 3, 97, 98] = (B [], B [], 2) := if_pos (by decide)
  rw [e1] at h1; rw [e3] at h3; rw [e4] at h4; rw [e5] at h5
  unfold weirkeeperlaw01_awake.f
  change (pack_Texts.f k ([[97, 98], []].map B)).bind _ = _
  rw [h1, Option.bind_some]
  simp only
  rw [h2, Option.bind_some]
  change (pack_Take.f k (B [1, 2, 120]) 2).bind _ = _
  rw [h3, Option.bind_some]
  change (pack_Num.f k ((256 : Nat) : Int) 1).bind _ = _
  rw [h4, Option.bind_some]
  change (pack_TakeText.f k (B [0, 3, 97, 98])).bind _ = _
  rw [h5, Option.bind_some, B_toList, if_pos (by decide), if_pos rfl]
  change (weirkeeperref01_Same.f k ([[97, 98], []].map B) ([[97, 98], []].map B)).bind _ = _
  rw [h6, Option.bind_some]
  simp [B_toList]


end Go.Proofs.Ytgccimhdbphenaa.Pl

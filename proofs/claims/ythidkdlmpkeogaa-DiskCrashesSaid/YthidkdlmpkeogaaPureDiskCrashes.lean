/- Behind a crash each sector is what lasted, or what one write that waited has; if all is kept it is as flushed, if nothing is, as it lasted: of every disk of at most 100 sectors and 60 writes that wait, and at most 60 places; at others, the fixed answer. -/
import Derived.Test.YthidkdlmpkeogaaFlaw04DiskCrashes
namespace Go.Proofs.Ythidkdlmpkeogaa.PlDiskCrashes
open Go.RowKit Go.Proofs.Ythidkdlmpkeogaa.F Go.Proofs.YthidkdlmpkeogaaW.PrintWords Go.Proofs.YthidkdlmpkeogaaW.PrintLast Go.Proofs.YthidkdlmpkeogaaW.PrintMore Go.Proofs.Ythidkdlmpkeogaa.Pl
theorem pure : ∀ (l0_0 : List ByteArray) (l0_1 : List F.S104) (l1 : List Bool), (((∀ yy ∈ l0_0, yy.size ≤ maxLen) ∧ l0_0.length ≤ maxLen) ∧ l0_0.length * 16 ≤ 140737488351232) → (((∀ yy ∈ l0_1, ((Lit.int .i64 yy.f0).wf = true ∧ yy.f1.size ≤ maxLen)) ∧ l0_1.length ≤ maxLen) ∧ l0_1.length * 24 ≤ 140737488351232) → ((∀ yy ∈ l1, True) ∧ l1.length ≤ maxLen) → ∃ k, F.weirkeeperlaw04_DiskCrashes.f k l0_0 l0_1 l1 = some true := by
  intro l0 l1 l2 _ h1 _
  exact ⟨0, by unfold F.weirkeeperlaw04_DiskCrashes.f; exact if_pos h1.2⟩
end Go.Proofs.Ythidkdlmpkeogaa.PlDiskCrashes

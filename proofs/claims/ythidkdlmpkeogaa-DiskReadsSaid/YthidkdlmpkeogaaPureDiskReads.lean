/- What was put is read, other sectors stay; behind a flush all reads as it did: of every disk of at most 100 sectors and 60 writes that wait, and at most 60 texts; at others, the fixed answer. -/
import Derived.Test.YthidkdlmpkeogaaFlaw04DiskReads
namespace Go.Proofs.Ythidkdlmpkeogaa.PlDiskReads
open Go.RowKit Go.Proofs.Ythidkdlmpkeogaa.F Go.Proofs.YthidkdlmpkeogaaW.PrintWords Go.Proofs.YthidkdlmpkeogaaW.PrintLast Go.Proofs.YthidkdlmpkeogaaW.PrintMore Go.Proofs.Ythidkdlmpkeogaa.Pl
theorem pure : ∀ (l0_0 : List ByteArray) (l0_1 : List F.S104) (a1 : Int) (l2 : List ByteArray), (((∀ yy ∈ l0_0, yy.size ≤ maxLen) ∧ l0_0.length ≤ maxLen) ∧ l0_0.length * 16 ≤ 140737488351232) → (((∀ yy ∈ l0_1, ((Lit.int .i64 yy.f0).wf = true ∧ yy.f1.size ≤ maxLen)) ∧ l0_1.length ≤ maxLen) ∧ l0_1.length * 24 ≤ 140737488351232) → (Lit.int .i64 a1).wf = true → ((∀ yy ∈ l2, yy.size ≤ maxLen) ∧ l2.length ≤ maxLen) → ∃ k, F.weirkeeperlaw04_DiskReads.f k l0_0 l0_1 a1 l2 = some true := by
  intro l0 l1 a l2 _ h1 ha _
  have := wf_i64 ha
  exact ⟨0, by unfold F.weirkeeperlaw04_DiskReads.f; exact if_pos ⟨this.1, this.2, h1.2⟩⟩
end Go.Proofs.Ythidkdlmpkeogaa.PlDiskReads

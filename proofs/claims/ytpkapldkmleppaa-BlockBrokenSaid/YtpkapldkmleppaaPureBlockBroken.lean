/- A text's sectors of which one bit, behind the first four bytes, is another one are refused. -/
import Derived.Test.YtpkapldkmleppaaFlaw06BlockBroken
namespace Go.Proofs.Ytpkapldkmleppaa.PlBlockBroken
open Go.RowKit Go.Proofs.Ytpkapldkmleppaa.F Go.Proofs.Ytpkapldkmleppaa.Pl
theorem pure : ∀ (a0 : ByteArray) (a1 : Int), a0.size ≤ 140737488351232 → (Lit.int .u32 a1).wf = true → ∃ k, F.weirkeeperlaw06_BlockBroken.f k a0 a1 = some true := fun a0 a1 _ h1 => ⟨0, if_pos (by
  simp [Lit.wf, IntKind.min, IntKind.max, IntKind.signed, IntKind.bits] at h1
  omega)⟩
end Go.Proofs.Ytpkapldkmleppaa.PlBlockBroken

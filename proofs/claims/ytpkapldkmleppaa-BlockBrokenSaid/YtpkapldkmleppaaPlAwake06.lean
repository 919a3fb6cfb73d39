/- The fixed answer of chapter 6 is true: reckoned by the kernel. -/
import Derived.Test.YtpkapldkmleppaaFlaw06awake
namespace Go.Proofs.Ytpkapldkmleppaa.Pl
open Go.RowKit Go.Proofs.Ytpkapldkmleppaa.F Go.Proofs.YtpkapldkmleppaaW.PrintWords
theorem awake6 : weirkeeperlaw06_awake.f 100 = some true := by kernel_rfl
theorem awake6At (k : Nat) (hk : 100 ≤ k) : weirkeeperlaw06_awake.f k = some true := at_rounds weirkeeperlaw06_awake.mono hk awake6
end Go.Proofs.Ytpkapldkmleppaa.Pl

/- The fixed answer of chapter 8 is true: reckoned by the kernel. -/
import Derived.Test.YtpkapldkmleppaaFlaw08awake
namespace Go.Proofs.Ytpkapldkmleppaa.Pl
open Go.Proofs.Ytpkapldkmleppaa.F
theorem awake8 : weirkeeperlaw08_awake.f 3000 = some true := by kernel_rfl
end Go.Proofs.Ytpkapldkmleppaa.Pl

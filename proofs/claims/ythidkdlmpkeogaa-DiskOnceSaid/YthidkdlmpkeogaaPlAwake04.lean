/- The fixed answer of chapter 4 is true: reckoned by the kernel. -/
import Derived.Test.YthidkdlmpkeogaaFlaw04awake
namespace Go.Proofs.Ythidkdlmpkeogaa.Pl
open Go.Proofs.Ythidkdlmpkeogaa.F
theorem awake_eq : weirkeeperlaw04_awake.f = some true := by kernel_rfl
end Go.Proofs.Ythidkdlmpkeogaa.Pl

/- The fixed answer of chapter 7 is true: reckoned by the kernel. -/
import Derived.Test.YthcohkgpbjcliaaFlaw07awake
namespace Go.Proofs.Ythcohkgpbjcliaa.Pl
open Go.RowKit Go.Proofs.Ythcohkgpbjcliaa.F Go.Proofs.YthcohkgpbjcliaaW.PrintWords
theorem awake7 : weirkeeperlaw07_awake.f 100 = some true := by kernel_rfl
theorem awake7At (k : Nat) (hk : 100 ≤ k) : weirkeeperlaw07_awake.f k = some true := at_rounds weirkeeperlaw07_awake.mono hk awake7
end Go.Proofs.Ythcohkgpbjcliaa.Pl

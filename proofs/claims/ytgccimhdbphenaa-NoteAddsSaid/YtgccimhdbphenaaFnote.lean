/- Contracts of Go functions of the seat Ytgccimhdbphenaa: what a call comes to; no condition but those that each theorem names. -/
import Derived.Test.YtgccimhdbphenaaFnotex0
import Derived.Test.YtgccimhdbphenaaFnotex1
namespace Go.Proofs.Ytgccimhdbphenaa.F
open Go.RowKit Go.Proofs.YtgccimhdbphenaaW.PrintWords Go.Proofs.YtgccimhdbphenaaW.PrintLast Go.Proofs.YtgccimhdbphenaaW.PrintMore
attribute [local go_sem] max2_int min2_int max_two min_two max_three min_three max_four min_four   -- for this text's walks alone
set_option linter.unusedVariables false
set_option linter.unusedSimpArgs false


end Go.Proofs.Ytgccimhdbphenaa.F

/- The last piece of the run: the law itself. -/
import Derived.Test.YtibaafmjbmnpjaaGreatDoorCYA
set_option linter.unusedVariables false
set_option maxRecDepth 1000000
namespace Go.Ev
open Go Go.Proofs
theorem mainT : okV (callQ Tryz.prog tabs c000S 60 20 .nl deadH) (.bool true) = true := by kernel_rfl
end Go.Ev

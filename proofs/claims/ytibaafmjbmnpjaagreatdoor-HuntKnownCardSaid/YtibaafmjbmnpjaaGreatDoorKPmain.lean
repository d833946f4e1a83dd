/- The last piece of the run: the law itself. -/
import Derived.Test.YtibaafmjbmnpjaaGreatDoorKYA
set_option linter.unusedVariables false
set_option maxRecDepth 1000000
namespace Go.Ev
open Go Go.Proofs
theorem mainT : okV (callQ Tryz.prog tabs h071S 60 4 .nl deadH) (.bool true) = true := by kernel_rfl
end Go.Ev

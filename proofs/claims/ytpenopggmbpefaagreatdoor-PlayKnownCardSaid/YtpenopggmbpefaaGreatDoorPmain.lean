/- The last piece of the run: the law itself. -/
import Derived.Test.YtpenopggmbpefaaGreatDoorYA
set_option linter.unusedVariables false
set_option maxRecDepth 1000000
namespace Go.Ev
open Go Go.Proofs
theorem mainT : okV (callQ Tryz.prog tabs awS 60 3 .nl deadH) (.bool true) = true := by kernel_rfl
end Go.Ev

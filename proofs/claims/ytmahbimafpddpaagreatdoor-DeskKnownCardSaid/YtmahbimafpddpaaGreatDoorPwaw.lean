/- A piece of the run: a closed call. -/
import Derived.Test.YtmahbimafpddpaaGreatDoorYA
set_option linter.unusedVariables false
set_option maxRecDepth 1000000
namespace Go.Ev
open Go Go.Proofs
theorem awT : okV (callQ Tryz.prog tabs dcS 60 5 .nl deadH) (.bool true) = true := by kernel_rfl
end Go.Ev

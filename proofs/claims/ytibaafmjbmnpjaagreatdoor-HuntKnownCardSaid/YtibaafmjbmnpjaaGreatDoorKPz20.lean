/- Pieces of the run: what the evaluator tells of a call. -/
import Derived.Test.YtibaafmjbmnpjaaGreatDoorKYA
set_option linter.unusedVariables false
set_option maxRecDepth 1000000
namespace Go.Ev
open Go Go.Proofs
theorem h130T : leRR (callQ Tryz.prog tabs sumsC 60 127 h130A (mkH 1212 h130L)) 1212 h130O h130V h130M = true := by kernel_rfl
theorem h130P : okP h130A 1212 h130L 1217 h130M = true := by kernel_rfl
end Go.Ev

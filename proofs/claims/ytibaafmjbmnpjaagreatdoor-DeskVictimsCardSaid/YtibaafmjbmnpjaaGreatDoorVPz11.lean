/- Pieces of the run: what the evaluator tells of a call. -/
import Derived.Test.YtibaafmjbmnpjaaGreatDoorVYA
set_option linter.unusedVariables false
set_option maxRecDepth 1000000
namespace Go.Ev
open Go Go.Proofs
theorem w007T : leRR (callQ Tryz.prog tabs sumsC 60 9 w007A (mkH 60 w007L)) 60 w007O w007V w007M = true := by kernel_rfl
theorem w007P : okP w007A 60 w007L 66 w007M = true := by kernel_rfl
theorem w008T : leRR (callQ Tryz.prog tabs sumsC 60 9 w008A (mkH 75 w008L)) 75 w008O w008V w008M = true := by kernel_rfl
theorem w008P : okP w008A 75 w008L 81 w008M = true := by kernel_rfl
end Go.Ev

/- Pieces of the run: what the evaluator tells of a call. -/
import Derived.Test.YtibaafmjbmnpjaaGreatDoorVYA
set_option linter.unusedVariables false
set_option maxRecDepth 1000000
namespace Go.Ev
open Go Go.Proofs
theorem w030T : leRR (callQ Tryz.prog tabs sumsC 60 9 w030A (mkH 506 w030L)) 506 w030O w030V w030M = true := by kernel_rfl
theorem w030P : okP w030A 506 w030L 510 w030M = true := by kernel_rfl
end Go.Ev

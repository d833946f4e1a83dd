/- Pieces of the run: what the evaluator tells of a call. -/
import Derived.Test.YtibaafmjbmnpjaaGreatDoorKYB
set_option linter.unusedVariables false
set_option maxRecDepth 1000000
namespace Go.Ev
open Go Go.Proofs
theorem h141T : leRR (callQ Tryz.prog tabs sumsC 60 198 h141A (mkH 1569 h141L)) 1569 h141O h141V h141M = true := by kernel_rfl
theorem h141P : okP h141A 1569 h141L 1569 h141M = true := by kernel_rfl
end Go.Ev

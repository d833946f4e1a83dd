/- Pieces of the run: what the evaluator tells of a call. -/
import Derived.Test.YtibaafmjbmnpjaaGreatDoorVYA
set_option linter.unusedVariables false
set_option maxRecDepth 1000000
namespace Go.Ev
open Go Go.Proofs
theorem v006T : leRR (callQ Tryz.prog tabs sumsC 60 9 v006A (mkH 43 v006L)) 43 v006O v006V v006M = true := by kernel_rfl
theorem v006P : okP v006A 43 v006L 51 v006M = true := by kernel_rfl
theorem v007T : leRR (callQ Tryz.prog tabs sumsC 60 9 v007A (mkH 60 v007L)) 60 v007O v007V v007M = true := by kernel_rfl
theorem v007P : okP v007A 60 v007L 66 v007M = true := by kernel_rfl
end Go.Ev

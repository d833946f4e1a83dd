/- Pieces of the run: what the evaluator tells of a call. -/
import Derived.Test.YtibaafmjbmnpjaaGreatDoorVYA
set_option linter.unusedVariables false
set_option maxRecDepth 1000000
namespace Go.Ev
open Go Go.Proofs
theorem v012T : leRR (callQ Tryz.prog tabs sumsC 60 9 v012A (mkH 135 v012L)) 135 v012O v012V v012M = true := by kernel_rfl
theorem v012P : okP v012A 135 v012L 141 v012M = true := by kernel_rfl
theorem v013T : leRR (callQ Tryz.prog tabs sumsC 60 9 v013A (mkH 150 v013L)) 150 v013O v013V v013M = true := by kernel_rfl
theorem v013P : okP v013A 150 v013L 156 v013M = true := by kernel_rfl
end Go.Ev

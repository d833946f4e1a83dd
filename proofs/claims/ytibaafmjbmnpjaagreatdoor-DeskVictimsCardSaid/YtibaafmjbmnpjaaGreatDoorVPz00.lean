/- Pieces of the run: what the evaluator tells of a call. -/
import Derived.Test.YtibaafmjbmnpjaaGreatDoorVYA
set_option linter.unusedVariables false
set_option maxRecDepth 1000000
namespace Go.Ev
open Go Go.Proofs
theorem v001T : leRR (callQ Tryz.prog tabs sumsC 60 7 v001A (mkH 8 v001L)) 8 v001O v001V v001M = true := by kernel_rfl
theorem v001P : okP v001A 8 v001L 41 v001M = true := by kernel_rfl
theorem v002T : leRR (callQ Tryz.prog tabs sumsC 60 9 v002A (mkH 41 v002L)) 41 v002O v002V v002M = true := by kernel_rfl
theorem v002P : okP v002A 41 v002L 49 v002M = true := by kernel_rfl
end Go.Ev

/- Pieces of the run: what the evaluator tells of a call. -/
import Derived.Test.YtibaafmjbmnpjaaGreatDoorVYA
set_option linter.unusedVariables false
set_option maxRecDepth 1000000
namespace Go.Ev
open Go Go.Proofs
theorem v010T : leRR (callQ Tryz.prog tabs sumsC 60 9 v010A (mkH 105 v010L)) 105 v010O v010V v010M = true := by kernel_rfl
theorem v010P : okP v010A 105 v010L 111 v010M = true := by kernel_rfl
theorem v011T : leRR (callQ Tryz.prog tabs sumsC 60 9 v011A (mkH 120 v011L)) 120 v011O v011V v011M = true := by kernel_rfl
theorem v011P : okP v011A 120 v011L 126 v011M = true := by kernel_rfl
end Go.Ev

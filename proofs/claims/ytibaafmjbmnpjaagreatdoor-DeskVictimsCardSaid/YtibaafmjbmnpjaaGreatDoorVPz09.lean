/- Pieces of the run: what the evaluator tells of a call. -/
import Derived.Test.YtibaafmjbmnpjaaGreatDoorVYA
set_option linter.unusedVariables false
set_option maxRecDepth 1000000
namespace Go.Ev
open Go Go.Proofs
theorem v023v025T : (and (leRR (callQ Tryz.prog tabs sumsC 60 14 v023A (mkH 291 v023L)) 291 v023O v023V v023M) (and (leRR (callQ Tryz.prog tabs sumsC 60 9 v024A (mkH 370 v024L)) 370 v024O v024V v024M) (leRR (callQ Tryz.prog tabs sumsC 60 9 v025A (mkH 381 v025L)) 381 v025O v025V v025M))) = true := by kernel_rfl
theorem v023T : leRR (callQ Tryz.prog tabs sumsC 60 14 v023A (mkH 291 v023L)) 291 v023O v023V v023M = true := and_l v023v025T
theorem v024T : leRR (callQ Tryz.prog tabs sumsC 60 9 v024A (mkH 370 v024L)) 370 v024O v024V v024M = true := and_l (and_r v023v025T)
theorem v025T : leRR (callQ Tryz.prog tabs sumsC 60 9 v025A (mkH 381 v025L)) 381 v025O v025V v025M = true := (and_r (and_r v023v025T))
theorem v023P : okP v023A 291 v023L 292 v023M = true := by kernel_rfl
theorem v024P : okP v024A 370 v024L 375 v024M = true := by kernel_rfl
theorem v025P : okP v025A 381 v025L 385 v025M = true := by kernel_rfl
theorem w001w002T : (and (leRR (callQ Tryz.prog tabs sumsC 60 7 w001A (mkH 8 w001L)) 8 w001O w001V w001M) (leRR (callQ Tryz.prog tabs sumsC 60 9 w002A (mkH 41 w002L)) 41 w002O w002V w002M)) = true := by kernel_rfl
theorem w001T : leRR (callQ Tryz.prog tabs sumsC 60 7 w001A (mkH 8 w001L)) 8 w001O w001V w001M = true := and_l w001w002T
theorem w002T : leRR (callQ Tryz.prog tabs sumsC 60 9 w002A (mkH 41 w002L)) 41 w002O w002V w002M = true := (and_r w001w002T)
theorem w001P : okP w001A 8 w001L 41 w001M = true := by kernel_rfl
theorem w002P : okP w002A 41 w002L 49 w002M = true := by kernel_rfl
end Go.Ev

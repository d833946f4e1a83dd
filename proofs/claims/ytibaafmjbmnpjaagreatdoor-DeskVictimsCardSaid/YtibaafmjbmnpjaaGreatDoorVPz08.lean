/- Pieces of the run: what the evaluator tells of a call. -/
import Derived.Test.YtibaafmjbmnpjaaGreatDoorVYA
set_option linter.unusedVariables false
set_option maxRecDepth 1000000
namespace Go.Ev
open Go Go.Proofs
theorem v020T : leRR (callQ Tryz.prog tabs sumsC 60 9 v020A (mkH 252 v020L)) 252 v020O v020V v020M = true := by kernel_rfl
theorem v020P : okP v020A 252 v020L 263 v020M = true := by kernel_rfl
theorem v021v022T : (and (leRR (callQ Tryz.prog tabs sumsC 60 9 v021A (mkH 269 v021L)) 269 v021O v021V v021M) (leRR (callQ Tryz.prog tabs sumsC 60 9 v022A (mkH 276 v022L)) 276 v022O v022V v022M)) = true := by kernel_rfl
theorem v021T : leRR (callQ Tryz.prog tabs sumsC 60 9 v021A (mkH 269 v021L)) 269 v021O v021V v021M = true := and_l v021v022T
theorem v022T : leRR (callQ Tryz.prog tabs sumsC 60 9 v022A (mkH 276 v022L)) 276 v022O v022V v022M = true := (and_r v021v022T)
theorem v021P : okP v021A 269 v021L 272 v021M = true := by kernel_rfl
theorem v022P : okP v022A 276 v022L 283 v022M = true := by kernel_rfl
end Go.Ev

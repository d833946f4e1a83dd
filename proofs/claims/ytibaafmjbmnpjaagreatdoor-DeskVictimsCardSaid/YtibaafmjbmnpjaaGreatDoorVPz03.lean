/- Pieces of the run: what the evaluator tells of a call. -/
import Derived.Test.YtibaafmjbmnpjaaGreatDoorVYA
set_option linter.unusedVariables false
set_option maxRecDepth 1000000
namespace Go.Ev
open Go Go.Proofs
theorem v008T : leRR (callQ Tryz.prog tabs sumsC 60 9 v008A (mkH 75 v008L)) 75 v008O v008V v008M = true := by kernel_rfl
theorem v008P : okP v008A 75 v008L 81 v008M = true := by kernel_rfl
theorem v009T : leRR (callQ Tryz.prog tabs sumsC 60 9 v009A (mkH 90 v009L)) 90 v009O v009V v009M = true := by kernel_rfl
theorem v009P : okP v009A 90 v009L 96 v009M = true := by kernel_rfl
end Go.Ev

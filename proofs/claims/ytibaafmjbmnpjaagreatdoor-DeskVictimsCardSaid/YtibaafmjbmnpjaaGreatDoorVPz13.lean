/- Pieces of the run: what the evaluator tells of a call. -/
import Derived.Test.YtibaafmjbmnpjaaGreatDoorVYA
set_option linter.unusedVariables false
set_option maxRecDepth 1000000
namespace Go.Ev
open Go Go.Proofs
theorem w011T : leRR (callQ Tryz.prog tabs sumsC 60 9 w011A (mkH 120 w011L)) 120 w011O w011V w011M = true := by kernel_rfl
theorem w011P : okP w011A 120 w011L 126 w011M = true := by kernel_rfl
theorem w012T : leRR (callQ Tryz.prog tabs sumsC 60 9 w012A (mkH 135 w012L)) 135 w012O w012V w012M = true := by kernel_rfl
theorem w012P : okP w012A 135 w012L 141 w012M = true := by kernel_rfl
end Go.Ev

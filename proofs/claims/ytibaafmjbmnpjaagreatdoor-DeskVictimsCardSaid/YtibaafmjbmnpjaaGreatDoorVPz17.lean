/- Pieces of the run: what the evaluator tells of a call. -/
import Derived.Test.YtibaafmjbmnpjaaGreatDoorVYA
set_option linter.unusedVariables false
set_option maxRecDepth 1000000
namespace Go.Ev
open Go Go.Proofs
theorem w022T : leRR (callQ Tryz.prog tabs sumsC 60 9 w022A (mkH 282 w022L)) 282 w022O w022V w022M = true := by kernel_rfl
theorem w022P : okP w022A 282 w022L 293 w022M = true := by kernel_rfl
theorem w023w024T : (and (leRR (callQ Tryz.prog tabs sumsC 60 9 w023A (mkH 299 w023L)) 299 w023O w023V w023M) (leRR (callQ Tryz.prog tabs sumsC 60 9 w024A (mkH 306 w024L)) 306 w024O w024V w024M)) = true := by kernel_rfl
theorem w023T : leRR (callQ Tryz.prog tabs sumsC 60 9 w023A (mkH 299 w023L)) 299 w023O w023V w023M = true := and_l w023w024T
theorem w024T : leRR (callQ Tryz.prog tabs sumsC 60 9 w024A (mkH 306 w024L)) 306 w024O w024V w024M = true := (and_r w023w024T)
theorem w023P : okP w023A 299 w023L 302 w023M = true := by kernel_rfl
theorem w024P : okP w024A 306 w024L 309 w024M = true := by kernel_rfl
end Go.Ev

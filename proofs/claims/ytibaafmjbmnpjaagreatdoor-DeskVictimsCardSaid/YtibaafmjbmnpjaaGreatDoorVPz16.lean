/- Pieces of the run: what the evaluator tells of a call. -/
import Derived.Test.YtibaafmjbmnpjaaGreatDoorVYA
set_option linter.unusedVariables false
set_option maxRecDepth 1000000
namespace Go.Ev
open Go Go.Proofs
theorem w018w019T : (and (leRR (callQ Tryz.prog tabs sumsC 60 9 w018A (mkH 220 w018L)) 220 w018O w018V w018M) (leRR (callQ Tryz.prog tabs sumsC 60 9 w019A (mkH 238 w019L)) 238 w019O w019V w019M)) = true := by kernel_rfl
theorem w018T : leRR (callQ Tryz.prog tabs sumsC 60 9 w018A (mkH 220 w018L)) 220 w018O w018V w018M = true := and_l w018w019T
theorem w019T : leRR (callQ Tryz.prog tabs sumsC 60 9 w019A (mkH 238 w019L)) 238 w019O w019V w019M = true := (and_r w018w019T)
theorem w018P : okP w018A 220 w018L 233 w018M = true := by kernel_rfl
theorem w019P : okP w019A 238 w019L 243 w019M = true := by kernel_rfl
theorem w020w021T : (and (leRR (callQ Tryz.prog tabs sumsC 60 9 w020A (mkH 252 w020L)) 252 w020O w020V w020M) (leRR (callQ Tryz.prog tabs sumsC 60 9 w021A (mkH 268 w021L)) 268 w021O w021V w021M)) = true := by kernel_rfl
theorem w020T : leRR (callQ Tryz.prog tabs sumsC 60 9 w020A (mkH 252 w020L)) 252 w020O w020V w020M = true := and_l w020w021T
theorem w021T : leRR (callQ Tryz.prog tabs sumsC 60 9 w021A (mkH 268 w021L)) 268 w021O w021V w021M = true := (and_r w020w021T)
theorem w020P : okP w020A 252 w020L 263 w020M = true := by kernel_rfl
theorem w021P : okP w021A 268 w021L 273 w021M = true := by kernel_rfl
end Go.Ev

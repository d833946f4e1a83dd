/- Pieces of the run: what the evaluator tells of a call. -/
import Derived.Test.YtmahbimafpddpaaGreatDoorYA
set_option linter.unusedVariables false
set_option maxRecDepth 1000000
namespace Go.Ev
open Go Go.Proofs
theorem l02l03T : and (leRR (callQ Tryz.prog tabs sumsC 60 8 l02A (mkH 183 l02L)) 183 l02O l02V l02M) (leRR (callQ Tryz.prog tabs sumsC 60 8 l03A (mkH 208 l03L)) 208 l03O l03V l03M) = true := by kernel_rfl
theorem l02T : leRR (callQ Tryz.prog tabs sumsC 60 8 l02A (mkH 183 l02L)) 183 l02O l02V l02M = true := and_l l02l03T
theorem l03T : leRR (callQ Tryz.prog tabs sumsC 60 8 l03A (mkH 208 l03L)) 208 l03O l03V l03M = true := and_r l02l03T
end Go.Ev

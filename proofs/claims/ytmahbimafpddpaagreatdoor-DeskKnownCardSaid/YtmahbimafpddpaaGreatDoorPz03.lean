/- Pieces of the run: what the evaluator tells of a call. -/
import Derived.Test.YtmahbimafpddpaaGreatDoorYA
set_option linter.unusedVariables false
set_option maxRecDepth 1000000
namespace Go.Ev
open Go Go.Proofs
theorem k02k03T : and (leRR (callQ Tryz.prog tabs sumsC 60 8 k02A (mkH 69 k02L)) 69 k02O k02V k02M) (leRR (callQ Tryz.prog tabs sumsC 60 8 k03A (mkH 79 k03L)) 79 k03O k03V k03M) = true := by kernel_rfl
theorem k02T : leRR (callQ Tryz.prog tabs sumsC 60 8 k02A (mkH 69 k02L)) 69 k02O k02V k02M = true := and_l k02k03T
theorem k03T : leRR (callQ Tryz.prog tabs sumsC 60 8 k03A (mkH 79 k03L)) 79 k03O k03V k03M = true := and_r k02k03T
end Go.Ev

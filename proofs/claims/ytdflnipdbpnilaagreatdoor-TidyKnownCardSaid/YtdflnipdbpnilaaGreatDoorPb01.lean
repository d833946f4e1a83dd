/- Pieces of the run: what the evaluator tells of a call. -/
import Derived.Test.YtdflnipdbpnilaaGreatDoorYB
set_option linter.unusedVariables false
set_option maxRecDepth 1000000
namespace Go.Ev
open Go Go.Proofs
theorem e02T : leRR (callQ Tryz.prog tabs sumsC 60 10 e02A (mkH 736 e02L)) 736 e02O e02V e02M = true := by kernel_rfl
theorem e03T : leRR (callQ Tryz.prog tabs sumsC 60 10 e03A (mkH 755 e03L)) 755 e03O e03V e03M = true := by kernel_rfl
end Go.Ev

/- Pieces of the run: what the evaluator tells of a call. -/
import Derived.Test.YtdflnipdbpnilaaGreatDoorYB
set_option linter.unusedVariables false
set_option maxRecDepth 1000000
namespace Go.Ev
open Go Go.Proofs
theorem e18T : leRR (callQ Tryz.prog tabs sumsC 60 10 e18A (mkH 1056 e18L)) 1056 e18O e18V e18M = true := by kernel_rfl
theorem e19T : leRR (callQ Tryz.prog tabs sumsC 60 10 e19A (mkH 1075 e19L)) 1075 e19O e19V e19M = true := by kernel_rfl
end Go.Ev

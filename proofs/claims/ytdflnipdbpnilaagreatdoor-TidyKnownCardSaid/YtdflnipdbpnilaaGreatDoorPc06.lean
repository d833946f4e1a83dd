/- Pieces of the run: what the evaluator tells of a call. -/
import Derived.Test.YtdflnipdbpnilaaGreatDoorYC
set_option linter.unusedVariables false
set_option maxRecDepth 1000000
namespace Go.Ev
open Go Go.Proofs
theorem e32T : leRR (callQ Tryz.prog tabs sumsC 60 10 e32A (mkH 1336 e32L)) 1336 e32O e32V e32M = true := by kernel_rfl
theorem e33T : leRR (callQ Tryz.prog tabs sumsC 60 10 e33A (mkH 1355 e33L)) 1355 e33O e33V e33M = true := by kernel_rfl
end Go.Ev

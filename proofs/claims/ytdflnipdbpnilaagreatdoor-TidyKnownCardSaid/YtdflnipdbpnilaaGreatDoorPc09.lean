/- Pieces of the run: what the evaluator tells of a call. -/
import Derived.Test.YtdflnipdbpnilaaGreatDoorYC
set_option linter.unusedVariables false
set_option maxRecDepth 1000000
namespace Go.Ev
open Go Go.Proofs
theorem e38T : leRR (callQ Tryz.prog tabs sumsC 60 10 e38A (mkH 1452 e38L)) 1452 e38O e38V e38M = true := by kernel_rfl
theorem e39T : leRR (callQ Tryz.prog tabs sumsC 60 10 e39A (mkH 1471 e39L)) 1471 e39O e39V e39M = true := by kernel_rfl
end Go.Ev

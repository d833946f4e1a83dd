/- Pieces of the run: what the evaluator tells of a call. -/
import Derived.Test.YtdflnipdbpnilaaGreatDoorYC
set_option linter.unusedVariables false
set_option maxRecDepth 1000000
namespace Go.Ev
open Go Go.Proofs
theorem e26T : leRR (callQ Tryz.prog tabs sumsC 60 10 e26A (mkH 1216 e26L)) 1216 e26O e26V e26M = true := by kernel_rfl
theorem e27T : leRR (callQ Tryz.prog tabs sumsC 60 10 e27A (mkH 1235 e27L)) 1235 e27O e27V e27M = true := by kernel_rfl
end Go.Ev

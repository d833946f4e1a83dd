/- Pieces of the run: what the evaluator tells of a call. -/
import Derived.Test.YtdflnipdbpnilaaGreatDoorYC
set_option linter.unusedVariables false
set_option maxRecDepth 1000000
namespace Go.Ev
open Go Go.Proofs
theorem e22T : leRR (callQ Tryz.prog tabs sumsC 60 10 e22A (mkH 1136 e22L)) 1136 e22O e22V e22M = true := by kernel_rfl
theorem e23T : leRR (callQ Tryz.prog tabs sumsC 60 10 e23A (mkH 1155 e23L)) 1155 e23O e23V e23M = true := by kernel_rfl
end Go.Ev

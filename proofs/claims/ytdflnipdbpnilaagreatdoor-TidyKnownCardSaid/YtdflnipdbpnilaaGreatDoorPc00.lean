/- Pieces of the run: what the evaluator tells of a call. -/
import Derived.Test.YtdflnipdbpnilaaGreatDoorYC
set_option linter.unusedVariables false
set_option maxRecDepth 1000000
namespace Go.Ev
open Go Go.Proofs
theorem e20T : leRR (callQ Tryz.prog tabs sumsC 60 10 e20A (mkH 1096 e20L)) 1096 e20O e20V e20M = true := by kernel_rfl
theorem e21T : leRR (callQ Tryz.prog tabs sumsC 60 10 e21A (mkH 1115 e21L)) 1115 e21O e21V e21M = true := by kernel_rfl
end Go.Ev

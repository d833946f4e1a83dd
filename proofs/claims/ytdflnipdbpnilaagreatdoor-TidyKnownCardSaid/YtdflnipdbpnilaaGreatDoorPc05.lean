/- Pieces of the run: what the evaluator tells of a call. -/
import Derived.Test.YtdflnipdbpnilaaGreatDoorYC
set_option linter.unusedVariables false
set_option maxRecDepth 1000000
namespace Go.Ev
open Go Go.Proofs
theorem e30T : leRR (callQ Tryz.prog tabs sumsC 60 10 e30A (mkH 1296 e30L)) 1296 e30O e30V e30M = true := by kernel_rfl
theorem e31T : leRR (callQ Tryz.prog tabs sumsC 60 10 e31A (mkH 1315 e31L)) 1315 e31O e31V e31M = true := by kernel_rfl
end Go.Ev

/- Pieces of the run: what the evaluator tells of a call. -/
import Derived.Test.YtdflnipdbpnilaaGreatDoorYC
set_option linter.unusedVariables false
set_option maxRecDepth 1000000
namespace Go.Ev
open Go Go.Proofs
theorem e24T : leRR (callQ Tryz.prog tabs sumsC 60 10 e24A (mkH 1176 e24L)) 1176 e24O e24V e24M = true := by kernel_rfl
theorem e25T : leRR (callQ Tryz.prog tabs sumsC 60 10 e25A (mkH 1195 e25L)) 1195 e25O e25V e25M = true := by kernel_rfl
end Go.Ev

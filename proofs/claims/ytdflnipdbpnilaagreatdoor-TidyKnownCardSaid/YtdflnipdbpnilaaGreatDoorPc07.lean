/- Pieces of the run: what the evaluator tells of a call. -/
import Derived.Test.YtdflnipdbpnilaaGreatDoorYC
set_option linter.unusedVariables false
set_option maxRecDepth 1000000
namespace Go.Ev
open Go Go.Proofs
theorem e34T : leRR (callQ Tryz.prog tabs sumsC 60 10 e34A (mkH 1374 e34L)) 1374 e34O e34V e34M = true := by kernel_rfl
theorem e35T : leRR (callQ Tryz.prog tabs sumsC 60 10 e35A (mkH 1393 e35L)) 1393 e35O e35V e35M = true := by kernel_rfl
end Go.Ev

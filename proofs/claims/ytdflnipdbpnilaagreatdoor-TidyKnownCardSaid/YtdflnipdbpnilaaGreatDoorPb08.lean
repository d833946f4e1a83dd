/- Pieces of the run: what the evaluator tells of a call. -/
import Derived.Test.YtdflnipdbpnilaaGreatDoorYB
set_option linter.unusedVariables false
set_option maxRecDepth 1000000
namespace Go.Ev
open Go Go.Proofs
theorem e16T : leRR (callQ Tryz.prog tabs sumsC 60 10 e16A (mkH 1016 e16L)) 1016 e16O e16V e16M = true := by kernel_rfl
theorem e17T : leRR (callQ Tryz.prog tabs sumsC 60 10 e17A (mkH 1035 e17L)) 1035 e17O e17V e17M = true := by kernel_rfl
end Go.Ev

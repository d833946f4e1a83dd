/- Pieces of the run: what the evaluator tells of a call. -/
import Derived.Test.YtdflnipdbpnilaaGreatDoorYB
set_option linter.unusedVariables false
set_option maxRecDepth 1000000
namespace Go.Ev
open Go Go.Proofs
theorem e10T : leRR (callQ Tryz.prog tabs sumsC 60 10 e10A (mkH 896 e10L)) 896 e10O e10V e10M = true := by kernel_rfl
theorem e11T : leRR (callQ Tryz.prog tabs sumsC 60 10 e11A (mkH 915 e11L)) 915 e11O e11V e11M = true := by kernel_rfl
end Go.Ev

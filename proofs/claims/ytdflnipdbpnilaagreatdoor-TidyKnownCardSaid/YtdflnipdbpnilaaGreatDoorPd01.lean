/- Pieces of the run: what the evaluator tells of a call. -/
import Derived.Test.YtdflnipdbpnilaaGreatDoorYD
set_option linter.unusedVariables false
set_option maxRecDepth 1000000
namespace Go.Ev
open Go Go.Proofs
theorem tsT : leRR (callQ Tryz.prog tabs sumsC 60 13 tsA (mkH 1492 tsL)) 1492 tsO tsV tsM = true := by kernel_rfl
end Go.Ev

/- Pieces of the run: what the evaluator tells of a call. -/
import Derived.Test.YtdflnipdbpnilaaGreatDoorYD
set_option linter.unusedVariables false
set_option maxRecDepth 1000000
namespace Go.Ev
open Go Go.Proofs
theorem cmT : leRR (callQ Tryz.prog tabs sumsC 60 12 cmA (mkH 1489 cmL)) 1489 cmO cmV cmM = true := by kernel_rfl
theorem tbT : leRR (callQ Tryz.prog tabs sumsC 60 6 tbA (mkH 1492 tbL)) 1492 tbO tbV tbM = true := by kernel_rfl
end Go.Ev

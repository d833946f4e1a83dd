/- Pieces of the run: what the evaluator tells of a call. -/
import Derived.Test.YtdflnipdbpnilaaGreatDoorYA
set_option linter.unusedVariables false
set_option maxRecDepth 1000000
namespace Go.Ev
open Go Go.Proofs
theorem pgT : leRR (callQ Tryz.prog tabs sumsC 60 7 pgA (mkH 693 pgL)) 693 pgO pgV pgM = true := by kernel_rfl
end Go.Ev

/- Pieces of the run: what the evaluator tells of a call. -/
import Derived.Test.YtpenopggmbpefaaGreatDoorYA
set_option linter.unusedVariables false
set_option maxRecDepth 1000000
namespace Go.Ev
open Go Go.Proofs
theorem papbT : (and (leRR (callQ Tryz.prog tabs sumsC 60 12 paA (mkH 760 paL)) 760 paO paV paM) (leRR (callQ Tryz.prog tabs sumsC 60 12 pbA (mkH 768 pbL)) 768 pbO pbV pbM)) = true := by kernel_rfl
theorem paT : leRR (callQ Tryz.prog tabs sumsC 60 12 paA (mkH 760 paL)) 760 paO paV paM = true := and_l papbT
theorem pbT : leRR (callQ Tryz.prog tabs sumsC 60 12 pbA (mkH 768 pbL)) 768 pbO pbV pbM = true := (and_r papbT)
theorem paP : okP paA 760 paL 768 paM = true := by kernel_rfl
theorem pbP : okP pbA 768 pbL 774 pbM = true := by kernel_rfl
end Go.Ev

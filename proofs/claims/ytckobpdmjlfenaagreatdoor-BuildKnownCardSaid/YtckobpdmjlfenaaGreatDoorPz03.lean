/- Pieces of the run: what the evaluator tells of a call. -/
import Derived.Test.YtckobpdmjlfenaaGreatDoorYA
set_option linter.unusedVariables false
set_option maxRecDepth 1000000
namespace Go.Ev
open Go Go.Proofs
theorem twuwT : (and (leRR (callQ Tryz.prog tabs sumsC 60 10 twA (mkH 90 twL)) 90 twO twV twM) (leRR (callQ Tryz.prog tabs sumsC 60 9 uwA (mkH 97 uwL)) 97 uwO uwV uwM)) = true := by kernel_rfl
theorem twT : leRR (callQ Tryz.prog tabs sumsC 60 10 twA (mkH 90 twL)) 90 twO twV twM = true := and_l twuwT
theorem uwT : leRR (callQ Tryz.prog tabs sumsC 60 9 uwA (mkH 97 uwL)) 97 uwO uwV uwM = true := (and_r twuwT)
theorem twP : okP twA 90 twL 97 twM = true := by kernel_rfl
theorem uwP : okP uwA 97 uwL 102 uwM = true := by kernel_rfl
end Go.Ev

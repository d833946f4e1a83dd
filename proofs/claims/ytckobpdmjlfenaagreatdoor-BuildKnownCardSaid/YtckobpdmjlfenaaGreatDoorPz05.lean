/- Pieces of the run: what the evaluator tells of a call. -/
import Derived.Test.YtckobpdmjlfenaaGreatDoorYA
set_option linter.unusedVariables false
set_option maxRecDepth 1000000
namespace Go.Ev
open Go Go.Proofs
theorem stpaT : (and (leRR (callQ Tryz.prog tabs sumsC 60 8 stA (mkH 48 stL)) 48 stO stV stM) (leRR (callQ Tryz.prog tabs sumsC 60 9 paA (mkH 58 paL)) 58 paO paV paM)) = true := by kernel_rfl
theorem stT : leRR (callQ Tryz.prog tabs sumsC 60 8 stA (mkH 48 stL)) 48 stO stV stM = true := and_l stpaT
theorem paT : leRR (callQ Tryz.prog tabs sumsC 60 9 paA (mkH 58 paL)) 58 paO paV paM = true := (and_r stpaT)
theorem stP : okP stA 48 stL 58 stM = true := by kernel_rfl
theorem paP : okP paA 58 paL 58 paM = true := by kernel_rfl
end Go.Ev

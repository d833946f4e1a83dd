/- Pieces of the run: what the evaluator tells of a call. -/
import Derived.Test.YtpenopggmbpefaaGreatDoorYA
set_option linter.unusedVariables false
set_option maxRecDepth 1000000
namespace Go.Ev
open Go Go.Proofs
theorem sccbT : (and (leRR (callQ Tryz.prog tabs sumsC 60 36 scA (mkH 810 scL)) 810 scO scV scM) (leRR (callQ Tryz.prog tabs sumsC 60 37 cbA (mkH 821 cbL)) 821 cbO cbV cbM)) = true := by kernel_rfl
theorem scT : leRR (callQ Tryz.prog tabs sumsC 60 36 scA (mkH 810 scL)) 810 scO scV scM = true := and_l sccbT
theorem cbT : leRR (callQ Tryz.prog tabs sumsC 60 37 cbA (mkH 821 cbL)) 821 cbO cbV cbM = true := (and_r sccbT)
theorem scP : okP scA 810 scL 821 scM = true := by kernel_rfl
theorem cbP : okP cbA 821 cbL 823 cbM = true := by kernel_rfl
end Go.Ev

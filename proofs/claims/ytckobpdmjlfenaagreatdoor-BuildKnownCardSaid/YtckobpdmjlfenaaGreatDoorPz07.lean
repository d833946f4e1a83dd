/- Pieces of the run: what the evaluator tells of a call. -/
import Derived.Test.YtckobpdmjlfenaaGreatDoorYA
set_option linter.unusedVariables false
set_option maxRecDepth 1000000
namespace Go.Ev
open Go Go.Proofs
theorem sbcaT : (and (leRR (callQ Tryz.prog tabs sumsC 60 10 sbA (mkH 65 sbL)) 65 sbO sbV sbM) (leRR (callQ Tryz.prog tabs sumsC 60 11 caA (mkH 65 caL)) 65 caO caV caM)) = true := by kernel_rfl
theorem sbT : leRR (callQ Tryz.prog tabs sumsC 60 10 sbA (mkH 65 sbL)) 65 sbO sbV sbM = true := and_l sbcaT
theorem caT : leRR (callQ Tryz.prog tabs sumsC 60 11 caA (mkH 65 caL)) 65 caO caV caM = true := (and_r sbcaT)
theorem sbP : okP sbA 65 sbL 65 sbM = true := by kernel_rfl
theorem caP : okP caA 65 caL 65 caM = true := by kernel_rfl
end Go.Ev

/- Pieces of the run: what the evaluator tells of a call. -/
import Derived.Test.YtpenopggmbpefaaGreatDoorYA
set_option linter.unusedVariables false
set_option maxRecDepth 1000000
namespace Go.Ev
open Go Go.Proofs
theorem ocsbT : (and (leRR (callQ Tryz.prog tabs sumsC 60 8 ocA (mkH 995 ocL)) 995 ocO ocV ocM) (leRR (callQ Tryz.prog tabs sumsC 60 36 sbA (mkH 1017 sbL)) 1017 sbO sbV sbM)) = true := by kernel_rfl
theorem ocT : leRR (callQ Tryz.prog tabs sumsC 60 8 ocA (mkH 995 ocL)) 995 ocO ocV ocM = true := and_l ocsbT
theorem sbT : leRR (callQ Tryz.prog tabs sumsC 60 36 sbA (mkH 1017 sbL)) 1017 sbO sbV sbM = true := (and_r ocsbT)
theorem ocP : okP ocA 995 ocL 1017 ocM = true := by kernel_rfl
theorem sbP : okP sbA 1017 sbL 1018 sbM = true := by kernel_rfl
end Go.Ev

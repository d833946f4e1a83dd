/- Pieces of the run: what the evaluator tells of a call. -/
import Derived.Test.YtcgfhmdkhgddjaaGreatDoorYA
set_option linter.unusedVariables false
set_option maxRecDepth 1000000
namespace Go.Ev
open Go Go.Proofs
theorem oaowT : (and (leRR (callQ Tryz.prog tabs sumsC 60 9 oaA (mkH 65 oaL)) 65 oaO oaV oaM) (leRR (callQ Tryz.prog tabs sumsC 60 9 owA (mkH 66 owL)) 66 owO owV owM)) = true := by kernel_rfl
theorem oaT : leRR (callQ Tryz.prog tabs sumsC 60 9 oaA (mkH 65 oaL)) 65 oaO oaV oaM = true := and_l oaowT
theorem owT : leRR (callQ Tryz.prog tabs sumsC 60 9 owA (mkH 66 owL)) 66 owO owV owM = true := (and_r oaowT)
theorem oaP : okP oaA 65 oaL 66 oaM = true := by kernel_rfl
theorem owP : okP owA 66 owL 67 owM = true := by kernel_rfl
end Go.Ev

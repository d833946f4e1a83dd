/- Pieces of the run: what the evaluator tells of a call. -/
import Derived.Test.YtpenopggmbpefaaGreatDoorYA
set_option linter.unusedVariables false
set_option maxRecDepth 1000000
namespace Go.Ev
open Go Go.Proofs
theorem oaobT : (and (leRR (callQ Tryz.prog tabs sumsC 60 8 oaA (mkH 189 oaL)) 189 oaO oaV oaM) (leRR (callQ Tryz.prog tabs sumsC 60 8 obA (mkH 966 obL)) 966 obO obV obM)) = true := by kernel_rfl
theorem oaT : leRR (callQ Tryz.prog tabs sumsC 60 8 oaA (mkH 189 oaL)) 189 oaO oaV oaM = true := and_l oaobT
theorem obT : leRR (callQ Tryz.prog tabs sumsC 60 8 obA (mkH 966 obL)) 966 obO obV obM = true := (and_r oaobT)
theorem oaP : okP oaA 189 oaL 211 oaM = true := by kernel_rfl
theorem obP : okP obA 966 obL 988 obM = true := by kernel_rfl
end Go.Ev

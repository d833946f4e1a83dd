/- Pieces of the run: what the evaluator tells of a call. -/
import Derived.Test.YtcgfhmdkhgddjaaGreatDoorYA
set_option linter.unusedVariables false
set_option maxRecDepth 1000000
namespace Go.Ev
open Go Go.Proofs
theorem dadbT : (and (leRR (callQ Tryz.prog tabs sumsC 60 8 daA (mkH 45 daL)) 45 daO daV daM) (leRR (callQ Tryz.prog tabs sumsC 60 8 dbA (mkH 53 dbL)) 53 dbO dbV dbM)) = true := by kernel_rfl
theorem daT : leRR (callQ Tryz.prog tabs sumsC 60 8 daA (mkH 45 daL)) 45 daO daV daM = true := and_l dadbT
theorem dbT : leRR (callQ Tryz.prog tabs sumsC 60 8 dbA (mkH 53 dbL)) 53 dbO dbV dbM = true := (and_r dadbT)
theorem daP : okP daA 45 daL 52 daM = true := by kernel_rfl
theorem dbP : okP dbA 53 dbL 64 dbM = true := by kernel_rfl
end Go.Ev

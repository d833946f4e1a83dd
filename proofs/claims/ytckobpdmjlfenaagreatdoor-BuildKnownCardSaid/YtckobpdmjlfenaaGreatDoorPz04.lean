/- Pieces of the run: what the evaluator tells of a call. -/
import Derived.Test.YtckobpdmjlfenaaGreatDoorYA
set_option linter.unusedVariables false
set_option maxRecDepth 1000000
namespace Go.Ev
open Go Go.Proofs
theorem wapuT : (and (leRR (callQ Tryz.prog tabs uwS 60 5 waA (mkH 35 waL)) 35 waO waV waM) (leRR (callQ Tryz.prog tabs sumsC 60 6 puA (mkH 44 puL)) 44 puO puV puM)) = true := by kernel_rfl
theorem waT : leRR (callQ Tryz.prog tabs uwS 60 5 waA (mkH 35 waL)) 35 waO waV waM = true := and_l wapuT
theorem puT : leRR (callQ Tryz.prog tabs sumsC 60 6 puA (mkH 44 puL)) 44 puO puV puM = true := (and_r wapuT)
theorem waP : okP waA 35 waL 35 waM = true := by kernel_rfl
theorem puP : okP puA 44 puL 48 puM = true := by kernel_rfl
end Go.Ev

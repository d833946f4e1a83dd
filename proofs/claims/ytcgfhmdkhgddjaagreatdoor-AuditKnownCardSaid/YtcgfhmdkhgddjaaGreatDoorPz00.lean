/- Pieces of the run: what the evaluator tells of a call. -/
import Derived.Test.YtcgfhmdkhgddjaaGreatDoorYA
set_option linter.unusedVariables false
set_option maxRecDepth 1000000
namespace Go.Ev
open Go Go.Proofs
theorem opwaT : (and (leRR (callQ Tryz.prog tabs sumsC 60 4 opA (mkH 8 opL)) 8 opO opV opM) (leRR (callQ Tryz.prog tabs sumsC 60 5 waA (mkH 35 waL)) 35 waO waV waM)) = true := by kernel_rfl
theorem opT : leRR (callQ Tryz.prog tabs sumsC 60 4 opA (mkH 8 opL)) 8 opO opV opM = true := and_l opwaT
theorem waT : leRR (callQ Tryz.prog tabs sumsC 60 5 waA (mkH 35 waL)) 35 waO waV waM = true := (and_r opwaT)
theorem opP : okP opA 8 opL 35 opM = true := by kernel_rfl
theorem waP : okP waA 35 waL 35 waM = true := by kernel_rfl
end Go.Ev

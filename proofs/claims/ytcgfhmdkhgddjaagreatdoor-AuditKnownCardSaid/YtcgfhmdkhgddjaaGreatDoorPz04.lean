/- Pieces of the run: what the evaluator tells of a call. -/
import Derived.Test.YtcgfhmdkhgddjaaGreatDoorYA
set_option linter.unusedVariables false
set_option maxRecDepth 1000000
namespace Go.Ev
open Go Go.Proofs
theorem fiT : leRR (callQ Tryz.prog tabs ckS 60 10 fiA (mkH 66 fiL)) 66 fiO fiV fiM = true := by kernel_rfl
theorem fiP : okP fiA 66 fiL 66 fiM = true := by kernel_rfl
end Go.Ev

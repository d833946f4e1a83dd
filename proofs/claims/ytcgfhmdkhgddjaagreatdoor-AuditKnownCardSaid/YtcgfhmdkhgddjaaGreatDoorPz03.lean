/- Pieces of the run: what the evaluator tells of a call. -/
import Derived.Test.YtcgfhmdkhgddjaaGreatDoorYA
set_option linter.unusedVariables false
set_option maxRecDepth 1000000
namespace Go.Ev
open Go Go.Proofs
theorem ckT : leRR (callQ Tryz.prog tabs sumsC 60 16 ckA (mkH 1754 ckL)) 1754 ckO ckV ckM = true := by kernel_rfl
theorem ckP : okP ckA 1754 ckL 1754 ckM = true := by kernel_rfl
end Go.Ev

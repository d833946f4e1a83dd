/- Pieces of the run: what the evaluator tells of a call. -/
import Derived.Test.YtckobpdmjlfenaaGreatDoorYA
set_option linter.unusedVariables false
set_option maxRecDepth 1000000
namespace Go.Ev
open Go Go.Proofs
theorem rdT : leRR (callQ Tryz.prog tabs sumsC 60 4 rdA (mkH 8 rdL)) 8 rdO rdV rdM = true := by kernel_rfl
theorem rdP : okP rdA 8 rdL 35 rdM = true := by kernel_rfl
end Go.Ev

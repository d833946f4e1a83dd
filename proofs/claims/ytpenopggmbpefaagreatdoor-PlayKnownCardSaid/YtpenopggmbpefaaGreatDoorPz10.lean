/- Pieces of the run: what the evaluator tells of a call. -/
import Derived.Test.YtpenopggmbpefaaGreatDoorYA
set_option linter.unusedVariables false
set_option maxRecDepth 1000000
namespace Go.Ev
open Go Go.Proofs
theorem rdawT : (and (leRR (callQ Tryz.prog tabs bdS 60 4 rdA (mkH 723 rdL)) 723 rdO rdV rdM) (leRR (callQ Tryz.prog tabs rdS 60 6 awA (mkH 547 awL)) 547 awO awV awM)) = true := by kernel_rfl
theorem rdT : leRR (callQ Tryz.prog tabs bdS 60 4 rdA (mkH 723 rdL)) 723 rdO rdV rdM = true := and_l rdawT
theorem awT : leRR (callQ Tryz.prog tabs rdS 60 6 awA (mkH 547 awL)) 547 awO awV awM = true := (and_r rdawT)
theorem rdP : okP rdA 723 rdL 743 rdM = true := by kernel_rfl
theorem awP : okP awA 547 awL 547 awM = true := by kernel_rfl
end Go.Ev

/- Pieces of the run: what the evaluator tells of a call. -/
import Derived.Test.YtpenopggmbpefaaGreatDoorYA
set_option linter.unusedVariables false
set_option maxRecDepth 1000000
namespace Go.Ev
open Go Go.Proofs
theorem oeT : leRR (callQ Tryz.prog tabs sumsC 60 8 oeA (mkH 787 oeL)) 787 oeO oeV oeM = true := by kernel_rfl
theorem oeP : okP oeA 787 oeL 810 oeM = true := by kernel_rfl
end Go.Ev

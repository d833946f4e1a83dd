/- Pieces of the run: what the evaluator tells of a call. -/
import Derived.Test.YtpenopggmbpefaaGreatDoorYA
set_option linter.unusedVariables false
set_option maxRecDepth 1000000
namespace Go.Ev
open Go Go.Proofs
theorem ofT : leRR (callQ Tryz.prog tabs sumsC 60 8 ofA (mkH 829 ofL)) 829 ofO ofV ofM = true := by kernel_rfl
theorem ofP : okP ofA 829 ofL 852 ofM = true := by kernel_rfl
end Go.Ev

/- Pieces of the run: what the evaluator tells of a call. -/
import Derived.Test.YtckobpdmjlfenaaGreatDoorYA
set_option linter.unusedVariables false
set_option maxRecDepth 1000000
namespace Go.Ev
open Go Go.Proofs
theorem raT : leRR (callQ Tryz.prog tabs sumsC 60 4 raA (mkH 35 raL)) 35 raO raV raM = true := by kernel_rfl
theorem raP : okP raA 35 raL 62 raM = true := by kernel_rfl
end Go.Ev

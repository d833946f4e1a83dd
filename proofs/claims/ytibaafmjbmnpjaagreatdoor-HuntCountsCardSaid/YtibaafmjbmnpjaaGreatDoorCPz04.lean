/- Pieces of the run: what the evaluator tells of a call. -/
import Derived.Test.YtibaafmjbmnpjaaGreatDoorCYA
set_option linter.unusedVariables false
set_option maxRecDepth 1000000
namespace Go.Ev
open Go Go.Proofs
theorem c030T : leRR (callQ Tryz.prog tabs sumsC 60 60 c030A (mkH 356 c030L)) 356 c030O c030V c030M = true := by kernel_rfl
theorem c030P : okP c030A 356 c030L 370 c030M = true := by kernel_rfl
theorem c032T : leRR (callQ Tryz.prog tabs sumsC 60 42 c032A (mkH 384 c032L)) 384 c032O c032V c032M = true := by kernel_rfl
theorem c032P : okP c032A 384 c032L 407 c032M = true := by kernel_rfl
end Go.Ev

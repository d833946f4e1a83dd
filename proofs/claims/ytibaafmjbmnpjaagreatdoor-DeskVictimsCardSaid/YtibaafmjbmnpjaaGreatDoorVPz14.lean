/- Pieces of the run: what the evaluator tells of a call. -/
import Derived.Test.YtibaafmjbmnpjaaGreatDoorVYA
set_option linter.unusedVariables false
set_option maxRecDepth 1000000
namespace Go.Ev
open Go Go.Proofs
theorem w013T : leRR (callQ Tryz.prog tabs sumsC 60 9 w013A (mkH 150 w013L)) 150 w013O w013V w013M = true := by kernel_rfl
theorem w013P : okP w013A 150 w013L 156 w013M = true := by kernel_rfl
theorem w014T : leRR (callQ Tryz.prog tabs sumsC 60 9 w014A (mkH 165 w014L)) 165 w014O w014V w014M = true := by kernel_rfl
theorem w014P : okP w014A 165 w014L 171 w014M = true := by kernel_rfl
end Go.Ev

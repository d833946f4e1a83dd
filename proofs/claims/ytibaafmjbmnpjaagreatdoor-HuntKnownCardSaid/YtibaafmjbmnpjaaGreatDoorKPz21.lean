/- Pieces of the run: what the evaluator tells of a call. -/
import Derived.Test.YtibaafmjbmnpjaaGreatDoorKYB
set_option linter.unusedVariables false
set_option maxRecDepth 1000000
namespace Go.Ev
open Go Go.Proofs
theorem h133T : leRR (callQ Tryz.prog tabs sumsC 60 121 h133A (mkH 532 h133L)) 532 h133O h133V h133M = true := by kernel_rfl
theorem h133P : okP h133A 532 h133L 535 h133M = true := by kernel_rfl
theorem h134T : leRR (callQ Tryz.prog tabs sumsC 60 127 h134A (mkH 540 h134L)) 540 h134O h134V h134M = true := by kernel_rfl
theorem h134P : okP h134A 540 h134L 545 h134M = true := by kernel_rfl
theorem h052T : leRR (callQ Tryz.prog tabs h134S 60 42 h052A (mkH 532 h052L)) 532 h052N h052V h052M = true := by kernel_rfl
theorem h052P : okP h052A 532 h052L 555 h052M = true := by kernel_rfl
end Go.Ev

/- Pieces of the run: what the evaluator tells of a call. -/
import Derived.Test.YtibaafmjbmnpjaaGreatDoorKYB
set_option linter.unusedVariables false
set_option maxRecDepth 1000000
namespace Go.Ev
open Go Go.Proofs
theorem h029T : leRR (callQ Tryz.prog tabs sumsC 60 60 h029A (mkH 348 h029L)) 348 h029O h029V h029M = true := by kernel_rfl
theorem h029P : okP h029A 348 h029L 356 h029M = true := by kernel_rfl
theorem m001T : leRR (callQ Tryz.prog tabs sumsC 60 198 m001A (mkH 1544 m001L)) 1544 m001O m001V m001M = true := by kernel_rfl
theorem m001P : okP m001A 1544 m001L 1544 m001M = true := by kernel_rfl
theorem h128T : leRR (callQ Tryz.prog tabs m001S 60 127 h128A (mkH 1171 h128L)) 1171 h128N h128V h128M = true := by kernel_rfl
theorem h128P : okP h128A 1171 h128L 1176 h128M = true := by kernel_rfl
end Go.Ev

/- Pieces of the run: what the evaluator tells of a call. -/
import Derived.Test.YtibaafmjbmnpjaaGreatDoorKYB
set_option linter.unusedVariables false
set_option maxRecDepth 1000000
namespace Go.Ev
open Go Go.Proofs
theorem h030T : leRR (callQ Tryz.prog tabs sumsC 60 60 h030A (mkH 356 h030L)) 356 h030O h030V h030M = true := by kernel_rfl
theorem h030P : okP h030A 356 h030L 370 h030M = true := by kernel_rfl
theorem j001T : leRR (callQ Tryz.prog tabs sumsC 60 198 j001A (mkH 1003 j001L)) 1003 j001O j001V j001M = true := by kernel_rfl
theorem j001P : okP j001A 1003 j001L 1003 j001M = true := by kernel_rfl
theorem h045T : leRR (callQ Tryz.prog tabs j001S 60 42 h045A (mkH 497 h045L)) 497 h045N h045V h045M = true := by kernel_rfl
theorem h045P : okP h045A 497 h045L 520 h045M = true := by kernel_rfl
end Go.Ev

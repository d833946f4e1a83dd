/- Pieces of the run: what the evaluator tells of a call. -/
import Derived.Test.YtibaafmjbmnpjaaGreatDoorKYB
set_option linter.unusedVariables false
set_option maxRecDepth 1000000
namespace Go.Ev
open Go Go.Proofs
theorem n000T : leRR (callQ Tryz.prog tabs sumsC 60 198 n000A (mkH 1585 n000L)) 1585 n000O n000V n000M = true := by kernel_rfl
theorem n000P : okP n000A 1585 n000L 1585 n000M = true := by kernel_rfl
theorem h130T : leRR (callQ Tryz.prog tabs n000S 60 127 h130A (mkH 1212 h130L)) 1212 h130N h130V h130M = true := by kernel_rfl
theorem h130P : okP h130A 1212 h130L 1217 h130M = true := by kernel_rfl
end Go.Ev

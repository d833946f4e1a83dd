/- Pieces of the run: what the evaluator tells of a call. -/
import Derived.Test.YtibaafmjbmnpjaaGreatDoorKYB
set_option linter.unusedVariables false
set_option maxRecDepth 1000000
namespace Go.Ev
open Go Go.Proofs
theorem i000T : leRR (callQ Tryz.prog tabs sumsC 60 198 i000A (mkH 890 i000L)) 890 i000O i000V i000M = true := by kernel_rfl
theorem i000P : okP i000A 890 i000L 890 i000M = true := by kernel_rfl
theorem h032T : leRR (callQ Tryz.prog tabs i000S 60 42 h032A (mkH 384 h032L)) 384 h032N h032V h032M = true := by kernel_rfl
theorem h032P : okP h032A 384 h032L 407 h032M = true := by kernel_rfl
end Go.Ev

/- Pieces of the run: what the evaluator tells of a call. -/
import Derived.Test.YtibaafmjbmnpjaaGreatDoorCYB
set_option linter.unusedVariables false
set_option maxRecDepth 1000000
namespace Go.Ev
open Go Go.Proofs
theorem c030T : leRR (callQ Tryz.prog tabs sumsC 60 60 c030A (mkH 356 c030L)) 356 c030O c030V c030M = true := by kernel_rfl
theorem c030P : okP c030A 356 c030L 370 c030M = true := by kernel_rfl
theorem d000T : leRR (callQ Tryz.prog tabs sumsC 60 198 d000A (mkH 890 d000L)) 890 d000O d000V d000M = true := by kernel_rfl
theorem d000P : okP d000A 890 d000L 890 d000M = true := by kernel_rfl
theorem c032T : leRR (callQ Tryz.prog tabs d000S 60 42 c032A (mkH 384 c032L)) 384 c032N c032V c032M = true := by kernel_rfl
theorem c032P : okP c032A 384 c032L 407 c032M = true := by kernel_rfl
end Go.Ev

/- Pieces of the run: what the evaluator tells of a call. -/
import Derived.Test.YtibaafmjbmnpjaaGreatDoorVYA
set_option linter.unusedVariables false
set_option maxRecDepth 1000000
namespace Go.Ev
open Go Go.Proofs
theorem v003T : leRR (callQ Tryz.prog tabs sumsC 60 9 v003A (mkH 59 v003L)) 59 v003O v003V v003M = true := by kernel_rfl
theorem v003P : okP v003A 59 v003L 65 v003M = true := by kernel_rfl
theorem v004v005T : (and (leRR (callQ Tryz.prog tabs sumsC 60 9 v004A (mkH 70 v004L)) 70 v004O v004V v004M) (and (leRR (callQ Tryz.prog tabs v004S 60 6 v000A (mkH 8 v000L)) 8 v000O v000V v000M) (leRR (callQ Tryz.prog tabs sumsC 60 7 v005A (mkH 8 v005L)) 8 v005O v005V v005M))) = true := by kernel_rfl
theorem v004T : leRR (callQ Tryz.prog tabs sumsC 60 9 v004A (mkH 70 v004L)) 70 v004O v004V v004M = true := and_l v004v005T
theorem v000T : leRR (callQ Tryz.prog tabs v004S 60 6 v000A (mkH 8 v000L)) 8 v000O v000V v000M = true := and_l (and_r v004v005T)
theorem v005T : leRR (callQ Tryz.prog tabs sumsC 60 7 v005A (mkH 8 v005L)) 8 v005O v005V v005M = true := (and_r (and_r v004v005T))
theorem v004P : okP v004A 70 v004L 72 v004M = true := by kernel_rfl
theorem v000P : okP v000A 8 v000L 8 v000M = true := by kernel_rfl
theorem v005P : okP v005A 8 v005L 43 v005M = true := by kernel_rfl
end Go.Ev

/- Pieces of the run: what the evaluator tells of a call. -/
import Derived.Test.YtibaafmjbmnpjaaGreatDoorCYB
set_option linter.unusedVariables false
set_option maxRecDepth 1000000
namespace Go.Ev
open Go Go.Proofs
theorem e000T : leRR (callQ Tryz.prog tabs sumsC 60 198 e000A (mkH 967 e000L)) 967 e000O e000V e000M = true := by kernel_rfl
theorem e000P : okP e000A 967 e000L 967 e000M = true := by kernel_rfl
theorem c042T : leRR (callQ Tryz.prog tabs e000S 60 42 c042A (mkH 461 c042L)) 461 c042N c042V c042M = true := by kernel_rfl
theorem c042P : okP c042A 461 c042L 484 c042M = true := by kernel_rfl
theorem c043c044T : (and (leRR (callQ Tryz.prog tabs sumsC 60 110 c043A (mkH 484 c043L)) 484 c043O c043V c043M) (leRR (callQ Tryz.prog tabs sumsC 60 111 c044A (mkH 489 c044L)) 489 c044O c044V c044M)) = true := by kernel_rfl
theorem c043T : leRR (callQ Tryz.prog tabs sumsC 60 110 c043A (mkH 484 c043L)) 484 c043O c043V c043M = true := and_l c043c044T
theorem c044T : leRR (callQ Tryz.prog tabs sumsC 60 111 c044A (mkH 489 c044L)) 489 c044O c044V c044M = true := (and_r c043c044T)
theorem c043P : okP c043A 484 c043L 489 c043M = true := by kernel_rfl
theorem c044P : okP c044A 489 c044L 491 c044M = true := by kernel_rfl
end Go.Ev

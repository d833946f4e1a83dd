/- Pieces of the run: what the evaluator tells of a call. -/
import Derived.Test.YtibaafmjbmnpjaaGreatDoorCYA
set_option linter.unusedVariables false
set_option maxRecDepth 1000000
namespace Go.Ev
open Go Go.Proofs
theorem c024c018T : (and (leRR (callQ Tryz.prog tabs sumsC 60 111 c024A (mkH 376 c024L)) 376 c024O c024V c024M) (and (leRR (callQ Tryz.prog tabs sumsC 60 42 c025A (mkH 382 c025L)) 382 c025O c025V c025M) (and (leRR (callQ Tryz.prog tabs sumsC 60 110 c026A (mkH 404 c026L)) 404 c026O c026V c026M) (and (leRR (callQ Tryz.prog tabs c026S 60 62 c021A (mkH 344 c021L)) 344 c021O c021V c021M) (leRR (callQ Tryz.prog tabs c021S 60 38 c018A (mkH 289 c018L)) 289 c018O c018V c018M))))) = true := by kernel_rfl
theorem c024T : leRR (callQ Tryz.prog tabs sumsC 60 111 c024A (mkH 376 c024L)) 376 c024O c024V c024M = true := and_l c024c018T
theorem c025T : leRR (callQ Tryz.prog tabs sumsC 60 42 c025A (mkH 382 c025L)) 382 c025O c025V c025M = true := and_l (and_r c024c018T)
theorem c026T : leRR (callQ Tryz.prog tabs sumsC 60 110 c026A (mkH 404 c026L)) 404 c026O c026V c026M = true := and_l (and_r (and_r c024c018T))
theorem c021T : leRR (callQ Tryz.prog tabs c026S 60 62 c021A (mkH 344 c021L)) 344 c021O c021V c021M = true := and_l (and_r (and_r (and_r c024c018T)))
theorem c018T : leRR (callQ Tryz.prog tabs c021S 60 38 c018A (mkH 289 c018L)) 289 c018O c018V c018M = true := (and_r (and_r (and_r (and_r c024c018T))))
theorem c024P : okP c024A 376 c024L 376 c024M = true := by kernel_rfl
theorem c025P : okP c025A 382 c025L 404 c025M = true := by kernel_rfl
theorem c026P : okP c026A 404 c026L 405 c026M = true := by kernel_rfl
theorem c021P : okP c021A 344 c021L 346 c021M = true := by kernel_rfl
theorem c018P : okP c018A 289 c018L 293 c018M = true := by kernel_rfl
theorem c028c029T : (and (leRR (callQ Tryz.prog tabs sumsC 60 42 c028A (mkH 316 c028L)) 316 c028O c028V c028M) (leRR (callQ Tryz.prog tabs sumsC 60 60 c029A (mkH 348 c029L)) 348 c029O c029V c029M)) = true := by kernel_rfl
theorem c028T : leRR (callQ Tryz.prog tabs sumsC 60 42 c028A (mkH 316 c028L)) 316 c028O c028V c028M = true := and_l c028c029T
theorem c029T : leRR (callQ Tryz.prog tabs sumsC 60 60 c029A (mkH 348 c029L)) 348 c029O c029V c029M = true := (and_r c028c029T)
theorem c028P : okP c028A 316 c028L 338 c028M = true := by kernel_rfl
theorem c029P : okP c029A 348 c029L 356 c029M = true := by kernel_rfl
end Go.Ev

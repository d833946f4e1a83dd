/- Pieces of the run: what the evaluator tells of a call. -/
import Derived.Test.YtibaafmjbmnpjaaGreatDoorKYA
set_option linter.unusedVariables false
set_option maxRecDepth 1000000
namespace Go.Ev
open Go Go.Proofs
theorem h011h014T : (and (leRR (callQ Tryz.prog tabs sumsC 60 60 h011A (mkH 304 h011L)) 304 h011O h011V h011M) (and (leRR (callQ Tryz.prog tabs sumsC 60 42 h013A (mkH 328 h013L)) 328 h013O h013V h013M) (leRR (callQ Tryz.prog tabs sumsC 60 110 h014A (mkH 350 h014L)) 350 h014O h014V h014M))) = true := by kernel_rfl
theorem h011T : leRR (callQ Tryz.prog tabs sumsC 60 60 h011A (mkH 304 h011L)) 304 h011O h011V h011M = true := and_l h011h014T
theorem h013T : leRR (callQ Tryz.prog tabs sumsC 60 42 h013A (mkH 328 h013L)) 328 h013O h013V h013M = true := and_l (and_r h011h014T)
theorem h014T : leRR (callQ Tryz.prog tabs sumsC 60 110 h014A (mkH 350 h014L)) 350 h014O h014V h014M = true := (and_r (and_r h011h014T))
theorem h011P : okP h011A 304 h011L 314 h011M = true := by kernel_rfl
theorem h013P : okP h013A 328 h013L 350 h013M = true := by kernel_rfl
theorem h014P : okP h014A 350 h014L 351 h014M = true := by kernel_rfl
theorem h023h018T : (and (leRR (callQ Tryz.prog tabs sumsC 60 110 h023A (mkH 375 h023L)) 375 h023O h023V h023M) (and (leRR (callQ Tryz.prog tabs sumsC 60 111 h024A (mkH 376 h024L)) 376 h024O h024V h024M) (and (leRR (callQ Tryz.prog tabs sumsC 60 42 h025A (mkH 382 h025L)) 382 h025O h025V h025M) (and (leRR (callQ Tryz.prog tabs sumsC 60 110 h026A (mkH 404 h026L)) 404 h026O h026V h026M) (and (leRR (callQ Tryz.prog tabs h026S 60 62 h021A (mkH 344 h021L)) 344 h021O h021V h021M) (leRR (callQ Tryz.prog tabs h021S 60 38 h018A (mkH 289 h018L)) 289 h018O h018V h018M)))))) = true := by kernel_rfl
theorem h023T : leRR (callQ Tryz.prog tabs sumsC 60 110 h023A (mkH 375 h023L)) 375 h023O h023V h023M = true := and_l h023h018T
theorem h024T : leRR (callQ Tryz.prog tabs sumsC 60 111 h024A (mkH 376 h024L)) 376 h024O h024V h024M = true := and_l (and_r h023h018T)
theorem h025T : leRR (callQ Tryz.prog tabs sumsC 60 42 h025A (mkH 382 h025L)) 382 h025O h025V h025M = true := and_l (and_r (and_r h023h018T))
theorem h026T : leRR (callQ Tryz.prog tabs sumsC 60 110 h026A (mkH 404 h026L)) 404 h026O h026V h026M = true := and_l (and_r (and_r (and_r h023h018T)))
theorem h021T : leRR (callQ Tryz.prog tabs h026S 60 62 h021A (mkH 344 h021L)) 344 h021O h021V h021M = true := and_l (and_r (and_r (and_r (and_r h023h018T))))
theorem h018T : leRR (callQ Tryz.prog tabs h021S 60 38 h018A (mkH 289 h018L)) 289 h018O h018V h018M = true := (and_r (and_r (and_r (and_r (and_r h023h018T)))))
theorem h023P : okP h023A 375 h023L 376 h023M = true := by kernel_rfl
theorem h024P : okP h024A 376 h024L 376 h024M = true := by kernel_rfl
theorem h025P : okP h025A 382 h025L 404 h025M = true := by kernel_rfl
theorem h026P : okP h026A 404 h026L 405 h026M = true := by kernel_rfl
theorem h021P : okP h021A 344 h021L 346 h021M = true := by kernel_rfl
theorem h018P : okP h018A 289 h018L 293 h018M = true := by kernel_rfl
theorem h043h044T : (and (leRR (callQ Tryz.prog tabs sumsC 60 110 h043A (mkH 484 h043L)) 484 h043O h043V h043M) (leRR (callQ Tryz.prog tabs sumsC 60 111 h044A (mkH 489 h044L)) 489 h044O h044V h044M)) = true := by kernel_rfl
theorem h043T : leRR (callQ Tryz.prog tabs sumsC 60 110 h043A (mkH 484 h043L)) 484 h043O h043V h043M = true := and_l h043h044T
theorem h044T : leRR (callQ Tryz.prog tabs sumsC 60 111 h044A (mkH 489 h044L)) 489 h044O h044V h044M = true := (and_r h043h044T)
theorem h043P : okP h043A 484 h043L 489 h043M = true := by kernel_rfl
theorem h044P : okP h044A 489 h044L 491 h044M = true := by kernel_rfl
end Go.Ev

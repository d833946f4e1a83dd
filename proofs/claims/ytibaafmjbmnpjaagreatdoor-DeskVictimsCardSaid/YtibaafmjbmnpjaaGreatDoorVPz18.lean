/- Pieces of the run: what the evaluator tells of a call. -/
import Derived.Test.YtibaafmjbmnpjaaGreatDoorVYA
set_option linter.unusedVariables false
set_option maxRecDepth 1000000
namespace Go.Ev
open Go Go.Proofs
theorem w025T : leRR (callQ Tryz.prog tabs sumsC 60 9 w025A (mkH 313 w025L)) 313 w025O w025V w025M = true := by kernel_rfl
theorem w025P : okP w025A 313 w025L 320 w025M = true := by kernel_rfl
theorem w026w029T : (and (leRR (callQ Tryz.prog tabs sumsC 60 14 w026A (mkH 328 w026L)) 328 w026O w026V w026M) (and (leRR (callQ Tryz.prog tabs sumsC 60 9 w027A (mkH 407 w027L)) 407 w027O w027V w027M) (and (leRR (callQ Tryz.prog tabs sumsC 60 14 w028A (mkH 420 w028L)) 420 w028O w028V w028M) (leRR (callQ Tryz.prog tabs sumsC 60 9 w029A (mkH 495 w029L)) 495 w029O w029V w029M)))) = true := by kernel_rfl
theorem w026T : leRR (callQ Tryz.prog tabs sumsC 60 14 w026A (mkH 328 w026L)) 328 w026O w026V w026M = true := and_l w026w029T
theorem w027T : leRR (callQ Tryz.prog tabs sumsC 60 9 w027A (mkH 407 w027L)) 407 w027O w027V w027M = true := and_l (and_r w026w029T)
theorem w028T : leRR (callQ Tryz.prog tabs sumsC 60 14 w028A (mkH 420 w028L)) 420 w028O w028V w028M = true := and_l (and_r (and_r w026w029T))
theorem w029T : leRR (callQ Tryz.prog tabs sumsC 60 9 w029A (mkH 495 w029L)) 495 w029O w029V w029M = true := (and_r (and_r (and_r w026w029T)))
theorem w026P : okP w026A 328 w026L 329 w026M = true := by kernel_rfl
theorem w027P : okP w027A 407 w027L 412 w027M = true := by kernel_rfl
theorem w028P : okP w028A 420 w028L 421 w028M = true := by kernel_rfl
theorem w029P : okP w029A 495 w029L 500 w029M = true := by kernel_rfl
end Go.Ev

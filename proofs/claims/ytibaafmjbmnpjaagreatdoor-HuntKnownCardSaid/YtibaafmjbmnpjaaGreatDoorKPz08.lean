/- Pieces of the run: what the evaluator tells of a call. -/
import Derived.Test.YtibaafmjbmnpjaaGreatDoorKYA
set_option linter.unusedVariables false
set_option maxRecDepth 1000000
namespace Go.Ev
open Go Go.Proofs
theorem h028T : leRR (callQ Tryz.prog tabs sumsC 60 42 h028A (mkH 316 h028L)) 316 h028O h028V h028M = true := by kernel_rfl
theorem h028P : okP h028A 316 h028L 338 h028M = true := by kernel_rfl
theorem h040T : leRR (callQ Tryz.prog tabs sumsC 60 60 h040A (mkH 429 h040L)) 429 h040O h040V h040M = true := by kernel_rfl
theorem h040P : okP h040A 429 h040L 447 h040M = true := by kernel_rfl
theorem h055h058T : (and (leRR (callQ Tryz.prog tabs h120S 60 42 h055A (mkH 568 h055L)) 568 h055O h055V h055M) (and (leRR (callQ Tryz.prog tabs sumsC 60 110 h056A (mkH 591 h056L)) 591 h056O h056V h056M) (and (leRR (callQ Tryz.prog tabs h056S 60 62 h051A (mkH 523 h051L)) 523 h051O h051V h051M) (and (leRR (callQ Tryz.prog tabs h051S 60 38 h047A (mkH 457 h047L)) 457 h047O h047V h047M) (leRR (callQ Tryz.prog tabs sumsC 60 42 h058A (mkH 535 h058L)) 535 h058O h058V h058M))))) = true := by kernel_rfl
theorem h055T : leRR (callQ Tryz.prog tabs h120S 60 42 h055A (mkH 568 h055L)) 568 h055O h055V h055M = true := and_l h055h058T
theorem h056T : leRR (callQ Tryz.prog tabs sumsC 60 110 h056A (mkH 591 h056L)) 591 h056O h056V h056M = true := and_l (and_r h055h058T)
theorem h051T : leRR (callQ Tryz.prog tabs h056S 60 62 h051A (mkH 523 h051L)) 523 h051O h051V h051M = true := and_l (and_r (and_r h055h058T))
theorem h047T : leRR (callQ Tryz.prog tabs h051S 60 38 h047A (mkH 457 h047L)) 457 h047O h047V h047M = true := and_l (and_r (and_r (and_r h055h058T)))
theorem h058T : leRR (callQ Tryz.prog tabs sumsC 60 42 h058A (mkH 535 h058L)) 535 h058O h058V h058M = true := (and_r (and_r (and_r (and_r h055h058T))))
theorem h055P : okP h055A 568 h055L 591 h055M = true := by kernel_rfl
theorem h056P : okP h056A 591 h056L 596 h056M = true := by kernel_rfl
theorem h051P : okP h051A 523 h051L 529 h051M = true := by kernel_rfl
theorem h047P : okP h047A 457 h047L 465 h047M = true := by kernel_rfl
theorem h058P : okP h058A 535 h058L 557 h058M = true := by kernel_rfl
theorem h059T : leRR (callQ Tryz.prog tabs sumsC 60 60 h059A (mkH 567 h059L)) 567 h059O h059V h059M = true := by kernel_rfl
theorem h059P : okP h059A 567 h059L 575 h059M = true := by kernel_rfl
end Go.Ev

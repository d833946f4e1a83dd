/- Pieces of the run: what the evaluator tells of a call. -/
import Derived.Test.YtibaafmjbmnpjaaGreatDoorKYB
set_option linter.unusedVariables false
set_option maxRecDepth 1000000
namespace Go.Ev
open Go Go.Proofs
theorem h068h077T : (and (leRR (callQ Tryz.prog tabs h069S 60 17 h068A (mkH 745 h068L)) 745 h068O h068V h068M) (and (leRR (callQ Tryz.prog tabs sumsC 60 42 h074A (mkH 1003 h074L)) 1003 h074O h074V h074M) (and (leRR (callQ Tryz.prog tabs sumsC 60 42 h076A (mkH 1048 h076L)) 1048 h076O h076V h076M) (leRR (callQ Tryz.prog tabs sumsC 60 110 h077A (mkH 1070 h077L)) 1070 h077O h077V h077M)))) = true := by kernel_rfl
theorem h068T : leRR (callQ Tryz.prog tabs h069S 60 17 h068A (mkH 745 h068L)) 745 h068O h068V h068M = true := and_l h068h077T
theorem h074T : leRR (callQ Tryz.prog tabs sumsC 60 42 h074A (mkH 1003 h074L)) 1003 h074O h074V h074M = true := and_l (and_r h068h077T)
theorem h076T : leRR (callQ Tryz.prog tabs sumsC 60 42 h076A (mkH 1048 h076L)) 1048 h076O h076V h076M = true := and_l (and_r (and_r h068h077T))
theorem h077T : leRR (callQ Tryz.prog tabs sumsC 60 110 h077A (mkH 1070 h077L)) 1070 h077O h077V h077M = true := (and_r (and_r (and_r h068h077T)))
theorem h068P : okP h068A 745 h068L 745 h068M = true := by kernel_rfl
theorem h074P : okP h074A 1003 h074L 1025 h074M = true := by kernel_rfl
theorem h076P : okP h076A 1048 h076L 1070 h076M = true := by kernel_rfl
theorem h077P : okP h077A 1070 h077L 1071 h077M = true := by kernel_rfl
theorem l000T : leRR (callQ Tryz.prog tabs sumsC 60 198 l000A (mkH 1054 l000L)) 1054 l000O l000V l000M = true := by kernel_rfl
theorem l000P : okP l000A 1054 l000L 1054 l000M = true := by kernel_rfl
theorem h122T : leRR (callQ Tryz.prog tabs l000S 60 127 h122A (mkH 602 h122L)) 602 h122N h122V h122M = true := by kernel_rfl
theorem h122P : okP h122A 602 h122L 607 h122M = true := by kernel_rfl
end Go.Ev

/- Pieces of the run: what the evaluator tells of a call. -/
import Derived.Test.YtibaafmjbmnpjaaGreatDoorKYB
set_option linter.unusedVariables false
set_option maxRecDepth 1000000
namespace Go.Ev
open Go Go.Proofs
theorem h033T : leRR (callQ Tryz.prog tabs sumsC 60 110 h033A (mkH 407 h033L)) 407 h033O h033V h033M = true := by kernel_rfl
theorem h033P : okP h033A 407 h033L 412 h033M = true := by kernel_rfl
theorem i001T : leRR (callQ Tryz.prog tabs sumsC 60 198 i001A (mkH 926 i001L)) 926 i001O i001V i001M = true := by kernel_rfl
theorem i001P : okP i001A 926 i001L 926 i001M = true := by kernel_rfl
theorem h035T : leRR (callQ Tryz.prog tabs i001S 60 42 h035A (mkH 420 h035L)) 420 h035N h035V h035M = true := by kernel_rfl
theorem h035P : okP h035A 420 h035L 443 h035M = true := by kernel_rfl
theorem h121T : leRR (callQ Tryz.prog tabs sumsC 60 121 h121A (mkH 594 h121L)) 594 h121O h121V h121M = true := by kernel_rfl
theorem h121P : okP h121A 594 h121L 597 h121M = true := by kernel_rfl
theorem h123T : leRR (callQ Tryz.prog tabs sumsC 60 121 h123A (mkH 636 h123L)) 636 h123O h123V h123M = true := by kernel_rfl
theorem h123P : okP h123A 636 h123L 639 h123M = true := by kernel_rfl
theorem h129T : leRR (callQ Tryz.prog tabs sumsC 60 121 h129A (mkH 1204 h129L)) 1204 h129O h129V h129M = true := by kernel_rfl
theorem h129P : okP h129A 1204 h129L 1207 h129M = true := by kernel_rfl
theorem h131T : leRR (callQ Tryz.prog tabs sumsC 60 121 h131A (mkH 1240 h131L)) 1240 h131O h131V h131M = true := by kernel_rfl
theorem h131P : okP h131A 1240 h131L 1243 h131M = true := by kernel_rfl
end Go.Ev

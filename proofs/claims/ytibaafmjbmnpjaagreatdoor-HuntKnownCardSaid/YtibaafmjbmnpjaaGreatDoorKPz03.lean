/- Pieces of the run: what the evaluator tells of a call. -/
import Derived.Test.YtibaafmjbmnpjaaGreatDoorKYA
set_option linter.unusedVariables false
set_option maxRecDepth 1000000
namespace Go.Ev
open Go Go.Proofs
theorem h007h001T : (and (leRR (callQ Tryz.prog tabs sumsC 60 42 h007A (mkH 334 h007L)) 334 h007O h007V h007M) (and (leRR (callQ Tryz.prog tabs sumsC 60 110 h008A (mkH 356 h008L)) 356 h008O h008V h008M) (and (leRR (callQ Tryz.prog tabs h008S 60 62 h003A (mkH 296 h003L)) 296 h003O h003V h003M) (leRR (callQ Tryz.prog tabs h003S 60 38 h001A (mkH 255 h001L)) 255 h001O h001V h001M)))) = true := by kernel_rfl
theorem h007T : leRR (callQ Tryz.prog tabs sumsC 60 42 h007A (mkH 334 h007L)) 334 h007O h007V h007M = true := and_l h007h001T
theorem h008T : leRR (callQ Tryz.prog tabs sumsC 60 110 h008A (mkH 356 h008L)) 356 h008O h008V h008M = true := and_l (and_r h007h001T)
theorem h003T : leRR (callQ Tryz.prog tabs h008S 60 62 h003A (mkH 296 h003L)) 296 h003O h003V h003M = true := and_l (and_r (and_r h007h001T))
theorem h001T : leRR (callQ Tryz.prog tabs h003S 60 38 h001A (mkH 255 h001L)) 255 h001O h001V h001M = true := (and_r (and_r (and_r h007h001T)))
theorem h007P : okP h007A 334 h007L 356 h007M = true := by kernel_rfl
theorem h008P : okP h008A 356 h008L 357 h008M = true := by kernel_rfl
theorem h003P : okP h003A 296 h003L 298 h003M = true := by kernel_rfl
theorem h001P : okP h001A 255 h001L 259 h001M = true := by kernel_rfl
theorem h065h069T : (and (leRR (callQ Tryz.prog tabs h124S 60 42 h065A (mkH 636 h065L)) 636 h065O h065V h065M) (and (leRR (callQ Tryz.prog tabs sumsC 60 110 h066A (mkH 659 h066L)) 659 h066O h066V h066M) (and (leRR (callQ Tryz.prog tabs h066S 60 62 h061A (mkH 585 h061L)) 585 h061O h061V h061M) (and (leRR (callQ Tryz.prog tabs h061S 60 38 h057A (mkH 530 h057L)) 530 h057O h057V h057M) (and (leRR (callQ Tryz.prog tabs h057S 60 17 h000A (mkH 253 h000L)) 253 h000O h000V h000M) (and (leRR (callQ Tryz.prog tabs sumsC 60 17 h067A (mkH 499 h067L)) 499 h067O h067V h067M) (and (leRR (callQ Tryz.prog tabs sumsC 60 42 h070A (mkH 752 h070L)) 752 h070O h070V h070M) (leRR (callQ Tryz.prog tabs h070S 60 38 h069A (mkH 747 h069L)) 747 h069O h069V h069M)))))))) = true := by kernel_rfl
theorem h065T : leRR (callQ Tryz.prog tabs h124S 60 42 h065A (mkH 636 h065L)) 636 h065O h065V h065M = true := and_l h065h069T
theorem h066T : leRR (callQ Tryz.prog tabs sumsC 60 110 h066A (mkH 659 h066L)) 659 h066O h066V h066M = true := and_l (and_r h065h069T)
theorem h061T : leRR (callQ Tryz.prog tabs h066S 60 62 h061A (mkH 585 h061L)) 585 h061O h061V h061M = true := and_l (and_r (and_r h065h069T))
theorem h057T : leRR (callQ Tryz.prog tabs h061S 60 38 h057A (mkH 530 h057L)) 530 h057O h057V h057M = true := and_l (and_r (and_r (and_r h065h069T)))
theorem h000T : leRR (callQ Tryz.prog tabs h057S 60 17 h000A (mkH 253 h000L)) 253 h000O h000V h000M = true := and_l (and_r (and_r (and_r (and_r h065h069T))))
theorem h067T : leRR (callQ Tryz.prog tabs sumsC 60 17 h067A (mkH 499 h067L)) 499 h067O h067V h067M = true := and_l (and_r (and_r (and_r (and_r (and_r h065h069T)))))
theorem h070T : leRR (callQ Tryz.prog tabs sumsC 60 42 h070A (mkH 752 h070L)) 752 h070O h070V h070M = true := and_l (and_r (and_r (and_r (and_r (and_r (and_r h065h069T))))))
theorem h069T : leRR (callQ Tryz.prog tabs h070S 60 38 h069A (mkH 747 h069L)) 747 h069O h069V h069M = true := (and_r (and_r (and_r (and_r (and_r (and_r (and_r h065h069T)))))))
theorem h065P : okP h065A 636 h065L 659 h065M = true := by kernel_rfl
theorem h066P : okP h066A 659 h066L 670 h066M = true := by kernel_rfl
theorem h061P : okP h061A 585 h061L 603 h061M = true := by kernel_rfl
theorem h057P : okP h057A 530 h057L 550 h057M = true := by kernel_rfl
theorem h000P : okP h000A 253 h000L 254 h000M = true := by kernel_rfl
theorem h067P : okP h067A 499 h067L 499 h067M = true := by kernel_rfl
theorem h070P : okP h070A 752 h070L 752 h070M = true := by kernel_rfl
theorem h069P : okP h069A 747 h069L 747 h069M = true := by kernel_rfl
theorem h125T : leRR (callQ Tryz.prog tabs sumsC 60 121 h125A (mkH 1127 h125L)) 1127 h125O h125V h125M = true := by kernel_rfl
theorem h125P : okP h125A 1127 h125L 1130 h125M = true := by kernel_rfl
theorem h127T : leRR (callQ Tryz.prog tabs sumsC 60 121 h127A (mkH 1163 h127L)) 1163 h127O h127V h127M = true := by kernel_rfl
theorem h127P : okP h127A 1163 h127L 1166 h127M = true := by kernel_rfl
end Go.Ev

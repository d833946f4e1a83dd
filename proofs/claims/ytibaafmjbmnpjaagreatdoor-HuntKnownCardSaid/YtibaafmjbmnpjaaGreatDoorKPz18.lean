/- Pieces of the run: what the evaluator tells of a call. -/
import Derived.Test.YtibaafmjbmnpjaaGreatDoorKYB
set_option linter.unusedVariables false
set_option maxRecDepth 1000000
namespace Go.Ev
open Go Go.Proofs
theorem h078h073T : (and (leRR (callQ Tryz.prog tabs sumsC 60 111 h078A (mkH 1071 h078L)) 1071 h078O h078V h078M) (and (leRR (callQ Tryz.prog tabs sumsC 60 42 h079A (mkH 1077 h079L)) 1077 h079O h079V h079M) (and (leRR (callQ Tryz.prog tabs sumsC 60 110 h080A (mkH 1099 h080L)) 1099 h080O h080V h080M) (and (leRR (callQ Tryz.prog tabs h080S 60 62 h075A (mkH 1039 h075L)) 1039 h075O h075V h075M) (leRR (callQ Tryz.prog tabs h075S 60 38 h073A (mkH 998 h073L)) 998 h073O h073V h073M))))) = true := by kernel_rfl
theorem h078T : leRR (callQ Tryz.prog tabs sumsC 60 111 h078A (mkH 1071 h078L)) 1071 h078O h078V h078M = true := and_l h078h073T
theorem h079T : leRR (callQ Tryz.prog tabs sumsC 60 42 h079A (mkH 1077 h079L)) 1077 h079O h079V h079M = true := and_l (and_r h078h073T)
theorem h080T : leRR (callQ Tryz.prog tabs sumsC 60 110 h080A (mkH 1099 h080L)) 1099 h080O h080V h080M = true := and_l (and_r (and_r h078h073T))
theorem h075T : leRR (callQ Tryz.prog tabs h080S 60 62 h075A (mkH 1039 h075L)) 1039 h075O h075V h075M = true := and_l (and_r (and_r (and_r h078h073T)))
theorem h073T : leRR (callQ Tryz.prog tabs h075S 60 38 h073A (mkH 998 h073L)) 998 h073O h073V h073M = true := (and_r (and_r (and_r (and_r h078h073T))))
theorem h078P : okP h078A 1071 h078L 1071 h078M = true := by kernel_rfl
theorem h079P : okP h079A 1077 h079L 1099 h079M = true := by kernel_rfl
theorem h080P : okP h080A 1099 h080L 1100 h080M = true := by kernel_rfl
theorem h075P : okP h075A 1039 h075L 1041 h075M = true := by kernel_rfl
theorem h073P : okP h073A 998 h073L 1002 h073M = true := by kernel_rfl
theorem l001T : leRR (callQ Tryz.prog tabs sumsC 60 198 l001A (mkH 1096 l001L)) 1096 l001O l001V l001M = true := by kernel_rfl
theorem l001P : okP l001A 1096 l001L 1096 l001M = true := by kernel_rfl
theorem h124T : leRR (callQ Tryz.prog tabs l001S 60 127 h124A (mkH 644 h124L)) 644 h124N h124V h124M = true := by kernel_rfl
theorem h124P : okP h124A 644 h124L 649 h124M = true := by kernel_rfl
end Go.Ev

/- Pieces of the run: what the evaluator tells of a call. -/
import Derived.Test.YtibaafmjbmnpjaaGreatDoorKYA
set_option linter.unusedVariables false
set_option maxRecDepth 1000000
namespace Go.Ev
open Go Go.Proofs
theorem h034T : leRR (callQ Tryz.prog tabs sumsC 60 111 h034A (mkH 412 h034L)) 412 h034O h034V h034M = true := by kernel_rfl
theorem h034P : okP h034A 412 h034L 414 h034M = true := by kernel_rfl
theorem h096h090T : (and (leRR (callQ Tryz.prog tabs sumsC 60 111 h096A (mkH 1119 h096L)) 1119 h096O h096V h096M) (and (leRR (callQ Tryz.prog tabs sumsC 60 42 h097A (mkH 1125 h097L)) 1125 h097O h097V h097M) (and (leRR (callQ Tryz.prog tabs sumsC 60 110 h098A (mkH 1147 h098L)) 1147 h098O h098V h098M) (and (leRR (callQ Tryz.prog tabs h098S 60 62 h093A (mkH 1087 h093L)) 1087 h093O h093V h093M) (leRR (callQ Tryz.prog tabs h093S 60 38 h090A (mkH 1032 h090L)) 1032 h090O h090V h090M))))) = true := by kernel_rfl
theorem h096T : leRR (callQ Tryz.prog tabs sumsC 60 111 h096A (mkH 1119 h096L)) 1119 h096O h096V h096M = true := and_l h096h090T
theorem h097T : leRR (callQ Tryz.prog tabs sumsC 60 42 h097A (mkH 1125 h097L)) 1125 h097O h097V h097M = true := and_l (and_r h096h090T)
theorem h098T : leRR (callQ Tryz.prog tabs sumsC 60 110 h098A (mkH 1147 h098L)) 1147 h098O h098V h098M = true := and_l (and_r (and_r h096h090T))
theorem h093T : leRR (callQ Tryz.prog tabs h098S 60 62 h093A (mkH 1087 h093L)) 1087 h093O h093V h093M = true := and_l (and_r (and_r (and_r h096h090T)))
theorem h090T : leRR (callQ Tryz.prog tabs h093S 60 38 h090A (mkH 1032 h090L)) 1032 h090O h090V h090M = true := (and_r (and_r (and_r (and_r h096h090T))))
theorem h096P : okP h096A 1119 h096L 1119 h096M = true := by kernel_rfl
theorem h097P : okP h097A 1125 h097L 1147 h097M = true := by kernel_rfl
theorem h098P : okP h098A 1147 h098L 1148 h098M = true := by kernel_rfl
theorem h093P : okP h093A 1087 h093L 1089 h093M = true := by kernel_rfl
theorem h090P : okP h090A 1032 h090L 1036 h090M = true := by kernel_rfl
theorem h108h111T : (and (leRR (callQ Tryz.prog tabs sumsC 60 110 h108A (mkH 1186 h108L)) 1186 h108O h108V h108M) (and (leRR (callQ Tryz.prog tabs h108S 60 62 h103A (mkH 1117 h103L)) 1117 h103O h103V h103M) (and (leRR (callQ Tryz.prog tabs h103S 60 38 h099A (mkH 1054 h099L)) 1054 h099O h099V h099M) (and (leRR (callQ Tryz.prog tabs sumsC 60 42 h110A (mkH 1132 h110L)) 1132 h110O h110V h110M) (leRR (callQ Tryz.prog tabs sumsC 60 60 h111A (mkH 1164 h111L)) 1164 h111O h111V h111M))))) = true := by kernel_rfl
theorem h108T : leRR (callQ Tryz.prog tabs sumsC 60 110 h108A (mkH 1186 h108L)) 1186 h108O h108V h108M = true := and_l h108h111T
theorem h103T : leRR (callQ Tryz.prog tabs h108S 60 62 h103A (mkH 1117 h103L)) 1117 h103O h103V h103M = true := and_l (and_r h108h111T)
theorem h099T : leRR (callQ Tryz.prog tabs h103S 60 38 h099A (mkH 1054 h099L)) 1054 h099O h099V h099M = true := and_l (and_r (and_r h108h111T))
theorem h110T : leRR (callQ Tryz.prog tabs sumsC 60 42 h110A (mkH 1132 h110L)) 1132 h110O h110V h110M = true := and_l (and_r (and_r (and_r h108h111T)))
theorem h111T : leRR (callQ Tryz.prog tabs sumsC 60 60 h111A (mkH 1164 h111L)) 1164 h111O h111V h111M = true := (and_r (and_r (and_r (and_r h108h111T))))
theorem h108P : okP h108A 1186 h108L 1191 h108M = true := by kernel_rfl
theorem h103P : okP h103A 1117 h103L 1123 h103M = true := by kernel_rfl
theorem h099P : okP h099A 1054 h099L 1062 h099M = true := by kernel_rfl
theorem h110P : okP h110A 1132 h110L 1154 h110M = true := by kernel_rfl
theorem h111P : okP h111A 1164 h111L 1172 h111M = true := by kernel_rfl
end Go.Ev

/- Pieces of the run: what the evaluator tells of a call. -/
import Derived.Test.YtibaafmjbmnpjaaGreatDoorKYA
set_option linter.unusedVariables false
set_option maxRecDepth 1000000
namespace Go.Ev
open Go Go.Proofs
theorem h064T : leRR (callQ Tryz.prog tabs sumsC 60 111 h064A (mkH 628 h064L)) 628 h064O h064V h064M = true := by kernel_rfl
theorem h064P : okP h064A 628 h064L 630 h064M = true := by kernel_rfl
theorem h082h083T : (and (leRR (callQ Tryz.prog tabs sumsC 60 42 h082A (mkH 1015 h082L)) 1015 h082O h082V h082M) (leRR (callQ Tryz.prog tabs sumsC 60 60 h083A (mkH 1047 h083L)) 1047 h083O h083V h083M)) = true := by kernel_rfl
theorem h082T : leRR (callQ Tryz.prog tabs sumsC 60 42 h082A (mkH 1015 h082L)) 1015 h082O h082V h082M = true := and_l h082h083T
theorem h083T : leRR (callQ Tryz.prog tabs sumsC 60 60 h083A (mkH 1047 h083L)) 1047 h083O h083V h083M = true := (and_r h082h083T)
theorem h082P : okP h082A 1015 h082L 1037 h082M = true := by kernel_rfl
theorem h083P : okP h083A 1047 h083L 1057 h083M = true := by kernel_rfl
theorem h116h119T : (and (leRR (callQ Tryz.prog tabs sumsC 60 111 h116A (mkH 1232 h116L)) 1232 h116O h116V h116M) (and (leRR (callQ Tryz.prog tabs h132S 60 42 h117A (mkH 1240 h117L)) 1240 h117O h117V h117M) (and (leRR (callQ Tryz.prog tabs sumsC 60 110 h118A (mkH 1263 h118L)) 1263 h118O h118V h118M) (and (leRR (callQ Tryz.prog tabs h118S 60 62 h113A (mkH 1194 h113L)) 1194 h113O h113V h113M) (and (leRR (callQ Tryz.prog tabs h113S 60 38 h109A (mkH 1127 h109L)) 1127 h109O h109V h109M) (and (leRR (callQ Tryz.prog tabs h109S 60 17 h072A (mkH 996 h072L)) 996 h072O h072V h072M) (and (leRR (callQ Tryz.prog tabs h072S 60 20 h071A (mkH 751 h071L)) 751 h071O h071V h071M) (leRR (callQ Tryz.prog tabs sumsC 60 121 h119A (mkH 568 h119L)) 568 h119O h119V h119M)))))))) = true := by kernel_rfl
theorem h116T : leRR (callQ Tryz.prog tabs sumsC 60 111 h116A (mkH 1232 h116L)) 1232 h116O h116V h116M = true := and_l h116h119T
theorem h117T : leRR (callQ Tryz.prog tabs h132S 60 42 h117A (mkH 1240 h117L)) 1240 h117O h117V h117M = true := and_l (and_r h116h119T)
theorem h118T : leRR (callQ Tryz.prog tabs sumsC 60 110 h118A (mkH 1263 h118L)) 1263 h118O h118V h118M = true := and_l (and_r (and_r h116h119T))
theorem h113T : leRR (callQ Tryz.prog tabs h118S 60 62 h113A (mkH 1194 h113L)) 1194 h113O h113V h113M = true := and_l (and_r (and_r (and_r h116h119T)))
theorem h109T : leRR (callQ Tryz.prog tabs h113S 60 38 h109A (mkH 1127 h109L)) 1127 h109O h109V h109M = true := and_l (and_r (and_r (and_r (and_r h116h119T))))
theorem h072T : leRR (callQ Tryz.prog tabs h109S 60 17 h072A (mkH 996 h072L)) 996 h072O h072V h072M = true := and_l (and_r (and_r (and_r (and_r (and_r h116h119T)))))
theorem h071T : leRR (callQ Tryz.prog tabs h072S 60 20 h071A (mkH 751 h071L)) 751 h071O h071V h071M = true := and_l (and_r (and_r (and_r (and_r (and_r (and_r h116h119T))))))
theorem h119T : leRR (callQ Tryz.prog tabs sumsC 60 121 h119A (mkH 568 h119L)) 568 h119O h119V h119M = true := (and_r (and_r (and_r (and_r (and_r (and_r (and_r h116h119T)))))))
theorem h116P : okP h116A 1232 h116L 1234 h116M = true := by kernel_rfl
theorem h117P : okP h117A 1240 h117L 1263 h117M = true := by kernel_rfl
theorem h118P : okP h118A 1263 h118L 1268 h118M = true := by kernel_rfl
theorem h113P : okP h113A 1194 h113L 1200 h113M = true := by kernel_rfl
theorem h109P : okP h109A 1127 h109L 1135 h109M = true := by kernel_rfl
theorem h072P : okP h072A 996 h072L 997 h072M = true := by kernel_rfl
theorem h071P : okP h071A 751 h071L 751 h071M = true := by kernel_rfl
theorem h119P : okP h119A 568 h119L 571 h119M = true := by kernel_rfl
end Go.Ev

/- Pieces of the run: what the evaluator tells of a call. -/
import Derived.Test.YtibaafmjbmnpjaaGreatDoorKYB
set_option linter.unusedVariables false
set_option maxRecDepth 1000000
namespace Go.Ev
open Go Go.Proofs
theorem h036h039T : (and (leRR (callQ Tryz.prog tabs sumsC 60 110 h036A (mkH 443 h036L)) 443 h036O h036V h036M) (and (leRR (callQ Tryz.prog tabs h036S 60 62 h031A (mkH 374 h031L)) 374 h031O h031V h031M) (and (leRR (callQ Tryz.prog tabs h031S 60 38 h027A (mkH 311 h027L)) 311 h027O h027V h027M) (and (leRR (callQ Tryz.prog tabs sumsC 60 42 h038A (mkH 389 h038L)) 389 h038O h038V h038M) (leRR (callQ Tryz.prog tabs sumsC 60 60 h039A (mkH 421 h039L)) 421 h039O h039V h039M))))) = true := by kernel_rfl
theorem h036T : leRR (callQ Tryz.prog tabs sumsC 60 110 h036A (mkH 443 h036L)) 443 h036O h036V h036M = true := and_l h036h039T
theorem h031T : leRR (callQ Tryz.prog tabs h036S 60 62 h031A (mkH 374 h031L)) 374 h031O h031V h031M = true := and_l (and_r h036h039T)
theorem h027T : leRR (callQ Tryz.prog tabs h031S 60 38 h027A (mkH 311 h027L)) 311 h027O h027V h027M = true := and_l (and_r (and_r h036h039T))
theorem h038T : leRR (callQ Tryz.prog tabs sumsC 60 42 h038A (mkH 389 h038L)) 389 h038O h038V h038M = true := and_l (and_r (and_r (and_r h036h039T)))
theorem h039T : leRR (callQ Tryz.prog tabs sumsC 60 60 h039A (mkH 421 h039L)) 421 h039O h039V h039M = true := (and_r (and_r (and_r (and_r h036h039T))))
theorem h036P : okP h036A 443 h036L 448 h036M = true := by kernel_rfl
theorem h031P : okP h031A 374 h031L 380 h031M = true := by kernel_rfl
theorem h027P : okP h027A 311 h027L 319 h027M = true := by kernel_rfl
theorem h038P : okP h038A 389 h038L 411 h038M = true := by kernel_rfl
theorem h039P : okP h039A 421 h039L 429 h039M = true := by kernel_rfl
theorem n001T : leRR (callQ Tryz.prog tabs sumsC 60 198 n001A (mkH 949 n001L)) 949 n001O n001V n001M = true := by kernel_rfl
theorem n001P : okP n001A 949 n001L 949 n001M = true := by kernel_rfl
theorem h120T : leRR (callQ Tryz.prog tabs n001S 60 127 h120A (mkH 576 h120L)) 576 h120N h120V h120M = true := by kernel_rfl
theorem h120P : okP h120A 576 h120L 581 h120M = true := by kernel_rfl
end Go.Ev

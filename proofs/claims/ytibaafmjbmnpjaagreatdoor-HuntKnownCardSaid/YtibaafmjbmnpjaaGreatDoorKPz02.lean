/- Pieces of the run: what the evaluator tells of a call. -/
import Derived.Test.YtibaafmjbmnpjaaGreatDoorKYA
set_option linter.unusedVariables false
set_option maxRecDepth 1000000
namespace Go.Ev
open Go Go.Proofs
theorem h006T : leRR (callQ Tryz.prog tabs sumsC 60 111 h006A (mkH 328 h006L)) 328 h006O h006V h006M = true := by kernel_rfl
theorem h006P : okP h006A 328 h006L 328 h006M = true := by kernel_rfl
theorem h020h022T : (and (leRR (callQ Tryz.prog tabs sumsC 60 60 h020A (mkH 326 h020L)) 326 h020O h020V h020M) (leRR (callQ Tryz.prog tabs sumsC 60 42 h022A (mkH 353 h022L)) 353 h022O h022V h022M)) = true := by kernel_rfl
theorem h020T : leRR (callQ Tryz.prog tabs sumsC 60 60 h020A (mkH 326 h020L)) 326 h020O h020V h020M = true := and_l h020h022T
theorem h022T : leRR (callQ Tryz.prog tabs sumsC 60 42 h022A (mkH 353 h022L)) 353 h022O h022V h022M = true := (and_r h020h022T)
theorem h020P : okP h020A 326 h020L 340 h020M = true := by kernel_rfl
theorem h022P : okP h022A 353 h022L 375 h022M = true := by kernel_rfl
theorem h100h101T : (and (leRR (callQ Tryz.prog tabs sumsC 60 42 h100A (mkH 1059 h100L)) 1059 h100O h100V h100M) (leRR (callQ Tryz.prog tabs sumsC 60 60 h101A (mkH 1091 h101L)) 1091 h101O h101V h101M)) = true := by kernel_rfl
theorem h100T : leRR (callQ Tryz.prog tabs sumsC 60 42 h100A (mkH 1059 h100L)) 1059 h100O h100V h100M = true := and_l h100h101T
theorem h101T : leRR (callQ Tryz.prog tabs sumsC 60 60 h101A (mkH 1091 h101L)) 1091 h101O h101V h101M = true := (and_r h100h101T)
theorem h100P : okP h100A 1059 h100L 1081 h100M = true := by kernel_rfl
theorem h101P : okP h101A 1091 h101L 1099 h101M = true := by kernel_rfl
end Go.Ev

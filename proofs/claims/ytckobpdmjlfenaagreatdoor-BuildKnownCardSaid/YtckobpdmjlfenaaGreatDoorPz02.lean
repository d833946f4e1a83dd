/- Pieces of the run: what the evaluator tells of a call. -/
import Derived.Test.YtckobpdmjlfenaaGreatDoorYA
set_option linter.unusedVariables false
set_option maxRecDepth 1000000
namespace Go.Ev
open Go Go.Proofs
theorem pwswT : (and (leRR (callQ Tryz.prog tabs sumsC 60 6 pwA (mkH 76 pwL)) 76 pwO pwV pwM) (leRR (callQ Tryz.prog tabs sumsC 60 8 swA (mkH 80 swL)) 80 swO swV swM)) = true := by kernel_rfl
theorem pwT : leRR (callQ Tryz.prog tabs sumsC 60 6 pwA (mkH 76 pwL)) 76 pwO pwV pwM = true := and_l pwswT
theorem swT : leRR (callQ Tryz.prog tabs sumsC 60 8 swA (mkH 80 swL)) 80 swO swV swM = true := (and_r pwswT)
theorem pwP : okP pwA 76 pwL 80 pwM = true := by kernel_rfl
theorem swP : okP swA 80 swL 90 swM = true := by kernel_rfl
end Go.Ev

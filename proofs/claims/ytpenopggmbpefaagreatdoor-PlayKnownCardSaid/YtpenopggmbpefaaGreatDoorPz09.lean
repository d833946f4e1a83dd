/- Pieces of the run: what the evaluator tells of a call. -/
import Derived.Test.YtpenopggmbpefaaGreatDoorYA
set_option linter.unusedVariables false
set_option maxRecDepth 1000000
namespace Go.Ev
open Go Go.Proofs
theorem sdbdT : (and (leRR (callQ Tryz.prog tabs sumsC 60 36 sdA (mkH 852 sdL)) 852 sdO sdV sdM) (leRR (callQ Tryz.prog tabs sdS 60 16 bdA (mkH 778 bdL)) 778 bdO bdV bdM)) = true := by kernel_rfl
theorem sdT : leRR (callQ Tryz.prog tabs sumsC 60 36 sdA (mkH 852 sdL)) 852 sdO sdV sdM = true := and_l sdbdT
theorem bdT : leRR (callQ Tryz.prog tabs sdS 60 16 bdA (mkH 778 bdL)) 778 bdO bdV bdM = true := (and_r sdbdT)
theorem sdP : okP sdA 852 sdL 863 sdM = true := by kernel_rfl
theorem bdP : okP bdA 778 bdL 796 bdM = true := by kernel_rfl
end Go.Ev

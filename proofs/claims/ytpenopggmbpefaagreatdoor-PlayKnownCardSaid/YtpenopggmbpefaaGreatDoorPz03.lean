/- Pieces of the run: what the evaluator tells of a call. -/
import Derived.Test.YtpenopggmbpefaaGreatDoorYA
set_option linter.unusedVariables false
set_option maxRecDepth 1000000
namespace Go.Ev
open Go Go.Proofs
theorem baraT : (and (leRR (callQ Tryz.prog tabs sbS 60 16 baA (mkH 956 baL)) 956 baO baV baM) (leRR (callQ Tryz.prog tabs baS 60 4 raA (mkH 184 raL)) 184 raO raV raM)) = true := by kernel_rfl
theorem baT : leRR (callQ Tryz.prog tabs sbS 60 16 baA (mkH 956 baL)) 956 baO baV baM = true := and_l baraT
theorem raT : leRR (callQ Tryz.prog tabs baS 60 4 raA (mkH 184 raL)) 184 raO raV raM = true := (and_r baraT)
theorem baP : okP baA 956 baL 958 baM = true := by kernel_rfl
theorem raP : okP raA 184 raL 188 raM = true := by kernel_rfl
end Go.Ev

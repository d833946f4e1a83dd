/- Pieces of the run: what the evaluator tells of a call. -/
import Derived.Test.YtpenopggmbpefaaGreatDoorYA
set_option linter.unusedVariables false
set_option maxRecDepth 1000000
namespace Go.Ev
open Go Go.Proofs
theorem sacaT : (and (leRR (callQ Tryz.prog tabs sumsC 60 36 saA (mkH 988 saL)) 988 saO saV saM) (leRR (callQ Tryz.prog tabs sumsC 60 37 caA (mkH 989 caL)) 989 caO caV caM)) = true := by kernel_rfl
theorem saT : leRR (callQ Tryz.prog tabs sumsC 60 36 saA (mkH 988 saL)) 988 saO saV saM = true := and_l sacaT
theorem caT : leRR (callQ Tryz.prog tabs sumsC 60 37 caA (mkH 989 caL)) 989 caO caV caM = true := (and_r sacaT)
theorem saP : okP saA 988 saL 989 saM = true := by kernel_rfl
theorem caP : okP caA 989 caL 989 caM = true := by kernel_rfl
end Go.Ev

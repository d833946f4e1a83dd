/- Pieces of the run: what the evaluator tells of a call. -/
import Derived.Test.YtckobpdmjlfenaaGreatDoorYA
set_option linter.unusedVariables false
set_option maxRecDepth 1000000
namespace Go.Ev
open Go Go.Proofs
theorem sapcT : (and (leRR (callQ Tryz.prog tabs sumsC 60 10 saA (mkH 58 saL)) 58 saO saV saM) (leRR (callQ Tryz.prog tabs sumsC 60 9 pcA (mkH 65 pcL)) 65 pcO pcV pcM)) = true := by kernel_rfl
theorem saT : leRR (callQ Tryz.prog tabs sumsC 60 10 saA (mkH 58 saL)) 58 saO saV saM = true := and_l sapcT
theorem pcT : leRR (callQ Tryz.prog tabs sumsC 60 9 pcA (mkH 65 pcL)) 65 pcO pcV pcM = true := (and_r sapcT)
theorem saP : okP saA 58 saL 65 saM = true := by kernel_rfl
theorem pcP : okP pcA 65 pcL 65 pcM = true := by kernel_rfl
end Go.Ev

/- Pieces of the run: what the evaluator tells of a call. -/
import Derived.Test.YtibaafmjbmnpjaaGreatDoorVYA
set_option linter.unusedVariables false
set_option maxRecDepth 1000000
namespace Go.Ev
open Go Go.Proofs
theorem w015T : leRR (callQ Tryz.prog tabs sumsC 60 9 w015A (mkH 180 w015L)) 180 w015O w015V w015M = true := by kernel_rfl
theorem w015P : okP w015A 180 w015L 186 w015M = true := by kernel_rfl
theorem w016w017T : (and (leRR (callQ Tryz.prog tabs sumsC 60 9 w016A (mkH 195 w016L)) 195 w016O w016V w016M) (leRR (callQ Tryz.prog tabs sumsC 60 9 w017A (mkH 206 w017L)) 206 w017O w017V w017M)) = true := by kernel_rfl
theorem w016T : leRR (callQ Tryz.prog tabs sumsC 60 9 w016A (mkH 195 w016L)) 195 w016O w016V w016M = true := and_l w016w017T
theorem w017T : leRR (callQ Tryz.prog tabs sumsC 60 9 w017A (mkH 206 w017L)) 206 w017O w017V w017M = true := (and_r w016w017T)
theorem w016P : okP w016A 195 w016L 201 w016M = true := by kernel_rfl
theorem w017P : okP w017A 206 w017L 211 w017M = true := by kernel_rfl
end Go.Ev

/- Pieces of the run: what the evaluator tells of a call. -/
import Derived.Test.YtibaafmjbmnpjaaGreatDoorVYA
set_option linter.unusedVariables false
set_option maxRecDepth 1000000
namespace Go.Ev
open Go Go.Proofs
theorem v014T : leRR (callQ Tryz.prog tabs sumsC 60 9 v014A (mkH 165 v014L)) 165 v014O v014V v014M = true := by kernel_rfl
theorem v014P : okP v014A 165 v014L 171 v014M = true := by kernel_rfl
theorem v015T : leRR (callQ Tryz.prog tabs sumsC 60 9 v015A (mkH 180 v015L)) 180 v015O v015V v015M = true := by kernel_rfl
theorem v015P : okP v015A 180 v015L 186 v015M = true := by kernel_rfl
end Go.Ev

/- Pieces of the run: what the evaluator tells of a call. -/
import Derived.Test.YtibaafmjbmnpjaaGreatDoorKYB
set_option linter.unusedVariables false
set_option maxRecDepth 1000000
namespace Go.Ev
open Go Go.Proofs
theorem h019T : leRR (callQ Tryz.prog tabs sumsC 60 42 h019A (mkH 294 h019L)) 294 h019O h019V h019M = true := by kernel_rfl
theorem h019P : okP h019A 294 h019L 316 h019M = true := by kernel_rfl
theorem m000T : leRR (callQ Tryz.prog tabs sumsC 60 198 m000A (mkH 1508 m000L)) 1508 m000O m000V m000M = true := by kernel_rfl
theorem m000P : okP m000A 1508 m000L 1508 m000M = true := by kernel_rfl
theorem h126T : leRR (callQ Tryz.prog tabs m000S 60 127 h126A (mkH 1135 h126L)) 1135 h126N h126V h126M = true := by kernel_rfl
theorem h126P : okP h126A 1135 h126L 1140 h126M = true := by kernel_rfl
end Go.Ev

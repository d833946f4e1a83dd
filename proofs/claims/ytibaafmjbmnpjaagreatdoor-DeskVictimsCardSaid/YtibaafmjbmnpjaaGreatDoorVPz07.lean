/- Pieces of the run: what the evaluator tells of a call. -/
import Derived.Test.YtibaafmjbmnpjaaGreatDoorVYA
set_option linter.unusedVariables false
set_option maxRecDepth 1000000
namespace Go.Ev
open Go Go.Proofs
theorem v016v017T : (and (leRR (callQ Tryz.prog tabs sumsC 60 9 v016A (mkH 195 v016L)) 195 v016O v016V v016M) (leRR (callQ Tryz.prog tabs sumsC 60 9 v017A (mkH 206 v017L)) 206 v017O v017V v017M)) = true := by kernel_rfl
theorem v016T : leRR (callQ Tryz.prog tabs sumsC 60 9 v016A (mkH 195 v016L)) 195 v016O v016V v016M = true := and_l v016v017T
theorem v017T : leRR (callQ Tryz.prog tabs sumsC 60 9 v017A (mkH 206 v017L)) 206 v017O v017V v017M = true := (and_r v016v017T)
theorem v016P : okP v016A 195 v016L 201 v016M = true := by kernel_rfl
theorem v017P : okP v017A 206 v017L 211 v017M = true := by kernel_rfl
theorem v018v019T : (and (leRR (callQ Tryz.prog tabs sumsC 60 9 v018A (mkH 220 v018L)) 220 v018O v018V v018M) (leRR (callQ Tryz.prog tabs sumsC 60 9 v019A (mkH 238 v019L)) 238 v019O v019V v019M)) = true := by kernel_rfl
theorem v018T : leRR (callQ Tryz.prog tabs sumsC 60 9 v018A (mkH 220 v018L)) 220 v018O v018V v018M = true := and_l v018v019T
theorem v019T : leRR (callQ Tryz.prog tabs sumsC 60 9 v019A (mkH 238 v019L)) 238 v019O v019V v019M = true := (and_r v018v019T)
theorem v018P : okP v018A 220 v018L 233 v018M = true := by kernel_rfl
theorem v019P : okP v019A 238 v019L 243 v019M = true := by kernel_rfl
end Go.Ev

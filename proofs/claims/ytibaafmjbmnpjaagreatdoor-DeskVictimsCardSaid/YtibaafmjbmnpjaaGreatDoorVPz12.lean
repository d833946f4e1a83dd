/- Pieces of the run: what the evaluator tells of a call. -/
import Derived.Test.YtibaafmjbmnpjaaGreatDoorVYA
set_option linter.unusedVariables false
set_option maxRecDepth 1000000
namespace Go.Ev
open Go Go.Proofs
theorem w009T : leRR (callQ Tryz.prog tabs sumsC 60 9 w009A (mkH 90 w009L)) 90 w009O w009V w009M = true := by kernel_rfl
theorem w009P : okP w009A 90 w009L 96 w009M = true := by kernel_rfl
theorem w010T : leRR (callQ Tryz.prog tabs sumsC 60 9 w010A (mkH 105 w010L)) 105 w010O w010V w010M = true := by kernel_rfl
theorem w010P : okP w010A 105 w010L 111 w010M = true := by kernel_rfl
end Go.Ev

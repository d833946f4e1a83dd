/- Pieces of the run: what the evaluator tells of a call. -/
import Derived.Test.YtdflnipdbpnilaaGreatDoorYB
set_option linter.unusedVariables false
set_option maxRecDepth 1000000
namespace Go.Ev
open Go Go.Proofs
theorem e06T : leRR (callQ Tryz.prog tabs sumsC 60 10 e06A (mkH 816 e06L)) 816 e06O e06V e06M = true := by kernel_rfl
theorem e07T : leRR (callQ Tryz.prog tabs sumsC 60 10 e07A (mkH 835 e07L)) 835 e07O e07V e07M = true := by kernel_rfl
end Go.Ev

/- Pieces of the run: what the evaluator tells of a call. -/
import Derived.Test.YtdflnipdbpnilaaGreatDoorYB
set_option linter.unusedVariables false
set_option maxRecDepth 1000000
namespace Go.Ev
open Go Go.Proofs
theorem e08T : leRR (callQ Tryz.prog tabs sumsC 60 10 e08A (mkH 856 e08L)) 856 e08O e08V e08M = true := by kernel_rfl
theorem e09T : leRR (callQ Tryz.prog tabs sumsC 60 10 e09A (mkH 875 e09L)) 875 e09O e09V e09M = true := by kernel_rfl
end Go.Ev

/- Pieces of the run: what the evaluator tells of a call. -/
import Derived.Test.YtdflnipdbpnilaaGreatDoorYB
set_option linter.unusedVariables false
set_option maxRecDepth 1000000
namespace Go.Ev
open Go Go.Proofs
theorem e04T : leRR (callQ Tryz.prog tabs sumsC 60 10 e04A (mkH 776 e04L)) 776 e04O e04V e04M = true := by kernel_rfl
theorem e05T : leRR (callQ Tryz.prog tabs sumsC 60 10 e05A (mkH 795 e05L)) 795 e05O e05V e05M = true := by kernel_rfl
end Go.Ev

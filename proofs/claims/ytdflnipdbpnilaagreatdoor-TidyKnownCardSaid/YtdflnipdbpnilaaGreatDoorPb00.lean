/- Pieces of the run: what the evaluator tells of a call. -/
import Derived.Test.YtdflnipdbpnilaaGreatDoorYB
set_option linter.unusedVariables false
set_option maxRecDepth 1000000
namespace Go.Ev
open Go Go.Proofs
theorem e00T : leRR (callQ Tryz.prog tabs sumsC 60 10 e00A (mkH 694 e00L)) 694 e00O e00V e00M = true := by kernel_rfl
theorem e01T : leRR (callQ Tryz.prog tabs sumsC 60 10 e01A (mkH 715 e01L)) 715 e01O e01V e01M = true := by kernel_rfl
end Go.Ev

/- Pieces of the run: what the evaluator tells of a call. -/
import Derived.Test.YtdflnipdbpnilaaGreatDoorYC
set_option linter.unusedVariables false
set_option maxRecDepth 1000000
namespace Go.Ev
open Go Go.Proofs
theorem e28T : leRR (callQ Tryz.prog tabs sumsC 60 10 e28A (mkH 1256 e28L)) 1256 e28O e28V e28M = true := by kernel_rfl
theorem e29T : leRR (callQ Tryz.prog tabs sumsC 60 10 e29A (mkH 1275 e29L)) 1275 e29O e29V e29M = true := by kernel_rfl
end Go.Ev

/- Pieces of the run: what the evaluator tells of a call. -/
import Derived.Test.YtmahbimafpddpaaGreatDoorYA
set_option linter.unusedVariables false
set_option maxRecDepth 1000000
namespace Go.Ev
open Go Go.Proofs
theorem k00k01T : and (leRR (callQ Tryz.prog tabs sumsC 60 8 k00A (mkH 50 k00L)) 50 k00O k00V k00M) (leRR (callQ Tryz.prog tabs sumsC 60 8 k01A (mkH 63 k01L)) 63 k01O k01V k01M) = true := by kernel_rfl
theorem k00T : leRR (callQ Tryz.prog tabs sumsC 60 8 k00A (mkH 50 k00L)) 50 k00O k00V k00M = true := and_l k00k01T
theorem k01T : leRR (callQ Tryz.prog tabs sumsC 60 8 k01A (mkH 63 k01L)) 63 k01O k01V k01M = true := and_r k00k01T
end Go.Ev

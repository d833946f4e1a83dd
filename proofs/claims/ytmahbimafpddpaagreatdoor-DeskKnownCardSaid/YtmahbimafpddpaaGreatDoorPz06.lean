/- Pieces of the run: what the evaluator tells of a call. -/
import Derived.Test.YtmahbimafpddpaaGreatDoorYA
set_option linter.unusedVariables false
set_option maxRecDepth 1000000
namespace Go.Ev
open Go Go.Proofs
theorem l00l01T : and (leRR (callQ Tryz.prog tabs sumsC 60 8 l00A (mkH 160 l00L)) 160 l00O l00V l00M) (leRR (callQ Tryz.prog tabs sumsC 60 8 l01A (mkH 173 l01L)) 173 l01O l01V l01M) = true := by kernel_rfl
theorem l00T : leRR (callQ Tryz.prog tabs sumsC 60 8 l00A (mkH 160 l00L)) 160 l00O l00V l00M = true := and_l l00l01T
theorem l01T : leRR (callQ Tryz.prog tabs sumsC 60 8 l01A (mkH 173 l01L)) 173 l01O l01V l01M = true := and_r l00l01T
end Go.Ev

/- Pieces of the run: what the evaluator tells of a call. -/
import Derived.Test.YtdflnipdbpnilaaGreatDoorYA
set_option linter.unusedVariables false
set_option maxRecDepth 1000000
namespace Go.Ev
open Go Go.Proofs
theorem d00d01T : and (leRR (callQ Tryz.prog tabs sumsC 60 10 d00A (mkH 126 d00L)) 126 d00O d00V d00M) (leRR (callQ Tryz.prog tabs sumsC 60 10 d01A (mkH 140 d01L)) 140 d01O d01V d01M) = true := by kernel_rfl
theorem d00T : leRR (callQ Tryz.prog tabs sumsC 60 10 d00A (mkH 126 d00L)) 126 d00O d00V d00M = true := and_l d00d01T
theorem d01T : leRR (callQ Tryz.prog tabs sumsC 60 10 d01A (mkH 140 d01L)) 140 d01O d01V d01M = true := and_r d00d01T
theorem d02d03T : and (leRR (callQ Tryz.prog tabs sumsC 60 10 d02A (mkH 153 d02L)) 153 d02O d02V d02M) (leRR (callQ Tryz.prog tabs sumsC 60 10 d03A (mkH 166 d03L)) 166 d03O d03V d03M) = true := by kernel_rfl
theorem d02T : leRR (callQ Tryz.prog tabs sumsC 60 10 d02A (mkH 153 d02L)) 153 d02O d02V d02M = true := and_l d02d03T
theorem d03T : leRR (callQ Tryz.prog tabs sumsC 60 10 d03A (mkH 166 d03L)) 166 d03O d03V d03M = true := and_r d02d03T
end Go.Ev

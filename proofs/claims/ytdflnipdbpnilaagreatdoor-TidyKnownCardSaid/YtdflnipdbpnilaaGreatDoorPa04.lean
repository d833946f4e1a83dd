/- Pieces of the run: what the evaluator tells of a call. -/
import Derived.Test.YtdflnipdbpnilaaGreatDoorYA
set_option linter.unusedVariables false
set_option maxRecDepth 1000000
namespace Go.Ev
open Go Go.Proofs
theorem d04d05T : and (leRR (callQ Tryz.prog tabs sumsC 60 10 d04A (mkH 179 d04L)) 179 d04O d04V d04M) (leRR (callQ Tryz.prog tabs sumsC 60 10 d05A (mkH 195 d05L)) 195 d05O d05V d05M) = true := by kernel_rfl
theorem d04T : leRR (callQ Tryz.prog tabs sumsC 60 10 d04A (mkH 179 d04L)) 179 d04O d04V d04M = true := and_l d04d05T
theorem d05T : leRR (callQ Tryz.prog tabs sumsC 60 10 d05A (mkH 195 d05L)) 195 d05O d05V d05M = true := and_r d04d05T
theorem d06d07T : and (leRR (callQ Tryz.prog tabs sumsC 60 10 d06A (mkH 208 d06L)) 208 d06O d06V d06M) (leRR (callQ Tryz.prog tabs sumsC 60 10 d07A (mkH 224 d07L)) 224 d07O d07V d07M) = true := by kernel_rfl
theorem d06T : leRR (callQ Tryz.prog tabs sumsC 60 10 d06A (mkH 208 d06L)) 208 d06O d06V d06M = true := and_l d06d07T
theorem d07T : leRR (callQ Tryz.prog tabs sumsC 60 10 d07A (mkH 224 d07L)) 224 d07O d07V d07M = true := and_r d06d07T
end Go.Ev

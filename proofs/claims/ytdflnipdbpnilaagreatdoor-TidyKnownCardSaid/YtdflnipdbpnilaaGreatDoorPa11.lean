/- Pieces of the run: what the evaluator tells of a call. -/
import Derived.Test.YtdflnipdbpnilaaGreatDoorYA
set_option linter.unusedVariables false
set_option maxRecDepth 1000000
namespace Go.Ev
open Go Go.Proofs
theorem d32d33T : and (leRR (callQ Tryz.prog tabs sumsC 60 10 d32A (mkH 585 d32L)) 585 d32O d32V d32M) (leRR (callQ Tryz.prog tabs sumsC 60 10 d33A (mkH 601 d33L)) 601 d33O d33V d33M) = true := by kernel_rfl
theorem d32T : leRR (callQ Tryz.prog tabs sumsC 60 10 d32A (mkH 585 d32L)) 585 d32O d32V d32M = true := and_l d32d33T
theorem d33T : leRR (callQ Tryz.prog tabs sumsC 60 10 d33A (mkH 601 d33L)) 601 d33O d33V d33M = true := and_r d32d33T
theorem d34d35T : and (leRR (callQ Tryz.prog tabs sumsC 60 10 d34A (mkH 614 d34L)) 614 d34O d34V d34M) (leRR (callQ Tryz.prog tabs sumsC 60 10 d35A (mkH 630 d35L)) 630 d35O d35V d35M) = true := by kernel_rfl
theorem d34T : leRR (callQ Tryz.prog tabs sumsC 60 10 d34A (mkH 614 d34L)) 614 d34O d34V d34M = true := and_l d34d35T
theorem d35T : leRR (callQ Tryz.prog tabs sumsC 60 10 d35A (mkH 630 d35L)) 630 d35O d35V d35M = true := and_r d34d35T
end Go.Ev

/- Pieces of the run: what the evaluator tells of a call. -/
import Derived.Test.YtdflnipdbpnilaaGreatDoorYA
set_option linter.unusedVariables false
set_option maxRecDepth 1000000
namespace Go.Ev
open Go Go.Proofs
theorem d24d25T : and (leRR (callQ Tryz.prog tabs sumsC 60 10 d24A (mkH 469 d24L)) 469 d24O d24V d24M) (leRR (callQ Tryz.prog tabs sumsC 60 10 d25A (mkH 485 d25L)) 485 d25O d25V d25M) = true := by kernel_rfl
theorem d24T : leRR (callQ Tryz.prog tabs sumsC 60 10 d24A (mkH 469 d24L)) 469 d24O d24V d24M = true := and_l d24d25T
theorem d25T : leRR (callQ Tryz.prog tabs sumsC 60 10 d25A (mkH 485 d25L)) 485 d25O d25V d25M = true := and_r d24d25T
theorem d26d27T : and (leRR (callQ Tryz.prog tabs sumsC 60 10 d26A (mkH 498 d26L)) 498 d26O d26V d26M) (leRR (callQ Tryz.prog tabs sumsC 60 10 d27A (mkH 514 d27L)) 514 d27O d27V d27M) = true := by kernel_rfl
theorem d26T : leRR (callQ Tryz.prog tabs sumsC 60 10 d26A (mkH 498 d26L)) 498 d26O d26V d26M = true := and_l d26d27T
theorem d27T : leRR (callQ Tryz.prog tabs sumsC 60 10 d27A (mkH 514 d27L)) 514 d27O d27V d27M = true := and_r d26d27T
end Go.Ev

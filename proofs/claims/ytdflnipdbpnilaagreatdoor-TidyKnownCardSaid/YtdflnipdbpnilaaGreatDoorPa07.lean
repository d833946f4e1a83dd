/- Pieces of the run: what the evaluator tells of a call. -/
import Derived.Test.YtdflnipdbpnilaaGreatDoorYA
set_option linter.unusedVariables false
set_option maxRecDepth 1000000
namespace Go.Ev
open Go Go.Proofs
theorem d16d17T : and (leRR (callQ Tryz.prog tabs sumsC 60 10 d16A (mkH 353 d16L)) 353 d16O d16V d16M) (leRR (callQ Tryz.prog tabs sumsC 60 10 d17A (mkH 369 d17L)) 369 d17O d17V d17M) = true := by kernel_rfl
theorem d16T : leRR (callQ Tryz.prog tabs sumsC 60 10 d16A (mkH 353 d16L)) 353 d16O d16V d16M = true := and_l d16d17T
theorem d17T : leRR (callQ Tryz.prog tabs sumsC 60 10 d17A (mkH 369 d17L)) 369 d17O d17V d17M = true := and_r d16d17T
theorem d18d19T : and (leRR (callQ Tryz.prog tabs sumsC 60 10 d18A (mkH 382 d18L)) 382 d18O d18V d18M) (leRR (callQ Tryz.prog tabs sumsC 60 10 d19A (mkH 398 d19L)) 398 d19O d19V d19M) = true := by kernel_rfl
theorem d18T : leRR (callQ Tryz.prog tabs sumsC 60 10 d18A (mkH 382 d18L)) 382 d18O d18V d18M = true := and_l d18d19T
theorem d19T : leRR (callQ Tryz.prog tabs sumsC 60 10 d19A (mkH 398 d19L)) 398 d19O d19V d19M = true := and_r d18d19T
end Go.Ev

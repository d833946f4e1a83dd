/- Pieces of the run: what the evaluator tells of a call. -/
import Derived.Test.YtdflnipdbpnilaaGreatDoorYA
set_option linter.unusedVariables false
set_option maxRecDepth 1000000
namespace Go.Ev
open Go Go.Proofs
theorem d28d29T : and (leRR (callQ Tryz.prog tabs sumsC 60 10 d28A (mkH 527 d28L)) 527 d28O d28V d28M) (leRR (callQ Tryz.prog tabs sumsC 60 10 d29A (mkH 543 d29L)) 543 d29O d29V d29M) = true := by kernel_rfl
theorem d28T : leRR (callQ Tryz.prog tabs sumsC 60 10 d28A (mkH 527 d28L)) 527 d28O d28V d28M = true := and_l d28d29T
theorem d29T : leRR (callQ Tryz.prog tabs sumsC 60 10 d29A (mkH 543 d29L)) 543 d29O d29V d29M = true := and_r d28d29T
theorem d30d31T : and (leRR (callQ Tryz.prog tabs sumsC 60 10 d30A (mkH 556 d30L)) 556 d30O d30V d30M) (leRR (callQ Tryz.prog tabs sumsC 60 10 d31A (mkH 572 d31L)) 572 d31O d31V d31M) = true := by kernel_rfl
theorem d30T : leRR (callQ Tryz.prog tabs sumsC 60 10 d30A (mkH 556 d30L)) 556 d30O d30V d30M = true := and_l d30d31T
theorem d31T : leRR (callQ Tryz.prog tabs sumsC 60 10 d31A (mkH 572 d31L)) 572 d31O d31V d31M = true := and_r d30d31T
end Go.Ev

/- Pieces of the run: what the evaluator tells of a call. -/
import Derived.Test.YtdflnipdbpnilaaGreatDoorYA
set_option linter.unusedVariables false
set_option maxRecDepth 1000000
namespace Go.Ev
open Go Go.Proofs
theorem d36d37T : and (leRR (callQ Tryz.prog tabs sumsC 60 10 d36A (mkH 643 d36L)) 643 d36O d36V d36M) (leRR (callQ Tryz.prog tabs sumsC 60 10 d37A (mkH 659 d37L)) 659 d37O d37V d37M) = true := by kernel_rfl
theorem d36T : leRR (callQ Tryz.prog tabs sumsC 60 10 d36A (mkH 643 d36L)) 643 d36O d36V d36M = true := and_l d36d37T
theorem d37T : leRR (callQ Tryz.prog tabs sumsC 60 10 d37A (mkH 659 d37L)) 659 d37O d37V d37M = true := and_r d36d37T
theorem d38d39T : and (leRR (callQ Tryz.prog tabs sumsC 60 10 d38A (mkH 672 d38L)) 672 d38O d38V d38M) (leRR (callQ Tryz.prog tabs sumsC 60 10 d39A (mkH 688 d39L)) 688 d39O d39V d39M) = true := by kernel_rfl
theorem d38T : leRR (callQ Tryz.prog tabs sumsC 60 10 d38A (mkH 672 d38L)) 672 d38O d38V d38M = true := and_l d38d39T
theorem d39T : leRR (callQ Tryz.prog tabs sumsC 60 10 d39A (mkH 688 d39L)) 688 d39O d39V d39M = true := and_r d38d39T
end Go.Ev

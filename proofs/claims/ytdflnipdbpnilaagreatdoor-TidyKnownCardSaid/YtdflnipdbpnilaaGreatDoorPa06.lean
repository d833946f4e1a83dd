/- Pieces of the run: what the evaluator tells of a call. -/
import Derived.Test.YtdflnipdbpnilaaGreatDoorYA
set_option linter.unusedVariables false
set_option maxRecDepth 1000000
namespace Go.Ev
open Go Go.Proofs
theorem d12d13T : and (leRR (callQ Tryz.prog tabs sumsC 60 10 d12A (mkH 295 d12L)) 295 d12O d12V d12M) (leRR (callQ Tryz.prog tabs sumsC 60 10 d13A (mkH 311 d13L)) 311 d13O d13V d13M) = true := by kernel_rfl
theorem d12T : leRR (callQ Tryz.prog tabs sumsC 60 10 d12A (mkH 295 d12L)) 295 d12O d12V d12M = true := and_l d12d13T
theorem d13T : leRR (callQ Tryz.prog tabs sumsC 60 10 d13A (mkH 311 d13L)) 311 d13O d13V d13M = true := and_r d12d13T
theorem d14d15T : and (leRR (callQ Tryz.prog tabs sumsC 60 10 d14A (mkH 324 d14L)) 324 d14O d14V d14M) (leRR (callQ Tryz.prog tabs sumsC 60 10 d15A (mkH 340 d15L)) 340 d15O d15V d15M) = true := by kernel_rfl
theorem d14T : leRR (callQ Tryz.prog tabs sumsC 60 10 d14A (mkH 324 d14L)) 324 d14O d14V d14M = true := and_l d14d15T
theorem d15T : leRR (callQ Tryz.prog tabs sumsC 60 10 d15A (mkH 340 d15L)) 340 d15O d15V d15M = true := and_r d14d15T
end Go.Ev

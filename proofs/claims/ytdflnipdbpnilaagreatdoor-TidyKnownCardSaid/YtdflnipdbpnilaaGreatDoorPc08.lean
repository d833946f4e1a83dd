/- Pieces of the run: what the evaluator tells of a call. -/
import Derived.Test.YtdflnipdbpnilaaGreatDoorYC
set_option linter.unusedVariables false
set_option maxRecDepth 1000000
namespace Go.Ev
open Go Go.Proofs
theorem e36T : leRR (callQ Tryz.prog tabs sumsC 60 10 e36A (mkH 1414 e36L)) 1414 e36O e36V e36M = true := by kernel_rfl
theorem e37T : leRR (callQ Tryz.prog tabs sumsC 60 10 e37A (mkH 1433 e37L)) 1433 e37O e37V e37M = true := by kernel_rfl
end Go.Ev

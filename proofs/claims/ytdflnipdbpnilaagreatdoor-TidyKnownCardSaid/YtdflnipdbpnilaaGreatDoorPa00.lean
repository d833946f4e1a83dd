/- Pieces of the run: what the evaluator tells of a call. -/
import Derived.Test.YtdflnipdbpnilaaGreatDoorYA
set_option linter.unusedVariables false
set_option maxRecDepth 1000000
namespace Go.Ev
open Go Go.Proofs
theorem opT : leRR (callQ Tryz.prog tabs sumsC 60 14 opA (mkH 11 opL)) 11 opO opV opM = true := by kernel_rfl
theorem raT : leRR (callQ Tryz.prog tabs sumsC 60 10 raA (mkH 35 raL)) 35 raO raV raM = true := by kernel_rfl
end Go.Ev

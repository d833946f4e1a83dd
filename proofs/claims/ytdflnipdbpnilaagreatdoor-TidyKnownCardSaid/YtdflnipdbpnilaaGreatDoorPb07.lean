/- Pieces of the run: what the evaluator tells of a call. -/
import Derived.Test.YtdflnipdbpnilaaGreatDoorYB
set_option linter.unusedVariables false
set_option maxRecDepth 1000000
namespace Go.Ev
open Go Go.Proofs
theorem e14T : leRR (callQ Tryz.prog tabs sumsC 60 10 e14A (mkH 976 e14L)) 976 e14O e14V e14M = true := by kernel_rfl
theorem e15T : leRR (callQ Tryz.prog tabs sumsC 60 10 e15A (mkH 995 e15L)) 995 e15O e15V e15M = true := by kernel_rfl
end Go.Ev

/- Pieces of the run: what the evaluator tells of a call. -/
import Derived.Test.YtdflnipdbpnilaaGreatDoorYB
set_option linter.unusedVariables false
set_option maxRecDepth 1000000
namespace Go.Ev
open Go Go.Proofs
theorem e12T : leRR (callQ Tryz.prog tabs sumsC 60 10 e12A (mkH 936 e12L)) 936 e12O e12V e12M = true := by kernel_rfl
theorem e13T : leRR (callQ Tryz.prog tabs sumsC 60 10 e13A (mkH 955 e13L)) 955 e13O e13V e13M = true := by kernel_rfl
end Go.Ev

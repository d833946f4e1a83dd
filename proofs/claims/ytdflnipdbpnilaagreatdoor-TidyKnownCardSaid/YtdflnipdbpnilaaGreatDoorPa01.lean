/- Pieces of the run: what the evaluator tells of a call. -/
import Derived.Test.YtdflnipdbpnilaaGreatDoorYA
set_option linter.unusedVariables false
set_option maxRecDepth 1000000
namespace Go.Ev
open Go Go.Proofs
theorem rbT : leRR (callQ Tryz.prog tabs sumsC 60 10 rbA (mkH 42 rbL)) 42 rbO rbV rbM = true := by kernel_rfl
theorem rcT : leRR (callQ Tryz.prog tabs sumsC 60 12 rcA (mkH 49 rcL)) 49 rcO rcV rcM = true := by kernel_rfl
end Go.Ev

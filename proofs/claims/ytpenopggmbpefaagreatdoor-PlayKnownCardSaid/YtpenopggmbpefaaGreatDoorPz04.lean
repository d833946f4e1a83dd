/- Pieces of the run: what the evaluator tells of a call. -/
import Derived.Test.YtpenopggmbpefaaGreatDoorYA
set_option linter.unusedVariables false
set_option maxRecDepth 1000000
namespace Go.Ev
open Go Go.Proofs
theorem rbodT : (and (leRR (callQ Tryz.prog tabs sumsC 60 4 rbA (mkH 366 rbL)) 366 rbO rbV rbM) (leRR (callQ Tryz.prog tabs sumsC 60 8 odA (mkH 728 odL)) 728 odO odV odM)) = true := by kernel_rfl
theorem rbT : leRR (callQ Tryz.prog tabs sumsC 60 4 rbA (mkH 366 rbL)) 366 rbO rbV rbM = true := and_l rbodT
theorem odT : leRR (callQ Tryz.prog tabs sumsC 60 8 odA (mkH 728 odL)) 728 odO odV odM = true := (and_r rbodT)
theorem rbP : okP rbA 366 rbL 366 rbM = true := by kernel_rfl
theorem odP : okP odA 728 odL 750 odM = true := by kernel_rfl
end Go.Ev

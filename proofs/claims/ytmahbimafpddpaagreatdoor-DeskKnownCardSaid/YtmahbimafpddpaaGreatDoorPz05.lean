/- Pieces of the run: what the evaluator tells of a call. -/
import Derived.Test.YtmahbimafpddpaaGreatDoorYA
set_option linter.unusedVariables false
set_option maxRecDepth 1000000
namespace Go.Ev
open Go Go.Proofs
theorem kasbT : and (leRR (callQ Tryz.prog tabs sumsC 60 8 kaA (mkH 115 kaL)) 115 kaO kaV kaM) (leRR (callQ Tryz.prog tabs sumsC 60 11 sbA (mkH 125 sbL)) 125 sbO sbV sbM) = true := by kernel_rfl
theorem kaT : leRR (callQ Tryz.prog tabs sumsC 60 8 kaA (mkH 115 kaL)) 115 kaO kaV kaM = true := and_l kasbT
theorem sbT : leRR (callQ Tryz.prog tabs sumsC 60 11 sbA (mkH 125 sbL)) 125 sbO sbV sbM = true := and_r kasbT
end Go.Ev

/- Pieces of the run: what the evaluator tells of a call. -/
import Derived.Test.YtmahbimafpddpaaGreatDoorYA
set_option linter.unusedVariables false
set_option maxRecDepth 1000000
namespace Go.Ev
open Go Go.Proofs
theorem scsdT : and (leRR (callQ Tryz.prog tabs sumsC 60 11 scA (mkH 236 scL)) 236 scO scV scM) (leRR (callQ Tryz.prog tabs sumsC 60 11 sdA (mkH 272 sdL)) 272 sdO sdV sdM) = true := by kernel_rfl
theorem scT : leRR (callQ Tryz.prog tabs sumsC 60 11 scA (mkH 236 scL)) 236 scO scV scM = true := and_l scsdT
theorem sdT : leRR (callQ Tryz.prog tabs sumsC 60 11 sdA (mkH 272 sdL)) 272 sdO sdV sdM = true := and_r scsdT
end Go.Ev

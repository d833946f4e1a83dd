/- Pieces of the run: what the evaluator tells of a call. -/
import Derived.Test.YtmahbimafpddpaaGreatDoorYA
set_option linter.unusedVariables false
set_option maxRecDepth 1000000
namespace Go.Ev
open Go Go.Proofs
theorem opdaT : and (leRR (callQ Tryz.prog tabs sumsC 60 4 opA (mkH 8 opL)) 8 opO opV opM) (leRR (callQ Tryz.prog tabs sumsC 60 8 daA (mkH 41 daL)) 41 daO daV daM) = true := by kernel_rfl
theorem opT : leRR (callQ Tryz.prog tabs sumsC 60 4 opA (mkH 8 opL)) 8 opO opV opM = true := and_l opdaT
theorem daT : leRR (callQ Tryz.prog tabs sumsC 60 8 daA (mkH 41 daL)) 41 daO daV daM = true := and_r opdaT
end Go.Ev

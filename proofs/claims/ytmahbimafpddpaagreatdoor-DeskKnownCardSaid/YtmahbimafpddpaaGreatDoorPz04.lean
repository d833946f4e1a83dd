/- Pieces of the run: what the evaluator tells of a call. -/
import Derived.Test.YtmahbimafpddpaaGreatDoorYA
set_option linter.unusedVariables false
set_option maxRecDepth 1000000
namespace Go.Ev
open Go Go.Proofs
theorem k04saT : and (leRR (callQ Tryz.prog tabs sumsC 60 8 k04A (mkH 105 k04L)) 105 k04O k04V k04M) (leRR (callQ Tryz.prog tabs sumsC 60 11 saA (mkH 115 saL)) 115 saO saV saM) = true := by kernel_rfl
theorem k04T : leRR (callQ Tryz.prog tabs sumsC 60 8 k04A (mkH 105 k04L)) 105 k04O k04V k04M = true := and_l k04saT
theorem saT : leRR (callQ Tryz.prog tabs sumsC 60 11 saA (mkH 115 saL)) 115 saO saV saM = true := and_r k04saT
end Go.Ev

/- Pieces of the run: what the evaluator tells of a call. -/
import Derived.Test.YtmahbimafpddpaaGreatDoorYA
set_option linter.unusedVariables false
set_option maxRecDepth 1000000
namespace Go.Ev
open Go Go.Proofs
theorem dbdcT : and (leRR (callQ Tryz.prog tabs sumsC 60 8 dbA (mkH 59 dbL)) 59 dbO dbV dbM) (leRR (callQ Tryz.prog tabs sumsC 60 8 dcA (mkH 70 dcL)) 70 dcO dcV dcM) = true := by kernel_rfl
theorem dbT : leRR (callQ Tryz.prog tabs sumsC 60 8 dbA (mkH 59 dbL)) 59 dbO dbV dbM = true := and_l dbdcT
theorem dcT : leRR (callQ Tryz.prog tabs sumsC 60 8 dcA (mkH 70 dcL)) 70 dcO dcV dcM = true := and_r dbdcT
end Go.Ev

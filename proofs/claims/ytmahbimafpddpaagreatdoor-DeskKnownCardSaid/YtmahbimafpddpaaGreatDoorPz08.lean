/- Pieces of the run: what the evaluator tells of a call. -/
import Derived.Test.YtmahbimafpddpaaGreatDoorYA
set_option linter.unusedVariables false
set_option maxRecDepth 1000000
namespace Go.Ev
open Go Go.Proofs
theorem l04l05T : and (leRR (callQ Tryz.prog tabs sumsC 60 8 l04A (mkH 216 l04L)) 216 l04O l04V l04M) (leRR (callQ Tryz.prog tabs sumsC 60 8 l05A (mkH 229 l05L)) 229 l05O l05V l05M) = true := by kernel_rfl
theorem l04T : leRR (callQ Tryz.prog tabs sumsC 60 8 l04A (mkH 216 l04L)) 216 l04O l04V l04M = true := and_l l04l05T
theorem l05T : leRR (callQ Tryz.prog tabs sumsC 60 8 l05A (mkH 229 l05L)) 229 l05O l05V l05M = true := and_r l04l05T
end Go.Ev

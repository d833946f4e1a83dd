/- Pieces of the run: what the evaluator tells of a call. -/
import Derived.Test.YtdflnipdbpnilaaGreatDoorYA
set_option linter.unusedVariables false
set_option maxRecDepth 1000000
namespace Go.Ev
open Go Go.Proofs
theorem d20d21T : and (leRR (callQ Tryz.prog tabs sumsC 60 10 d20A (mkH 411 d20L)) 411 d20O d20V d20M) (leRR (callQ Tryz.prog tabs sumsC 60 10 d21A (mkH 427 d21L)) 427 d21O d21V d21M) = true := by kernel_rfl
theorem d20T : leRR (callQ Tryz.prog tabs sumsC 60 10 d20A (mkH 411 d20L)) 411 d20O d20V d20M = true := and_l d20d21T
theorem d21T : leRR (callQ Tryz.prog tabs sumsC 60 10 d21A (mkH 427 d21L)) 427 d21O d21V d21M = true := and_r d20d21T
theorem d22d23T : and (leRR (callQ Tryz.prog tabs sumsC 60 10 d22A (mkH 440 d22L)) 440 d22O d22V d22M) (leRR (callQ Tryz.prog tabs sumsC 60 10 d23A (mkH 456 d23L)) 456 d23O d23V d23M) = true := by kernel_rfl
theorem d22T : leRR (callQ Tryz.prog tabs sumsC 60 10 d22A (mkH 440 d22L)) 440 d22O d22V d22M = true := and_l d22d23T
theorem d23T : leRR (callQ Tryz.prog tabs sumsC 60 10 d23A (mkH 456 d23L)) 456 d23O d23V d23M = true := and_r d22d23T
end Go.Ev

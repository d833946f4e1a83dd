/- Pieces of the run: what the evaluator tells of a call. -/
import Derived.Test.YtdflnipdbpnilaaGreatDoorYA
set_option linter.unusedVariables false
set_option maxRecDepth 1000000
namespace Go.Ev
open Go Go.Proofs
theorem d08d09T : and (leRR (callQ Tryz.prog tabs sumsC 60 10 d08A (mkH 237 d08L)) 237 d08O d08V d08M) (leRR (callQ Tryz.prog tabs sumsC 60 10 d09A (mkH 253 d09L)) 253 d09O d09V d09M) = true := by kernel_rfl
theorem d08T : leRR (callQ Tryz.prog tabs sumsC 60 10 d08A (mkH 237 d08L)) 237 d08O d08V d08M = true := and_l d08d09T
theorem d09T : leRR (callQ Tryz.prog tabs sumsC 60 10 d09A (mkH 253 d09L)) 253 d09O d09V d09M = true := and_r d08d09T
theorem d10d11T : and (leRR (callQ Tryz.prog tabs sumsC 60 10 d10A (mkH 266 d10L)) 266 d10O d10V d10M) (leRR (callQ Tryz.prog tabs sumsC 60 10 d11A (mkH 282 d11L)) 282 d11O d11V d11M) = true := by kernel_rfl
theorem d10T : leRR (callQ Tryz.prog tabs sumsC 60 10 d10A (mkH 266 d10L)) 266 d10O d10V d10M = true := and_l d10d11T
theorem d11T : leRR (callQ Tryz.prog tabs sumsC 60 10 d11A (mkH 282 d11L)) 282 d11O d11V d11M = true := and_r d10d11T
end Go.Ev

/- Pieces of the run: what the evaluator tells of a call. -/
import Derived.Test.YtibaafmjbmnpjaaGreatDoorVYA
set_option linter.unusedVariables false
set_option maxRecDepth 1000000
namespace Go.Ev
open Go Go.Proofs
theorem w003w000T : (and (leRR (callQ Tryz.prog tabs sumsC 60 9 w003A (mkH 59 w003L)) 59 w003O w003V w003M) (and (leRR (callQ Tryz.prog tabs sumsC 60 9 w004A (mkH 70 w004L)) 70 w004O w004V w004M) (leRR (callQ Tryz.prog tabs w004S 60 6 w000A (mkH 8 w000L)) 8 w000O w000V w000M))) = true := by kernel_rfl
theorem w003T : leRR (callQ Tryz.prog tabs sumsC 60 9 w003A (mkH 59 w003L)) 59 w003O w003V w003M = true := and_l w003w000T
theorem w004T : leRR (callQ Tryz.prog tabs sumsC 60 9 w004A (mkH 70 w004L)) 70 w004O w004V w004M = true := and_l (and_r w003w000T)
theorem w000T : leRR (callQ Tryz.prog tabs w004S 60 6 w000A (mkH 8 w000L)) 8 w000O w000V w000M = true := (and_r (and_r w003w000T))
theorem w003P : okP w003A 59 w003L 65 w003M = true := by kernel_rfl
theorem w004P : okP w004A 70 w004L 72 w004M = true := by kernel_rfl
theorem w000P : okP w000A 8 w000L 8 w000M = true := by kernel_rfl
theorem w005w006T : (and (leRR (callQ Tryz.prog tabs sumsC 60 7 w005A (mkH 8 w005L)) 8 w005O w005V w005M) (leRR (callQ Tryz.prog tabs sumsC 60 9 w006A (mkH 43 w006L)) 43 w006O w006V w006M)) = true := by kernel_rfl
theorem w005T : leRR (callQ Tryz.prog tabs sumsC 60 7 w005A (mkH 8 w005L)) 8 w005O w005V w005M = true := and_l w005w006T
theorem w006T : leRR (callQ Tryz.prog tabs sumsC 60 9 w006A (mkH 43 w006L)) 43 w006O w006V w006M = true := (and_r w005w006T)
theorem w005P : okP w005A 8 w005L 43 w005M = true := by kernel_rfl
theorem w006P : okP w006A 43 w006L 51 w006M = true := by kernel_rfl
end Go.Ev

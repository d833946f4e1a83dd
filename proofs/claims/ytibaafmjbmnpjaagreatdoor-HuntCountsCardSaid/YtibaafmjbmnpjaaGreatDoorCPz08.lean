/- Pieces of the run: what the evaluator tells of a call. -/
import Derived.Test.YtibaafmjbmnpjaaGreatDoorCYB
set_option linter.unusedVariables false
set_option maxRecDepth 1000000
namespace Go.Ev
open Go Go.Proofs
theorem e001T : leRR (callQ Tryz.prog tabs sumsC 60 198 e001A (mkH 1003 e001L)) 1003 e001O e001V e001M = true := by kernel_rfl
theorem e001P : okP e001A 1003 e001L 1003 e001M = true := by kernel_rfl
theorem c045T : leRR (callQ Tryz.prog tabs e001S 60 42 c045A (mkH 497 c045L)) 497 c045N c045V c045M = true := by kernel_rfl
theorem c045P : okP c045A 497 c045L 520 c045M = true := by kernel_rfl
theorem c046c000T : (and (leRR (callQ Tryz.prog tabs sumsC 60 110 c046A (mkH 520 c046L)) 520 c046O c046V c046M) (and (leRR (callQ Tryz.prog tabs c046S 60 62 c041A (mkH 451 c041L)) 451 c041O c041V c041M) (and (leRR (callQ Tryz.prog tabs c041S 60 38 c037A (mkH 384 c037L)) 384 c037O c037V c037M) (leRR (callQ Tryz.prog tabs c037S 60 17 c000A (mkH 253 c000L)) 253 c000O c000V c000M)))) = true := by kernel_rfl
theorem c046T : leRR (callQ Tryz.prog tabs sumsC 60 110 c046A (mkH 520 c046L)) 520 c046O c046V c046M = true := and_l c046c000T
theorem c041T : leRR (callQ Tryz.prog tabs c046S 60 62 c041A (mkH 451 c041L)) 451 c041O c041V c041M = true := and_l (and_r c046c000T)
theorem c037T : leRR (callQ Tryz.prog tabs c041S 60 38 c037A (mkH 384 c037L)) 384 c037O c037V c037M = true := and_l (and_r (and_r c046c000T))
theorem c000T : leRR (callQ Tryz.prog tabs c037S 60 17 c000A (mkH 253 c000L)) 253 c000O c000V c000M = true := (and_r (and_r (and_r c046c000T)))
theorem c046P : okP c046A 520 c046L 525 c046M = true := by kernel_rfl
theorem c041P : okP c041A 451 c041L 457 c041M = true := by kernel_rfl
theorem c037P : okP c037A 384 c037L 392 c037M = true := by kernel_rfl
theorem c000P : okP c000A 253 c000L 254 c000M = true := by kernel_rfl
end Go.Ev

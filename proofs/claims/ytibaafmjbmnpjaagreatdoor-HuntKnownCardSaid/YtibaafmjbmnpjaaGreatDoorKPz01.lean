/- Pieces of the run: what the evaluator tells of a call. -/
import Derived.Test.YtibaafmjbmnpjaaGreatDoorKYB
set_option linter.unusedVariables false
set_option maxRecDepth 1000000
namespace Go.Ev
open Go Go.Proofs
theorem h004h005T : (and (leRR (callQ Tryz.prog tabs sumsC 60 42 h004A (mkH 305 h004L)) 305 h004O h004V h004M) (leRR (callQ Tryz.prog tabs sumsC 60 110 h005A (mkH 327 h005L)) 327 h005O h005V h005M)) = true := by kernel_rfl
theorem h004T : leRR (callQ Tryz.prog tabs sumsC 60 42 h004A (mkH 305 h004L)) 305 h004O h004V h004M = true := and_l h004h005T
theorem h005T : leRR (callQ Tryz.prog tabs sumsC 60 110 h005A (mkH 327 h005L)) 327 h005O h005V h005M = true := (and_r h004h005T)
theorem h004P : okP h004A 305 h004L 327 h004M = true := by kernel_rfl
theorem h005P : okP h005A 327 h005L 328 h005M = true := by kernel_rfl
theorem h135T : leRR (callQ Tryz.prog tabs sumsC 60 242 h135A (mkH 1404 h135L)) 1404 h135O h135V h135M = true := by kernel_rfl
theorem h135P : okP h135A 1404 h135L 1405 h135M = true := by kernel_rfl
theorem h136T : leRR (callQ Tryz.prog tabs sumsC 60 243 h136A (mkH 1405 h136L)) 1405 h136O h136V h136M = true := by kernel_rfl
theorem h136P : okP h136A 1405 h136L 1407 h136M = true := by kernel_rfl
theorem h137T : leRR (callQ Tryz.prog tabs sumsC 60 243 h137A (mkH 1447 h137L)) 1447 h137O h137V h137M = true := by kernel_rfl
theorem h137P : okP h137A 1447 h137L 1449 h137M = true := by kernel_rfl
theorem h138T : leRR (callQ Tryz.prog tabs sumsC 60 243 h138A (mkH 1489 h138L)) 1489 h138O h138V h138M = true := by kernel_rfl
theorem h138P : okP h138A 1489 h138L 1491 h138M = true := by kernel_rfl
theorem h139T : leRR (callQ Tryz.prog tabs sumsC 60 243 h139A (mkH 1528 h139L)) 1528 h139O h139V h139M = true := by kernel_rfl
theorem h139P : okP h139A 1528 h139L 1530 h139M = true := by kernel_rfl
theorem h140T : leRR (callQ Tryz.prog tabs sumsC 60 243 h140A (mkH 1567 h140L)) 1567 h140O h140V h140M = true := by kernel_rfl
theorem h140P : okP h140A 1567 h140L 1569 h140M = true := by kernel_rfl
theorem h132T : leRR (callQ Tryz.prog tabs h141S 60 127 h132A (mkH 1248 h132L)) 1248 h132N h132V h132M = true := by kernel_rfl
theorem h132P : okP h132A 1248 h132L 1253 h132M = true := by kernel_rfl
end Go.Ev

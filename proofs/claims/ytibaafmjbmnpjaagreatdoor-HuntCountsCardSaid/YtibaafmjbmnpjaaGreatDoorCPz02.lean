/- Pieces of the run: what the evaluator tells of a call. -/
import Derived.Test.YtibaafmjbmnpjaaGreatDoorCYA
set_option linter.unusedVariables false
set_option maxRecDepth 1000000
namespace Go.Ev
open Go Go.Proofs
theorem c016c019T : (and (leRR (callQ Tryz.prog tabs sumsC 60 42 c016A (mkH 357 c016L)) 357 c016O c016V c016M) (and (leRR (callQ Tryz.prog tabs sumsC 60 110 c017A (mkH 379 c017L)) 379 c017O c017V c017M) (and (leRR (callQ Tryz.prog tabs c017S 60 62 c012A (mkH 318 c012L)) 318 c012O c012V c012M) (and (leRR (callQ Tryz.prog tabs c012S 60 38 c009A (mkH 267 c009L)) 267 c009O c009V c009M) (leRR (callQ Tryz.prog tabs sumsC 60 42 c019A (mkH 294 c019L)) 294 c019O c019V c019M))))) = true := by kernel_rfl
theorem c016T : leRR (callQ Tryz.prog tabs sumsC 60 42 c016A (mkH 357 c016L)) 357 c016O c016V c016M = true := and_l c016c019T
theorem c017T : leRR (callQ Tryz.prog tabs sumsC 60 110 c017A (mkH 379 c017L)) 379 c017O c017V c017M = true := and_l (and_r c016c019T)
theorem c012T : leRR (callQ Tryz.prog tabs c017S 60 62 c012A (mkH 318 c012L)) 318 c012O c012V c012M = true := and_l (and_r (and_r c016c019T))
theorem c009T : leRR (callQ Tryz.prog tabs c012S 60 38 c009A (mkH 267 c009L)) 267 c009O c009V c009M = true := and_l (and_r (and_r (and_r c016c019T)))
theorem c019T : leRR (callQ Tryz.prog tabs sumsC 60 42 c019A (mkH 294 c019L)) 294 c019O c019V c019M = true := (and_r (and_r (and_r (and_r c016c019T))))
theorem c016P : okP c016A 357 c016L 379 c016M = true := by kernel_rfl
theorem c017P : okP c017A 379 c017L 380 c017M = true := by kernel_rfl
theorem c012P : okP c012A 318 c012L 320 c012M = true := by kernel_rfl
theorem c009P : okP c009A 267 c009L 271 c009M = true := by kernel_rfl
theorem c019P : okP c019A 294 c019L 316 c019M = true := by kernel_rfl
theorem c020c023T : (and (leRR (callQ Tryz.prog tabs sumsC 60 60 c020A (mkH 326 c020L)) 326 c020O c020V c020M) (and (leRR (callQ Tryz.prog tabs sumsC 60 42 c022A (mkH 353 c022L)) 353 c022O c022V c022M) (leRR (callQ Tryz.prog tabs sumsC 60 110 c023A (mkH 375 c023L)) 375 c023O c023V c023M))) = true := by kernel_rfl
theorem c020T : leRR (callQ Tryz.prog tabs sumsC 60 60 c020A (mkH 326 c020L)) 326 c020O c020V c020M = true := and_l c020c023T
theorem c022T : leRR (callQ Tryz.prog tabs sumsC 60 42 c022A (mkH 353 c022L)) 353 c022O c022V c022M = true := and_l (and_r c020c023T)
theorem c023T : leRR (callQ Tryz.prog tabs sumsC 60 110 c023A (mkH 375 c023L)) 375 c023O c023V c023M = true := (and_r (and_r c020c023T))
theorem c020P : okP c020A 326 c020L 340 c020M = true := by kernel_rfl
theorem c022P : okP c022A 353 c022L 375 c022M = true := by kernel_rfl
theorem c023P : okP c023A 375 c023L 376 c023M = true := by kernel_rfl
end Go.Ev

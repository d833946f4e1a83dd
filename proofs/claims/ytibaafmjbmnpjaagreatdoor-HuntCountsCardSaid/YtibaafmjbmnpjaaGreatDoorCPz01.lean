/- Pieces of the run: what the evaluator tells of a call. -/
import Derived.Test.YtibaafmjbmnpjaaGreatDoorCYA
set_option linter.unusedVariables false
set_option maxRecDepth 1000000
namespace Go.Ev
open Go Go.Proofs
theorem c010c011T : (and (leRR (callQ Tryz.prog tabs sumsC 60 42 c010A (mkH 272 c010L)) 272 c010O c010V c010M) (leRR (callQ Tryz.prog tabs sumsC 60 60 c011A (mkH 304 c011L)) 304 c011O c011V c011M)) = true := by kernel_rfl
theorem c010T : leRR (callQ Tryz.prog tabs sumsC 60 42 c010A (mkH 272 c010L)) 272 c010O c010V c010M = true := and_l c010c011T
theorem c011T : leRR (callQ Tryz.prog tabs sumsC 60 60 c011A (mkH 304 c011L)) 304 c011O c011V c011M = true := (and_r c010c011T)
theorem c010P : okP c010A 272 c010L 294 c010M = true := by kernel_rfl
theorem c011P : okP c011A 304 c011L 314 c011M = true := by kernel_rfl
theorem c013c015T : (and (leRR (callQ Tryz.prog tabs sumsC 60 42 c013A (mkH 328 c013L)) 328 c013O c013V c013M) (and (leRR (callQ Tryz.prog tabs sumsC 60 110 c014A (mkH 350 c014L)) 350 c014O c014V c014M) (leRR (callQ Tryz.prog tabs sumsC 60 111 c015A (mkH 351 c015L)) 351 c015O c015V c015M))) = true := by kernel_rfl
theorem c013T : leRR (callQ Tryz.prog tabs sumsC 60 42 c013A (mkH 328 c013L)) 328 c013O c013V c013M = true := and_l c013c015T
theorem c014T : leRR (callQ Tryz.prog tabs sumsC 60 110 c014A (mkH 350 c014L)) 350 c014O c014V c014M = true := and_l (and_r c013c015T)
theorem c015T : leRR (callQ Tryz.prog tabs sumsC 60 111 c015A (mkH 351 c015L)) 351 c015O c015V c015M = true := (and_r (and_r c013c015T))
theorem c013P : okP c013A 328 c013L 350 c013M = true := by kernel_rfl
theorem c014P : okP c014A 350 c014L 351 c014M = true := by kernel_rfl
theorem c015P : okP c015A 351 c015L 351 c015M = true := by kernel_rfl
end Go.Ev

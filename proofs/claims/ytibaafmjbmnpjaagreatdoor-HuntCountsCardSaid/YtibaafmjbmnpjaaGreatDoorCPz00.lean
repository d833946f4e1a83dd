/- Pieces of the run: what the evaluator tells of a call. -/
import Derived.Test.YtibaafmjbmnpjaaGreatDoorCYA
set_option linter.unusedVariables false
set_option maxRecDepth 1000000
namespace Go.Ev
open Go Go.Proofs
theorem c002c005T : (and (leRR (callQ Tryz.prog tabs sumsC 60 42 c002A (mkH 260 c002L)) 260 c002O c002V c002M) (and (leRR (callQ Tryz.prog tabs sumsC 60 42 c004A (mkH 305 c004L)) 305 c004O c004V c004M) (leRR (callQ Tryz.prog tabs sumsC 60 110 c005A (mkH 327 c005L)) 327 c005O c005V c005M))) = true := by kernel_rfl
theorem c002T : leRR (callQ Tryz.prog tabs sumsC 60 42 c002A (mkH 260 c002L)) 260 c002O c002V c002M = true := and_l c002c005T
theorem c004T : leRR (callQ Tryz.prog tabs sumsC 60 42 c004A (mkH 305 c004L)) 305 c004O c004V c004M = true := and_l (and_r c002c005T)
theorem c005T : leRR (callQ Tryz.prog tabs sumsC 60 110 c005A (mkH 327 c005L)) 327 c005O c005V c005M = true := (and_r (and_r c002c005T))
theorem c002P : okP c002A 260 c002L 282 c002M = true := by kernel_rfl
theorem c004P : okP c004A 305 c004L 327 c004M = true := by kernel_rfl
theorem c005P : okP c005A 327 c005L 328 c005M = true := by kernel_rfl
theorem c006c001T : (and (leRR (callQ Tryz.prog tabs sumsC 60 111 c006A (mkH 328 c006L)) 328 c006O c006V c006M) (and (leRR (callQ Tryz.prog tabs sumsC 60 42 c007A (mkH 334 c007L)) 334 c007O c007V c007M) (and (leRR (callQ Tryz.prog tabs sumsC 60 110 c008A (mkH 356 c008L)) 356 c008O c008V c008M) (and (leRR (callQ Tryz.prog tabs c008S 60 62 c003A (mkH 296 c003L)) 296 c003O c003V c003M) (leRR (callQ Tryz.prog tabs c003S 60 38 c001A (mkH 255 c001L)) 255 c001O c001V c001M))))) = true := by kernel_rfl
theorem c006T : leRR (callQ Tryz.prog tabs sumsC 60 111 c006A (mkH 328 c006L)) 328 c006O c006V c006M = true := and_l c006c001T
theorem c007T : leRR (callQ Tryz.prog tabs sumsC 60 42 c007A (mkH 334 c007L)) 334 c007O c007V c007M = true := and_l (and_r c006c001T)
theorem c008T : leRR (callQ Tryz.prog tabs sumsC 60 110 c008A (mkH 356 c008L)) 356 c008O c008V c008M = true := and_l (and_r (and_r c006c001T))
theorem c003T : leRR (callQ Tryz.prog tabs c008S 60 62 c003A (mkH 296 c003L)) 296 c003O c003V c003M = true := and_l (and_r (and_r (and_r c006c001T)))
theorem c001T : leRR (callQ Tryz.prog tabs c003S 60 38 c001A (mkH 255 c001L)) 255 c001O c001V c001M = true := (and_r (and_r (and_r (and_r c006c001T))))
theorem c006P : okP c006A 328 c006L 328 c006M = true := by kernel_rfl
theorem c007P : okP c007A 334 c007L 356 c007M = true := by kernel_rfl
theorem c008P : okP c008A 356 c008L 357 c008M = true := by kernel_rfl
theorem c003P : okP c003A 296 c003L 298 c003M = true := by kernel_rfl
theorem c001P : okP c001A 255 c001L 259 c001M = true := by kernel_rfl
end Go.Ev

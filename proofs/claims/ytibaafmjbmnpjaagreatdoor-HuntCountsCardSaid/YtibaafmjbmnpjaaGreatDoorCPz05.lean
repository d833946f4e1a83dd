/- Pieces of the run: what the evaluator tells of a call. -/
import Derived.Test.YtibaafmjbmnpjaaGreatDoorCYB
set_option linter.unusedVariables false
set_option maxRecDepth 1000000
namespace Go.Ev
open Go Go.Proofs
theorem c033c034T : (and (leRR (callQ Tryz.prog tabs sumsC 60 110 c033A (mkH 407 c033L)) 407 c033O c033V c033M) (leRR (callQ Tryz.prog tabs sumsC 60 111 c034A (mkH 412 c034L)) 412 c034O c034V c034M)) = true := by kernel_rfl
theorem c033T : leRR (callQ Tryz.prog tabs sumsC 60 110 c033A (mkH 407 c033L)) 407 c033O c033V c033M = true := and_l c033c034T
theorem c034T : leRR (callQ Tryz.prog tabs sumsC 60 111 c034A (mkH 412 c034L)) 412 c034O c034V c034M = true := (and_r c033c034T)
theorem c033P : okP c033A 407 c033L 412 c033M = true := by kernel_rfl
theorem c034P : okP c034A 412 c034L 414 c034M = true := by kernel_rfl
theorem d001T : leRR (callQ Tryz.prog tabs sumsC 60 198 d001A (mkH 926 d001L)) 926 d001O d001V d001M = true := by kernel_rfl
theorem d001P : okP d001A 926 d001L 926 d001M = true := by kernel_rfl
theorem c035T : leRR (callQ Tryz.prog tabs d001S 60 42 c035A (mkH 420 c035L)) 420 c035N c035V c035M = true := by kernel_rfl
theorem c035P : okP c035A 420 c035L 443 c035M = true := by kernel_rfl
end Go.Ev

/- Pieces of the run: what the evaluator tells of a call. -/
import Derived.Test.YtibaafmjbmnpjaaGreatDoorKYA
set_option linter.unusedVariables false
set_option maxRecDepth 1000000
namespace Go.Ev
open Go Go.Proofs
theorem h002T : leRR (callQ Tryz.prog tabs sumsC 60 42 h002A (mkH 260 h002L)) 260 h002O h002V h002M = true := by kernel_rfl
theorem h002P : okP h002A 260 h002L 282 h002M = true := by kernel_rfl
theorem h053h054T : (and (leRR (callQ Tryz.prog tabs sumsC 60 110 h053A (mkH 555 h053L)) 555 h053O h053V h053M) (leRR (callQ Tryz.prog tabs sumsC 60 111 h054A (mkH 560 h054L)) 560 h054O h054V h054M)) = true := by kernel_rfl
theorem h053T : leRR (callQ Tryz.prog tabs sumsC 60 110 h053A (mkH 555 h053L)) 555 h053O h053V h053M = true := and_l h053h054T
theorem h054T : leRR (callQ Tryz.prog tabs sumsC 60 111 h054A (mkH 560 h054L)) 560 h054O h054V h054M = true := (and_r h053h054T)
theorem h053P : okP h053A 555 h053L 560 h053M = true := by kernel_rfl
theorem h054P : okP h054A 560 h054L 562 h054M = true := by kernel_rfl
theorem h106h107T : (and (leRR (callQ Tryz.prog tabs sumsC 60 111 h106A (mkH 1155 h106L)) 1155 h106O h106V h106M) (leRR (callQ Tryz.prog tabs h128S 60 42 h107A (mkH 1163 h107L)) 1163 h107O h107V h107M)) = true := by kernel_rfl
theorem h106T : leRR (callQ Tryz.prog tabs sumsC 60 111 h106A (mkH 1155 h106L)) 1155 h106O h106V h106M = true := and_l h106h107T
theorem h107T : leRR (callQ Tryz.prog tabs h128S 60 42 h107A (mkH 1163 h107L)) 1163 h107O h107V h107M = true := (and_r h106h107T)
theorem h106P : okP h106A 1155 h106L 1157 h106M = true := by kernel_rfl
theorem h107P : okP h107A 1163 h107L 1186 h107M = true := by kernel_rfl
end Go.Ev

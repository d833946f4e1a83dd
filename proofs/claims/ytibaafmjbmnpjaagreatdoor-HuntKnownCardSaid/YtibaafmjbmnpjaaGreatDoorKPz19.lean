/- Pieces of the run: what the evaluator tells of a call. -/
import Derived.Test.YtibaafmjbmnpjaaGreatDoorKYA
set_option linter.unusedVariables false
set_option maxRecDepth 1000000
namespace Go.Ev
open Go Go.Proofs
theorem h085h087T : (and (leRR (callQ Tryz.prog tabs sumsC 60 42 h085A (mkH 1071 h085L)) 1071 h085O h085V h085M) (and (leRR (callQ Tryz.prog tabs sumsC 60 110 h086A (mkH 1093 h086L)) 1093 h086O h086V h086M) (leRR (callQ Tryz.prog tabs sumsC 60 111 h087A (mkH 1094 h087L)) 1094 h087O h087V h087M))) = true := by kernel_rfl
theorem h085T : leRR (callQ Tryz.prog tabs sumsC 60 42 h085A (mkH 1071 h085L)) 1071 h085O h085V h085M = true := and_l h085h087T
theorem h086T : leRR (callQ Tryz.prog tabs sumsC 60 110 h086A (mkH 1093 h086L)) 1093 h086O h086V h086M = true := and_l (and_r h085h087T)
theorem h087T : leRR (callQ Tryz.prog tabs sumsC 60 111 h087A (mkH 1094 h087L)) 1094 h087O h087V h087M = true := (and_r (and_r h085h087T))
theorem h085P : okP h085A 1071 h085L 1093 h085M = true := by kernel_rfl
theorem h086P : okP h086A 1093 h086L 1094 h086M = true := by kernel_rfl
theorem h087P : okP h087A 1094 h087L 1094 h087M = true := by kernel_rfl
theorem h102h105T : (and (leRR (callQ Tryz.prog tabs sumsC 60 60 h102A (mkH 1099 h102L)) 1099 h102O h102V h102M) (and (leRR (callQ Tryz.prog tabs h126S 60 42 h104A (mkH 1127 h104L)) 1127 h104O h104V h104M) (leRR (callQ Tryz.prog tabs sumsC 60 110 h105A (mkH 1150 h105L)) 1150 h105O h105V h105M))) = true := by kernel_rfl
theorem h102T : leRR (callQ Tryz.prog tabs sumsC 60 60 h102A (mkH 1099 h102L)) 1099 h102O h102V h102M = true := and_l h102h105T
theorem h104T : leRR (callQ Tryz.prog tabs h126S 60 42 h104A (mkH 1127 h104L)) 1127 h104O h104V h104M = true := and_l (and_r h102h105T)
theorem h105T : leRR (callQ Tryz.prog tabs sumsC 60 110 h105A (mkH 1150 h105L)) 1150 h105O h105V h105M = true := (and_r (and_r h102h105T))
theorem h102P : okP h102A 1099 h102L 1113 h102M = true := by kernel_rfl
theorem h104P : okP h104A 1127 h104L 1150 h104M = true := by kernel_rfl
theorem h105P : okP h105A 1150 h105L 1155 h105M = true := by kernel_rfl
theorem h112h115T : (and (leRR (callQ Tryz.prog tabs sumsC 60 60 h112A (mkH 1172 h112L)) 1172 h112O h112V h112M) (and (leRR (callQ Tryz.prog tabs h130S 60 42 h114A (mkH 1204 h114L)) 1204 h114O h114V h114M) (leRR (callQ Tryz.prog tabs sumsC 60 110 h115A (mkH 1227 h115L)) 1227 h115O h115V h115M))) = true := by kernel_rfl
theorem h112T : leRR (callQ Tryz.prog tabs sumsC 60 60 h112A (mkH 1172 h112L)) 1172 h112O h112V h112M = true := and_l h112h115T
theorem h114T : leRR (callQ Tryz.prog tabs h130S 60 42 h114A (mkH 1204 h114L)) 1204 h114O h114V h114M = true := and_l (and_r h112h115T)
theorem h115T : leRR (callQ Tryz.prog tabs sumsC 60 110 h115A (mkH 1227 h115L)) 1227 h115O h115V h115M = true := (and_r (and_r h112h115T))
theorem h112P : okP h112A 1172 h112L 1190 h112M = true := by kernel_rfl
theorem h114P : okP h114A 1204 h114L 1227 h114M = true := by kernel_rfl
theorem h115P : okP h115A 1227 h115L 1232 h115M = true := by kernel_rfl
end Go.Ev

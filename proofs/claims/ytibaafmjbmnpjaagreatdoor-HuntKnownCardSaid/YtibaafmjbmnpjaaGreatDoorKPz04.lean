/- Pieces of the run: what the evaluator tells of a call. -/
import Derived.Test.YtibaafmjbmnpjaaGreatDoorKYA
set_option linter.unusedVariables false
set_option maxRecDepth 1000000
namespace Go.Ev
open Go Go.Proofs
theorem h010T : leRR (callQ Tryz.prog tabs sumsC 60 42 h010A (mkH 272 h010L)) 272 h010O h010V h010M = true := by kernel_rfl
theorem h010P : okP h010A 272 h010L 294 h010M = true := by kernel_rfl
theorem h046h049T : (and (leRR (callQ Tryz.prog tabs sumsC 60 110 h046A (mkH 520 h046L)) 520 h046O h046V h046M) (and (leRR (callQ Tryz.prog tabs h046S 60 62 h041A (mkH 451 h041L)) 451 h041O h041V h041M) (and (leRR (callQ Tryz.prog tabs h041S 60 38 h037A (mkH 384 h037L)) 384 h037O h037V h037M) (and (leRR (callQ Tryz.prog tabs sumsC 60 42 h048A (mkH 462 h048L)) 462 h048O h048V h048M) (leRR (callQ Tryz.prog tabs sumsC 60 60 h049A (mkH 494 h049L)) 494 h049O h049V h049M))))) = true := by kernel_rfl
theorem h046T : leRR (callQ Tryz.prog tabs sumsC 60 110 h046A (mkH 520 h046L)) 520 h046O h046V h046M = true := and_l h046h049T
theorem h041T : leRR (callQ Tryz.prog tabs h046S 60 62 h041A (mkH 451 h041L)) 451 h041O h041V h041M = true := and_l (and_r h046h049T)
theorem h037T : leRR (callQ Tryz.prog tabs h041S 60 38 h037A (mkH 384 h037L)) 384 h037O h037V h037M = true := and_l (and_r (and_r h046h049T))
theorem h048T : leRR (callQ Tryz.prog tabs sumsC 60 42 h048A (mkH 462 h048L)) 462 h048O h048V h048M = true := and_l (and_r (and_r (and_r h046h049T)))
theorem h049T : leRR (callQ Tryz.prog tabs sumsC 60 60 h049A (mkH 494 h049L)) 494 h049O h049V h049M = true := (and_r (and_r (and_r (and_r h046h049T))))
theorem h046P : okP h046A 520 h046L 525 h046M = true := by kernel_rfl
theorem h041P : okP h041A 451 h041L 457 h041M = true := by kernel_rfl
theorem h037P : okP h037A 384 h037L 392 h037M = true := by kernel_rfl
theorem h048P : okP h048A 462 h048L 484 h048M = true := by kernel_rfl
theorem h049P : okP h049A 494 h049L 502 h049M = true := by kernel_rfl
theorem h092h095T : (and (leRR (callQ Tryz.prog tabs sumsC 60 60 h092A (mkH 1069 h092L)) 1069 h092O h092V h092M) (and (leRR (callQ Tryz.prog tabs sumsC 60 42 h094A (mkH 1096 h094L)) 1096 h094O h094V h094M) (leRR (callQ Tryz.prog tabs sumsC 60 110 h095A (mkH 1118 h095L)) 1118 h095O h095V h095M))) = true := by kernel_rfl
theorem h092T : leRR (callQ Tryz.prog tabs sumsC 60 60 h092A (mkH 1069 h092L)) 1069 h092O h092V h092M = true := and_l h092h095T
theorem h094T : leRR (callQ Tryz.prog tabs sumsC 60 42 h094A (mkH 1096 h094L)) 1096 h094O h094V h094M = true := and_l (and_r h092h095T)
theorem h095T : leRR (callQ Tryz.prog tabs sumsC 60 110 h095A (mkH 1118 h095L)) 1118 h095O h095V h095M = true := (and_r (and_r h092h095T))
theorem h092P : okP h092A 1069 h092L 1083 h092M = true := by kernel_rfl
theorem h094P : okP h094A 1096 h094L 1118 h094M = true := by kernel_rfl
theorem h095P : okP h095A 1118 h095L 1119 h095M = true := by kernel_rfl
end Go.Ev

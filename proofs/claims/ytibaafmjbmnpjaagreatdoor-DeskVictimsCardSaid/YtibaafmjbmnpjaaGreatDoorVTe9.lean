/- One of the closed facts of the row. -/
import Derived.Test.YtibaafmjbmnpjaaGreatDoorRows
import Derived.ProofKit
import Derived.Test.YtibaafmjbmnpjaaGreatDoorVTd
set_option linter.unusedVariables false
namespace Go.Proofs.YtibaafmjbmnpjaaGreatDoor
open Go.RowKit Go.ChangeShapes Go.WideShapes Go.ChangeAt
set_option maxRecDepth 100000
theorem q9 : (Rows.deskVictimsRow.inPlace == Tryz.prog.inPlace 3) = true := by
  have h : Tryz.prog.inPlace 3 = Tryz.prog.inPlaceOf Go.Ev.closeL := by unfold Program.inPlace; rw [Go.Ev.closure_is]; rfl
  have h2 : (Rows.deskVictimsRow.inPlace == Tryz.prog.inPlaceOf Go.Ev.closeL) = true := by kernel_rfl
  exact (congrArg (fun x => Rows.deskVictimsRow.inPlace == x) h).trans h2
end Go.Proofs.YtibaafmjbmnpjaaGreatDoor

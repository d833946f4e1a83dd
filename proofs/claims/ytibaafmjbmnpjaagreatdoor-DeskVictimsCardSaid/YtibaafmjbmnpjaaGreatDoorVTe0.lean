/- The light closed facts of the row. -/
import Derived.Test.YtibaafmjbmnpjaaGreatDoorRows
import Derived.ProofKit
import Derived.Test.YtibaafmjbmnpjaaGreatDoorVTd
set_option linter.unusedVariables false
namespace Go.Proofs.YtibaafmjbmnpjaaGreatDoor
open Go.RowKit Go.ChangeShapes Go.WideShapes Go.ChangeAt
set_option maxRecDepth 100000
theorem q1b : (Tryz.prog.globals.all (fun g => decide (g.type < Tryz.prog.types.size))) = true := by kernel_rfl
theorem q0 : (Rows.deskVictimsRow.wf (OpenSpec.ofChange Rows.deskVictimsSpec)) = true := by kernel_rfl
theorem q3 : (Tryz.f3.params.all (Tryz.prog.readableRec ·)) = true := by kernel_rfl
theorem q4 : (namedTie Tryz.prog Rows.deskVictimsRow.named Rows.deskVictimsSpec.vars) = true := by kernel_rfl
theorem q5 : ((Rows.deskVictimsRow.stops == [])) = true := by kernel_rfl
theorem q6 : ((Tryz.prog.stops == [])) = true := by kernel_rfl
theorem q7 : ((Rows.deskVictimsRow.knobs == [])) = true := by kernel_rfl
theorem q8 : ((Tryz.prog.stopKnobs == [])) = true := by kernel_rfl
theorem unf_is : Tryz.prog.unfollowed 3 = true := by
  unfold Program.unfollowed; rw [Go.Ev.closure_is]; kernel_rfl
theorem q10 : (Rows.deskVictimsRow.unfollowed == Tryz.prog.unfollowed 3) = true := by rw [unf_is]; rfl
theorem q11 : (Rows.deskVictimsRow.recurses == Tryz.prog.recurses 3) = true := by
  have h : Tryz.prog.recurses 3 = true := by unfold Program.recurses; rw [unf_is]; rfl
  rw [h]; rfl
theorem q13 : ((Rows.deskVictimsRow.maps == (Tryz.f3.params.toList ++ Rows.deskVictimsSpec.plain.varTypes Tryz.prog).any (Tryz.prog.mapsRec ·))) = true := by kernel_rfl
theorem q14 : ((Rows.deskVictimsRow.ifaces == (Tryz.f3.params.toList ++ Rows.deskVictimsSpec.plain.varTypes Tryz.prog).any (Tryz.prog.ifacesRec ·))) = true := by kernel_rfl
theorem q15 : ((Rows.deskVictimsRow.mapsOut == Tryz.prog.mapsAmong Tryz.f3.resultTypes.toList)) = true := by kernel_rfl
theorem q16 : ((Rows.deskVictimsRow.loops == (Tryz.f3.params.toList ++ Rows.deskVictimsSpec.plain.varTypes Tryz.prog).any (Tryz.prog.loopsFrom ·))) = true := by kernel_rfl
theorem q17 : ((Rows.deskVictimsRow.wideKeys == (Tryz.f3.params.toList ++ Rows.deskVictimsSpec.plain.varTypes Tryz.prog ++ Tryz.f3.resultTypes.toList).any (Tryz.prog.wideKeysFrom ·))) = true := by kernel_rfl
theorem q18 : (Rows.deskVictimsSpec.vars.all (Tryz.prog.varReadable ·)) = true := by kernel_rfl
theorem q19 : (Tryz.f3.resultTypes.all (fun t => Tryz.prog.readableRec t && decide (t < Tryz.prog.types.size))) = true := by kernel_rfl
theorem q20 : ((Rows.deskVictimsRow.ifacesOut == Tryz.f3.resultTypes.toList.any (Tryz.prog.ifacesRec ·))) = true := by kernel_rfl
theorem q21 : ((Rows.deskVictimsRow.loopsOut == Tryz.f3.resultTypes.toList.any (Tryz.prog.loopsFrom ·))) = true := by kernel_rfl
theorem q23 : (Rows.deskVictimsRow.shortTexts.isNone) = true := by kernel_rfl
theorem q26 : ((Rows.deskVictimsRow.lifted == Tryz.prog.liftsFinal)) = true := by kernel_rfl
theorem q27 : ((Tryz.prog.make == some Rows.deskVictimsRow.make)) = true := by kernel_rfl
theorem q28 : ((Rows.deskVictimsRow.kinds == (if Rows.deskVictimsRow.domain.isEmpty then [] else Tryz.f3.params.toList.map fun t => match Tryz.prog.underlying t with | some (.int k) => some k | _ => none))) = true := by kernel_rfl
theorem q29 : ((Rows.deskVictimsRow.pinned == Rows.deskVictimsRow.pinnedBy)) = true := by kernel_rfl
theorem q30 : ((Rows.deskVictimsRow.veiled == (Tryz.f3.params.toList ++ Rows.deskVictimsSpec.plain.varTypes Tryz.prog ++ Tryz.f3.resultTypes.toList).any (Tryz.prog.veiledRec ·))) = true := by kernel_rfl
theorem q31 : (Rows.deskVictimsRow.veiledFits Tryz.prog Tryz.f3.params.toList (Tryz.f3.params.toList ++ Rows.deskVictimsSpec.plain.varTypes Tryz.prog ++ Tryz.f3.resultTypes.toList)) = true := by kernel_rfl
end Go.Proofs.YtibaafmjbmnpjaaGreatDoor

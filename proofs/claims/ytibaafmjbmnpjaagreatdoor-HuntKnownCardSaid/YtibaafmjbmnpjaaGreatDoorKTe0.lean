/- The light closed facts of the row. -/
import Derived.Test.YtibaafmjbmnpjaaGreatDoorRows
import Derived.ProofKit
import Derived.Test.YtibaafmjbmnpjaaGreatDoorKTd
set_option linter.unusedVariables false
namespace Go.Proofs.YtibaafmjbmnpjaaGreatDoor
open Go.RowKit Go.ChangeShapes Go.WideShapes Go.ChangeAt
set_option maxRecDepth 100000
theorem q1b : (Tryz.prog.globals.all (fun g => decide (g.type < Tryz.prog.types.size))) = true := by kernel_rfl
theorem q0 : (Rows.huntKnownRow.wf (OpenSpec.ofChange Rows.huntKnownSpec)) = true := by kernel_rfl
theorem q3 : (Tryz.f4.params.all (Tryz.prog.readableRec ·)) = true := by kernel_rfl
theorem q4 : (namedTie Tryz.prog Rows.huntKnownRow.named Rows.huntKnownSpec.vars) = true := by kernel_rfl
theorem q5 : ((Rows.huntKnownRow.stops == [])) = true := by kernel_rfl
theorem q6 : ((Tryz.prog.stops == [])) = true := by kernel_rfl
theorem q7 : ((Rows.huntKnownRow.knobs == [])) = true := by kernel_rfl
theorem q8 : ((Tryz.prog.stopKnobs == [])) = true := by kernel_rfl
theorem unf_is : Tryz.prog.unfollowed 4 = true := by
  unfold Program.unfollowed; rw [Go.Ev.closure_is]; kernel_rfl
theorem q10 : (Rows.huntKnownRow.unfollowed == Tryz.prog.unfollowed 4) = true := by rw [unf_is]; rfl
theorem q11 : (Rows.huntKnownRow.recurses == Tryz.prog.recurses 4) = true := by
  have h : Tryz.prog.recurses 4 = true := by unfold Program.recurses; rw [unf_is]; rfl
  rw [h]; rfl
theorem q13 : ((Rows.huntKnownRow.maps == (Tryz.f4.params.toList ++ Rows.huntKnownSpec.plain.varTypes Tryz.prog).any (Tryz.prog.mapsRec ·))) = true := by kernel_rfl
theorem q14 : ((Rows.huntKnownRow.ifaces == (Tryz.f4.params.toList ++ Rows.huntKnownSpec.plain.varTypes Tryz.prog).any (Tryz.prog.ifacesRec ·))) = true := by kernel_rfl
theorem q15 : ((Rows.huntKnownRow.mapsOut == Tryz.prog.mapsAmong Tryz.f4.resultTypes.toList)) = true := by kernel_rfl
theorem q16 : ((Rows.huntKnownRow.loops == (Tryz.f4.params.toList ++ Rows.huntKnownSpec.plain.varTypes Tryz.prog).any (Tryz.prog.loopsFrom ·))) = true := by kernel_rfl
theorem q17 : ((Rows.huntKnownRow.wideKeys == (Tryz.f4.params.toList ++ Rows.huntKnownSpec.plain.varTypes Tryz.prog ++ Tryz.f4.resultTypes.toList).any (Tryz.prog.wideKeysFrom ·))) = true := by kernel_rfl
theorem q18 : (Rows.huntKnownSpec.vars.all (Tryz.prog.varReadable ·)) = true := by kernel_rfl
theorem q19 : (Tryz.f4.resultTypes.all (fun t => Tryz.prog.readableRec t && decide (t < Tryz.prog.types.size))) = true := by kernel_rfl
theorem q20 : ((Rows.huntKnownRow.ifacesOut == Tryz.f4.resultTypes.toList.any (Tryz.prog.ifacesRec ·))) = true := by kernel_rfl
theorem q21 : ((Rows.huntKnownRow.loopsOut == Tryz.f4.resultTypes.toList.any (Tryz.prog.loopsFrom ·))) = true := by kernel_rfl
theorem q23 : (Rows.huntKnownRow.shortTexts.isNone) = true := by kernel_rfl
theorem q26 : ((Rows.huntKnownRow.lifted == Tryz.prog.liftsFinal)) = true := by kernel_rfl
theorem q27 : ((Tryz.prog.make == some Rows.huntKnownRow.make)) = true := by kernel_rfl
theorem q28 : ((Rows.huntKnownRow.kinds == (if Rows.huntKnownRow.domain.isEmpty then [] else Tryz.f4.params.toList.map fun t => match Tryz.prog.underlying t with | some (.int k) => some k | _ => none))) = true := by kernel_rfl
theorem q29 : ((Rows.huntKnownRow.pinned == Rows.huntKnownRow.pinnedBy)) = true := by kernel_rfl
theorem q30 : ((Rows.huntKnownRow.veiled == (Tryz.f4.params.toList ++ Rows.huntKnownSpec.plain.varTypes Tryz.prog ++ Tryz.f4.resultTypes.toList).any (Tryz.prog.veiledRec ·))) = true := by kernel_rfl
theorem q31 : (Rows.huntKnownRow.veiledFits Tryz.prog Tryz.f4.params.toList (Tryz.f4.params.toList ++ Rows.huntKnownSpec.plain.varTypes Tryz.prog ++ Tryz.f4.resultTypes.toList)) = true := by kernel_rfl
end Go.Proofs.YtibaafmjbmnpjaaGreatDoor

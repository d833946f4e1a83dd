/- The light closed facts of the row. -/
import Derived.Test.YtibaafmjbmnpjaaGreatDoorRows
import Derived.ProofKit
import Derived.Test.YtibaafmjbmnpjaaGreatDoorCTd
set_option linter.unusedVariables false
namespace Go.Proofs.YtibaafmjbmnpjaaGreatDoor
open Go.RowKit Go.ChangeShapes Go.WideShapes Go.ChangeAt
set_option maxRecDepth 100000
theorem q1b : (Tryz.prog.globals.all (fun g => decide (g.type < Tryz.prog.types.size))) = true := by kernel_rfl
theorem q0 : (Rows.huntCountsRow.wf (OpenSpec.ofChange Rows.huntCountsSpec)) = true := by kernel_rfl
theorem q3 : (Tryz.f5.params.all (Tryz.prog.readableRec ·)) = true := by kernel_rfl
theorem q4 : (namedTie Tryz.prog Rows.huntCountsRow.named Rows.huntCountsSpec.vars) = true := by kernel_rfl
theorem q5 : ((Rows.huntCountsRow.stops == [])) = true := by kernel_rfl
theorem q6 : ((Tryz.prog.stops == [])) = true := by kernel_rfl
theorem q7 : ((Rows.huntCountsRow.knobs == [])) = true := by kernel_rfl
theorem q8 : ((Tryz.prog.stopKnobs == [])) = true := by kernel_rfl
theorem unf_is : Tryz.prog.unfollowed 5 = true := by
  unfold Program.unfollowed; rw [Go.Ev.closure_is]; kernel_rfl
theorem q10 : (Rows.huntCountsRow.unfollowed == Tryz.prog.unfollowed 5) = true := by rw [unf_is]; rfl
theorem q11 : (Rows.huntCountsRow.recurses == Tryz.prog.recurses 5) = true := by
  have h : Tryz.prog.recurses 5 = true := by unfold Program.recurses; rw [unf_is]; rfl
  rw [h]; rfl
theorem q13 : ((Rows.huntCountsRow.maps == (Tryz.f5.params.toList ++ Rows.huntCountsSpec.plain.varTypes Tryz.prog).any (Tryz.prog.mapsRec ·))) = true := by kernel_rfl
theorem q14 : ((Rows.huntCountsRow.ifaces == (Tryz.f5.params.toList ++ Rows.huntCountsSpec.plain.varTypes Tryz.prog).any (Tryz.prog.ifacesRec ·))) = true := by kernel_rfl
theorem q15 : ((Rows.huntCountsRow.mapsOut == Tryz.prog.mapsAmong Tryz.f5.resultTypes.toList)) = true := by kernel_rfl
theorem q16 : ((Rows.huntCountsRow.loops == (Tryz.f5.params.toList ++ Rows.huntCountsSpec.plain.varTypes Tryz.prog).any (Tryz.prog.loopsFrom ·))) = true := by kernel_rfl
theorem q17 : ((Rows.huntCountsRow.wideKeys == (Tryz.f5.params.toList ++ Rows.huntCountsSpec.plain.varTypes Tryz.prog ++ Tryz.f5.resultTypes.toList).any (Tryz.prog.wideKeysFrom ·))) = true := by kernel_rfl
theorem q18 : (Rows.huntCountsSpec.vars.all (Tryz.prog.varReadable ·)) = true := by kernel_rfl
theorem q19 : (Tryz.f5.resultTypes.all (fun t => Tryz.prog.readableRec t && decide (t < Tryz.prog.types.size))) = true := by kernel_rfl
theorem q20 : ((Rows.huntCountsRow.ifacesOut == Tryz.f5.resultTypes.toList.any (Tryz.prog.ifacesRec ·))) = true := by kernel_rfl
theorem q21 : ((Rows.huntCountsRow.loopsOut == Tryz.f5.resultTypes.toList.any (Tryz.prog.loopsFrom ·))) = true := by kernel_rfl
theorem q23 : (Rows.huntCountsRow.shortTexts.isNone) = true := by kernel_rfl
theorem q26 : ((Rows.huntCountsRow.lifted == Tryz.prog.liftsFinal)) = true := by kernel_rfl
theorem q27 : ((Tryz.prog.make == some Rows.huntCountsRow.make)) = true := by kernel_rfl
theorem q28 : ((Rows.huntCountsRow.kinds == (if Rows.huntCountsRow.domain.isEmpty then [] else Tryz.f5.params.toList.map fun t => match Tryz.prog.underlying t with | some (.int k) => some k | _ => none))) = true := by kernel_rfl
theorem q29 : ((Rows.huntCountsRow.pinned == Rows.huntCountsRow.pinnedBy)) = true := by kernel_rfl
theorem q30 : ((Rows.huntCountsRow.veiled == (Tryz.f5.params.toList ++ Rows.huntCountsSpec.plain.varTypes Tryz.prog ++ Tryz.f5.resultTypes.toList).any (Tryz.prog.veiledRec ·))) = true := by kernel_rfl
theorem q31 : (Rows.huntCountsRow.veiledFits Tryz.prog Tryz.f5.params.toList (Tryz.f5.params.toList ++ Rows.huntCountsSpec.plain.varTypes Tryz.prog ++ Tryz.f5.resultTypes.toList)) = true := by kernel_rfl
end Go.Proofs.YtibaafmjbmnpjaaGreatDoor

/- The light closed facts of the row. -/
import Derived.Test.YtpenopggmbpefaaGreatDoorRows
import Derived.ProofKit
import Derived.Test.YtpenopggmbpefaaGreatDoorTd
set_option linter.unusedVariables false
namespace Go.Proofs.YtpenopggmbpefaaGreatDoor
open Go.RowKit Go.ChangeShapes Go.WideShapes Go.ChangeAt
set_option maxRecDepth 100000
theorem q1b : (Tryz.prog.globals.all (fun g => decide (g.type < Tryz.prog.types.size))) = true := by kernel_rfl
theorem q0 : (Rows.playKnownRow.wf (OpenSpec.ofChange Rows.playKnownSpec)) = true := by kernel_rfl
theorem q3 : (Tryz.f3.params.all (Tryz.prog.readableRec ·)) = true := by kernel_rfl
theorem q4 : (namedTie Tryz.prog Rows.playKnownRow.named Rows.playKnownSpec.vars) = true := by kernel_rfl
theorem q5 : ((Rows.playKnownRow.stops == [])) = true := by kernel_rfl
theorem q6 : ((Tryz.prog.stops == [])) = true := by kernel_rfl
theorem q7 : ((Rows.playKnownRow.knobs == [])) = true := by kernel_rfl
theorem q8 : ((Tryz.prog.stopKnobs == [])) = true := by kernel_rfl
theorem unf_is : Tryz.prog.unfollowed 3 = true := by
  unfold Program.unfollowed; rw [Go.Ev.closure_is]; kernel_rfl
theorem q10 : (Rows.playKnownRow.unfollowed == Tryz.prog.unfollowed 3) = true := by rw [unf_is]; rfl
theorem q11 : (Rows.playKnownRow.recurses == Tryz.prog.recurses 3) = true := by
  have h : Tryz.prog.recurses 3 = true := by unfold Program.recurses; rw [unf_is]; rfl
  rw [h]; rfl
theorem q13 : ((Rows.playKnownRow.maps == (Tryz.f3.params.toList ++ Rows.playKnownSpec.plain.varTypes Tryz.prog).any (Tryz.prog.mapsRec ·))) = true := by kernel_rfl
theorem q14 : ((Rows.playKnownRow.ifaces == (Tryz.f3.params.toList ++ Rows.playKnownSpec.plain.varTypes Tryz.prog).any (Tryz.prog.ifacesRec ·))) = true := by kernel_rfl
theorem q15 : ((Rows.playKnownRow.mapsOut == Tryz.prog.mapsAmong Tryz.f3.resultTypes.toList)) = true := by kernel_rfl
theorem q16 : ((Rows.playKnownRow.loops == (Tryz.f3.params.toList ++ Rows.playKnownSpec.plain.varTypes Tryz.prog).any (Tryz.prog.loopsFrom ·))) = true := by kernel_rfl
theorem q17 : ((Rows.playKnownRow.wideKeys == (Tryz.f3.params.toList ++ Rows.playKnownSpec.plain.varTypes Tryz.prog ++ Tryz.f3.resultTypes.toList).any (Tryz.prog.wideKeysFrom ·))) = true := by kernel_rfl
theorem q18 : (Rows.playKnownSpec.vars.all (Tryz.prog.varReadable ·)) = true := by kernel_rfl
theorem q19 : (Tryz.f3.resultTypes.all (fun t => Tryz.prog.readableRec t && decide (t < Tryz.prog.types.size))) = true := by kernel_rfl
theorem q20 : ((Rows.playKnownRow.ifacesOut == Tryz.f3.resultTypes.toList.any (Tryz.prog.ifacesRec ·))) = true := by kernel_rfl
theorem q21 : ((Rows.playKnownRow.loopsOut == Tryz.f3.resultTypes.toList.any (Tryz.prog.loopsFrom ·))) = true := by kernel_rfl
theorem q23 : (Rows.playKnownRow.shortTexts.isNone) = true := by kernel_rfl
theorem q26 : ((Rows.playKnownRow.lifted == Tryz.prog.liftsFinal)) = true := by kernel_rfl
theorem q27 : ((Tryz.prog.make == some Rows.playKnownRow.make)) = true := by kernel_rfl
theorem q28 : ((Rows.playKnownRow.kinds == (if Rows.playKnownRow.domain.isEmpty then [] else Tryz.f3.params.toList.map fun t => match Tryz.prog.underlying t with | some (.int k) => some k | _ => none))) = true := by kernel_rfl
theorem q29 : ((Rows.playKnownRow.pinned == Rows.playKnownRow.pinnedBy)) = true := by kernel_rfl
theorem q30 : ((Rows.playKnownRow.veiled == (Tryz.f3.params.toList ++ Rows.playKnownSpec.plain.varTypes Tryz.prog ++ Tryz.f3.resultTypes.toList).any (Tryz.prog.veiledRec ·))) = true := by kernel_rfl
theorem q31 : (Rows.playKnownRow.veiledFits Tryz.prog Tryz.f3.params.toList (Tryz.f3.params.toList ++ Rows.playKnownSpec.plain.varTypes Tryz.prog ++ Tryz.f3.resultTypes.toList)) = true := by kernel_rfl
end Go.Proofs.YtpenopggmbpefaaGreatDoor

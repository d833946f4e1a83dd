/- No function of the program starts a goroutine. -/
import Derived.Test.YtibaafmjbmnpjaaGreatDoorCards
import Derived.ProofKit
set_option linter.unusedVariables false
namespace Go.Proofs.YtibaafmjbmnpjaaGreatDoor
open Go.RowKit
theorem goes_none {P : Program} (h : (P.funcs.toList.all fun fn => !fn.goes) = true) (f : FuncId) : P.goes f = false := by
  have hall : ∀ fn ∈ P.funcs.toList, fn.goes = false := fun fn hm => by
    have := List.all_eq_true.1 h fn hm
    simpa using this
  unfold Program.goes
  rw [Bool.or_eq_false_iff]
  refine ⟨?_, ?_⟩
  · rw [List.any_eq_false]
    intro g _ hh
    cases hg : P.funcs[g]? with
    | none => rw [hg] at hh; cases hh
    | some fn =>
      rw [hg] at hh
      have := hall fn (by rw [Array.mem_toList_iff]; exact Array.mem_of_getElem? hg)
      simp [this] at hh
  · rw [Bool.and_eq_false_iff]
    refine .inr ?_
    rw [← Array.any_toList, List.any_eq_false]
    intro fn hm
    rw [hall fn hm]; decide
theorem no_go : (Tryz.prog.funcs.toList.all fun fn => !fn.goes) = true := by kernel_rfl
theorem goesBy_false : false = Rows.huntCountsRow.goesBy Tryz.prog := by
  unfold OpenClaim.goesBy Program.goesAt Program.goesFrom
  have h1 : Rows.huntCountsRow.start = .entering := rfl
  rw [h1]
  cases hf : Tryz.prog.funcNamed Rows.huntCountsRow.func with
  | none => rfl
  | some f => simp [goes_none no_go f]
end Go.Proofs.YtibaafmjbmnpjaaGreatDoor

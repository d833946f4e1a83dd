/- The pieces joined: from whatever world, BaseKnown returns true, and what was there stays. -/
import Derived.Test.YtonmglcjenobmaaGreatDoorE3
import Derived.Test.YtonmglcjenobmaaGreatDoorY1
import Derived.Test.YtonmglcjenobmaaGreatDoorY2
import Derived.Test.YtonmglcjenobmaaGreatDoorY3
import Derived.Test.YtonmglcjenobmaaGreatDoorY4
import Derived.Test.YtonmglcjenobmaaGreatDoorY5
set_option linter.unusedVariables false
namespace Go.Ev
open Go Go.RowKit Go.Proofs
theorem follows : Tryz.prog.follows .mixedOrders = true := by kernel_rfl
theorem opS_ok (N : Nat) : SumsOK Tryz.prog N opS := (sumsC_ok N).oracle (SF.of follows (sumsC_ok N) opT)
theorem daS_ok (N : Nat) : SumsOK Tryz.prog N daS := (opS_ok N).oracle (SF.of follows (opS_ok N) daT)
theorem awake_iso : Iso Tryz.prog 6 (.bool true) := Iso.of follows daS_ok rfl awT
theorem awS_ok (N : Nat) : SumsOK Tryz.prog N awS := (daS_ok N).iso awake_iso
theorem dbS_ok (N : Nat) : SumsOK Tryz.prog N dbS := (awS_ok N).oracle (SF.of follows (awS_ok N) dbT)
theorem main_iso : Iso Tryz.prog 3 (.bool true) := Iso.of follows dbS_ok rfl mainT
theorem main_calls (W : World) (hl : 8 ≤ W.heap.size) : Calls Tryz.prog 3 #[] W fun e W' => e = .returned (.bool true) ∧ Below W.heap.size W W' := by
  refine (main_iso.calls (w := W) hl rfl (enters_of Tryz.func3 (by kernel_rfl) rfl _ _)).mono fun e W' he => ?_
  obtain ⟨val, rfl, hv, hb⟩ := he
  simp only [VR] at hv
  exact ⟨by rw [hv], hb⟩
end Go.Ev

/- The pieces joined: from whatever world, DeskKnown returns true, and what was there stays. -/
import Derived.Test.YtmahbimafpddpaaGreatDoorPz00
import Derived.Test.YtmahbimafpddpaaGreatDoorPz01
import Derived.Test.YtmahbimafpddpaaGreatDoorPz02
import Derived.Test.YtmahbimafpddpaaGreatDoorPz03
import Derived.Test.YtmahbimafpddpaaGreatDoorPz04
import Derived.Test.YtmahbimafpddpaaGreatDoorPz05
import Derived.Test.YtmahbimafpddpaaGreatDoorPz06
import Derived.Test.YtmahbimafpddpaaGreatDoorPz07
import Derived.Test.YtmahbimafpddpaaGreatDoorPz08
import Derived.Test.YtmahbimafpddpaaGreatDoorPz09
import Derived.Test.YtmahbimafpddpaaGreatDoorPwaw
import Derived.Test.YtmahbimafpddpaaGreatDoorPmain
import Derived.Test.YtmahbimafpddpaaGreatDoorE4
set_option linter.unusedVariables false
namespace Go.Ev
open Go Go.RowKit Go.Proofs
theorem follows : Tryz.prog.follows .mixedOrders = true := by kernel_rfl
theorem opS_ok (N : Nat) : SumsOK Tryz.prog N opS := (sumsC_ok N).oracleL (SF.ofQ plansOK follows (sumsC_ok N) opT)
theorem daS_ok (N : Nat) : SumsOK Tryz.prog N daS := (opS_ok N).oracleL (SF.ofQ plansOK follows (sumsC_ok N) daT)
theorem dbS_ok (N : Nat) : SumsOK Tryz.prog N dbS := (daS_ok N).oracleL (SF.ofQ plansOK follows (sumsC_ok N) dbT)
theorem dcS_ok (N : Nat) : SumsOK Tryz.prog N dcS := (dbS_ok N).oracleL (SF.ofQ plansOK follows (sumsC_ok N) dcT)
theorem aw_iso : Iso Tryz.prog 5 (.bool true) := Iso.ofQ plansOK follows dcS_ok rfl awT
theorem awS_ok (N : Nat) : SumsOK Tryz.prog N awS := (dcS_ok N).iso aw_iso
theorem k00S_ok (N : Nat) : SumsOK Tryz.prog N k00S := (awS_ok N).oracleL (SF.ofQ plansOK follows (sumsC_ok N) k00T)
theorem k01S_ok (N : Nat) : SumsOK Tryz.prog N k01S := (k00S_ok N).oracleL (SF.ofQ plansOK follows (sumsC_ok N) k01T)
theorem k02S_ok (N : Nat) : SumsOK Tryz.prog N k02S := (k01S_ok N).oracleL (SF.ofQ plansOK follows (sumsC_ok N) k02T)
theorem k03S_ok (N : Nat) : SumsOK Tryz.prog N k03S := (k02S_ok N).oracleL (SF.ofQ plansOK follows (sumsC_ok N) k03T)
theorem k04S_ok (N : Nat) : SumsOK Tryz.prog N k04S := (k03S_ok N).oracleL (SF.ofQ plansOK follows (sumsC_ok N) k04T)
theorem saS_ok (N : Nat) : SumsOK Tryz.prog N saS := (k04S_ok N).oracleL (SF.ofQ plansOK follows (sumsC_ok N) saT)
theorem kaS_ok (N : Nat) : SumsOK Tryz.prog N kaS := (saS_ok N).oracleL (SF.ofQ plansOK follows (sumsC_ok N) kaT)
theorem sbS_ok (N : Nat) : SumsOK Tryz.prog N sbS := (kaS_ok N).oracleL (SF.ofQ plansOK follows (sumsC_ok N) sbT)
theorem l00S_ok (N : Nat) : SumsOK Tryz.prog N l00S := (sbS_ok N).oracleL (SF.ofQ plansOK follows (sumsC_ok N) l00T)
theorem l01S_ok (N : Nat) : SumsOK Tryz.prog N l01S := (l00S_ok N).oracleL (SF.ofQ plansOK follows (sumsC_ok N) l01T)
theorem l02S_ok (N : Nat) : SumsOK Tryz.prog N l02S := (l01S_ok N).oracleL (SF.ofQ plansOK follows (sumsC_ok N) l02T)
theorem l03S_ok (N : Nat) : SumsOK Tryz.prog N l03S := (l02S_ok N).oracleL (SF.ofQ plansOK follows (sumsC_ok N) l03T)
theorem l04S_ok (N : Nat) : SumsOK Tryz.prog N l04S := (l03S_ok N).oracleL (SF.ofQ plansOK follows (sumsC_ok N) l04T)
theorem l05S_ok (N : Nat) : SumsOK Tryz.prog N l05S := (l04S_ok N).oracleL (SF.ofQ plansOK follows (sumsC_ok N) l05T)
theorem scS_ok (N : Nat) : SumsOK Tryz.prog N scS := (l05S_ok N).oracleL (SF.ofQ plansOK follows (sumsC_ok N) scT)
theorem sdS_ok (N : Nat) : SumsOK Tryz.prog N sdS := (scS_ok N).oracleL (SF.ofQ plansOK follows (sumsC_ok N) sdT)
theorem main_iso : Iso Tryz.prog 3 (.bool true) := Iso.ofQ plansOK follows sdS_ok rfl mainT
theorem main_calls (W : World) (hl : 8 ≤ W.heap.size) : Calls Tryz.prog 3 #[] W fun e W' => e = .returned (.bool true) ∧ Below W.heap.size W W' := by
  refine (main_iso.calls (w := W) hl rfl (enters_of Tryz.func3 (by kernel_rfl) rfl _ _)).mono fun e W' he => ?_
  obtain ⟨val, rfl, hv, hb⟩ := he
  simp only [VR] at hv
  exact ⟨by rw [hv], hb⟩
end Go.Ev

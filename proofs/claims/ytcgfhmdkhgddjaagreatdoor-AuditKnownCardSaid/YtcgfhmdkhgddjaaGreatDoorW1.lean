/- The pieces joined: from whatever world, AuditKnown returns true, and what was there stays. -/
import Derived.Test.YtcgfhmdkhgddjaaGreatDoorPz00
import Derived.Test.YtcgfhmdkhgddjaaGreatDoorPz01
import Derived.Test.YtcgfhmdkhgddjaaGreatDoorPz02
import Derived.Test.YtcgfhmdkhgddjaaGreatDoorPz03
import Derived.Test.YtcgfhmdkhgddjaaGreatDoorPz04
import Derived.Test.YtcgfhmdkhgddjaaGreatDoorPmain
import Derived.Test.YtcgfhmdkhgddjaaGreatDoorE4
set_option linter.unusedVariables false
namespace Go.Ev
open Go Go.RowKit Go.Proofs
theorem follows : Tryz.prog.follows .mixedOrders = true := by kernel_rfl
theorem opS_ok (N : Nat → Prop) : SumsOK Tryz.prog N opS := (sumsC_ok N).oracleK opP (fun N => SF.ofQ plansOK follows (sumsC_ok N) opT)
theorem waS_ok (N : Nat → Prop) : SumsOK Tryz.prog N waS := (opS_ok N).oracleK waP (fun N => SF.ofQ plansOK follows (sumsC_ok N) waT)
theorem daS_ok (N : Nat → Prop) : SumsOK Tryz.prog N daS := (waS_ok N).oracleK daP (fun N => SF.ofQ plansOK follows (sumsC_ok N) daT)
theorem dbS_ok (N : Nat → Prop) : SumsOK Tryz.prog N dbS := (daS_ok N).oracleK dbP (fun N => SF.ofQ plansOK follows (sumsC_ok N) dbT)
theorem oaS_ok (N : Nat → Prop) : SumsOK Tryz.prog N oaS := (dbS_ok N).oracleK oaP (fun N => SF.ofQ plansOK follows (sumsC_ok N) oaT)
theorem owS_ok (N : Nat → Prop) : SumsOK Tryz.prog N owS := (sumsC_ok N).oracleK owP (fun N => SF.ofQ plansOK follows (sumsC_ok N) owT)
theorem ckS_ok (N : Nat → Prop) : SumsOK Tryz.prog N ckS := (owS_ok N).oracleK ckP (fun N => SF.ofQ plansOK follows (sumsC_ok N) ckT)
theorem fiS_ok (N : Nat → Prop) : SumsOK Tryz.prog N fiS := (oaS_ok N).oracleK fiP (fun N => SF.ofQ plansOK follows (ckS_ok N) fiT)
theorem main_iso : Iso Tryz.prog 3 (.bool true) := Iso.ofQ plansOK follows fiS_ok rfl mainT
theorem main_calls (W : World) (hl : 8 ≤ W.heap.size) : Calls Tryz.prog 3 #[] W fun e W' => e = .returned (.bool true) ∧ Go.RowKit.Below W.heap.size W W' := by
  refine (main_iso.calls (w := W) hl rfl (enters_of Tryz.func3 (by kernel_rfl) rfl _ _)).mono fun e W' he => ?_
  obtain ⟨val, rfl, hv, hb⟩ := he
  simp only [VR] at hv
  exact ⟨by rw [hv], hb⟩
end Go.Ev

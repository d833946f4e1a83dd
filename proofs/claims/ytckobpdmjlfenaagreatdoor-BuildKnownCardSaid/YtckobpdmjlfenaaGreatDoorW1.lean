/- The pieces joined: from whatever world, BuildKnown returns true, and what was there stays. -/
import Derived.Test.YtckobpdmjlfenaaGreatDoorPz00
import Derived.Test.YtckobpdmjlfenaaGreatDoorPz01
import Derived.Test.YtckobpdmjlfenaaGreatDoorPz02
import Derived.Test.YtckobpdmjlfenaaGreatDoorPz03
import Derived.Test.YtckobpdmjlfenaaGreatDoorPz04
import Derived.Test.YtckobpdmjlfenaaGreatDoorPz05
import Derived.Test.YtckobpdmjlfenaaGreatDoorPz06
import Derived.Test.YtckobpdmjlfenaaGreatDoorPz07
import Derived.Test.YtckobpdmjlfenaaGreatDoorPmain
import Derived.Test.YtckobpdmjlfenaaGreatDoorE4
set_option linter.unusedVariables false
namespace Go.Ev
open Go Go.RowKit Go.Proofs
theorem follows : Tryz.prog.follows .mixedOrders = true := by kernel_rfl
theorem rdS_ok (N : Nat → Prop) : SumsOK Tryz.prog N rdS := (sumsC_ok N).oracleK rdP (fun N => SF.ofQ plansOK follows (sumsC_ok N) rdT)
theorem raS_ok (N : Nat → Prop) : SumsOK Tryz.prog N raS := (sumsC_ok N).oracleK raP (fun N => SF.ofQ plansOK follows (sumsC_ok N) raT)
theorem pwS_ok (N : Nat → Prop) : SumsOK Tryz.prog N pwS := (raS_ok N).oracleK pwP (fun N => SF.ofQ plansOK follows (sumsC_ok N) pwT)
theorem swS_ok (N : Nat → Prop) : SumsOK Tryz.prog N swS := (pwS_ok N).oracleK swP (fun N => SF.ofQ plansOK follows (sumsC_ok N) swT)
theorem twS_ok (N : Nat → Prop) : SumsOK Tryz.prog N twS := (swS_ok N).oracleK twP (fun N => SF.ofQ plansOK follows (sumsC_ok N) twT)
theorem uwS_ok (N : Nat → Prop) : SumsOK Tryz.prog N uwS := (twS_ok N).oracleK uwP (fun N => SF.ofQ plansOK follows (sumsC_ok N) uwT)
theorem waS_ok (N : Nat → Prop) : SumsOK Tryz.prog N waS := (rdS_ok N).oracleK waP (fun N => SF.ofQ plansOK follows (uwS_ok N) waT)
theorem puS_ok (N : Nat → Prop) : SumsOK Tryz.prog N puS := (waS_ok N).oracleK puP (fun N => SF.ofQ plansOK follows (sumsC_ok N) puT)
theorem stS_ok (N : Nat → Prop) : SumsOK Tryz.prog N stS := (puS_ok N).oracleK stP (fun N => SF.ofQ plansOK follows (sumsC_ok N) stT)
theorem paS_ok (N : Nat → Prop) : SumsOK Tryz.prog N paS := (stS_ok N).oracleK paP (fun N => SF.ofQ plansOK follows (sumsC_ok N) paT)
theorem saS_ok (N : Nat → Prop) : SumsOK Tryz.prog N saS := (paS_ok N).oracleK saP (fun N => SF.ofQ plansOK follows (sumsC_ok N) saT)
theorem pcS_ok (N : Nat → Prop) : SumsOK Tryz.prog N pcS := (saS_ok N).oracleK pcP (fun N => SF.ofQ plansOK follows (sumsC_ok N) pcT)
theorem sbS_ok (N : Nat → Prop) : SumsOK Tryz.prog N sbS := (pcS_ok N).oracleK sbP (fun N => SF.ofQ plansOK follows (sumsC_ok N) sbT)
theorem caS_ok (N : Nat → Prop) : SumsOK Tryz.prog N caS := (sbS_ok N).oracleK caP (fun N => SF.ofQ plansOK follows (sumsC_ok N) caT)
theorem main_iso : Iso Tryz.prog 3 (.bool true) := Iso.ofQ plansOK follows caS_ok rfl mainT
theorem main_calls (W : World) (hl : 8 ≤ W.heap.size) : Calls Tryz.prog 3 #[] W fun e W' => e = .returned (.bool true) ∧ Go.RowKit.Below W.heap.size W W' := by
  refine (main_iso.calls (w := W) hl rfl (enters_of Tryz.func3 (by kernel_rfl) rfl _ _)).mono fun e W' he => ?_
  obtain ⟨val, rfl, hv, hb⟩ := he
  simp only [VR] at hv
  exact ⟨by rw [hv], hb⟩
end Go.Ev

/- The pieces joined: from whatever world, PlayKnown returns true, and what was there stays. -/
import Derived.Test.YtpenopggmbpefaaGreatDoorPz00
import Derived.Test.YtpenopggmbpefaaGreatDoorPz01
import Derived.Test.YtpenopggmbpefaaGreatDoorPz02
import Derived.Test.YtpenopggmbpefaaGreatDoorPz03
import Derived.Test.YtpenopggmbpefaaGreatDoorPz04
import Derived.Test.YtpenopggmbpefaaGreatDoorPz05
import Derived.Test.YtpenopggmbpefaaGreatDoorPz06
import Derived.Test.YtpenopggmbpefaaGreatDoorPz07
import Derived.Test.YtpenopggmbpefaaGreatDoorPz08
import Derived.Test.YtpenopggmbpefaaGreatDoorPz09
import Derived.Test.YtpenopggmbpefaaGreatDoorPz10
import Derived.Test.YtpenopggmbpefaaGreatDoorPmain
import Derived.Test.YtpenopggmbpefaaGreatDoorE4
set_option linter.unusedVariables false
namespace Go.Ev
open Go Go.RowKit Go.Proofs
theorem follows : Tryz.prog.follows .mixedOrders = true := by kernel_rfl
theorem oaS_ok (N : Nat → Prop) : SumsOK Tryz.prog N oaS := (sumsC_ok N).oracleK oaP (fun N => SF.ofQ plansOK follows (sumsC_ok N) oaT)
theorem obS_ok (N : Nat → Prop) : SumsOK Tryz.prog N obS := (sumsC_ok N).oracleK obP (fun N => SF.ofQ plansOK follows (sumsC_ok N) obT)
theorem saS_ok (N : Nat → Prop) : SumsOK Tryz.prog N saS := (obS_ok N).oracleK saP (fun N => SF.ofQ plansOK follows (sumsC_ok N) saT)
theorem caS_ok (N : Nat → Prop) : SumsOK Tryz.prog N caS := (saS_ok N).oracleK caP (fun N => SF.ofQ plansOK follows (sumsC_ok N) caT)
theorem ocS_ok (N : Nat → Prop) : SumsOK Tryz.prog N ocS := (caS_ok N).oracleK ocP (fun N => SF.ofQ plansOK follows (sumsC_ok N) ocT)
theorem sbS_ok (N : Nat → Prop) : SumsOK Tryz.prog N sbS := (ocS_ok N).oracleK sbP (fun N => SF.ofQ plansOK follows (sumsC_ok N) sbT)
theorem baS_ok (N : Nat → Prop) : SumsOK Tryz.prog N baS := (oaS_ok N).oracleK baP (fun N => SF.ofQ plansOK follows (sbS_ok N) baT)
theorem raS_ok (N : Nat → Prop) : SumsOK Tryz.prog N raS := (sumsC_ok N).oracleK raP (fun N => SF.ofQ plansOK follows (baS_ok N) raT)
theorem rbS_ok (N : Nat → Prop) : SumsOK Tryz.prog N rbS := (raS_ok N).oracleK rbP (fun N => SF.ofQ plansOK follows (sumsC_ok N) rbT)
theorem odS_ok (N : Nat → Prop) : SumsOK Tryz.prog N odS := (sumsC_ok N).oracleK odP (fun N => SF.ofQ plansOK follows (sumsC_ok N) odT)
theorem paS_ok (N : Nat → Prop) : SumsOK Tryz.prog N paS := (odS_ok N).oracleK paP (fun N => SF.ofQ plansOK follows (sumsC_ok N) paT)
theorem pbS_ok (N : Nat → Prop) : SumsOK Tryz.prog N pbS := (paS_ok N).oracleK pbP (fun N => SF.ofQ plansOK follows (sumsC_ok N) pbT)
theorem oeS_ok (N : Nat → Prop) : SumsOK Tryz.prog N oeS := (sumsC_ok N).oracleK oeP (fun N => SF.ofQ plansOK follows (sumsC_ok N) oeT)
theorem scS_ok (N : Nat → Prop) : SumsOK Tryz.prog N scS := (oeS_ok N).oracleK scP (fun N => SF.ofQ plansOK follows (sumsC_ok N) scT)
theorem cbS_ok (N : Nat → Prop) : SumsOK Tryz.prog N cbS := (scS_ok N).oracleK cbP (fun N => SF.ofQ plansOK follows (sumsC_ok N) cbT)
theorem ofS_ok (N : Nat → Prop) : SumsOK Tryz.prog N ofS := (cbS_ok N).oracleK ofP (fun N => SF.ofQ plansOK follows (sumsC_ok N) ofT)
theorem sdS_ok (N : Nat → Prop) : SumsOK Tryz.prog N sdS := (ofS_ok N).oracleK sdP (fun N => SF.ofQ plansOK follows (sumsC_ok N) sdT)
theorem bdS_ok (N : Nat → Prop) : SumsOK Tryz.prog N bdS := (pbS_ok N).oracleK bdP (fun N => SF.ofQ plansOK follows (sdS_ok N) bdT)
theorem rdS_ok (N : Nat → Prop) : SumsOK Tryz.prog N rdS := (sumsC_ok N).oracleK rdP (fun N => SF.ofQ plansOK follows (bdS_ok N) rdT)
theorem awS_ok (N : Nat → Prop) : SumsOK Tryz.prog N awS := (rbS_ok N).oracleK awP (fun N => SF.ofQ plansOK follows (rdS_ok N) awT)
theorem main_iso : Iso Tryz.prog 3 (.bool true) := Iso.ofQ plansOK follows awS_ok rfl mainT
theorem main_calls (W : World) (hl : 8 ≤ W.heap.size) : Calls Tryz.prog 3 #[] W fun e W' => e = .returned (.bool true) ∧ Go.RowKit.Below W.heap.size W W' := by
  refine (main_iso.calls (w := W) hl rfl (enters_of Tryz.func3 (by kernel_rfl) rfl _ _)).mono fun e W' he => ?_
  obtain ⟨val, rfl, hv, hb⟩ := he
  simp only [VR] at hv
  exact ⟨by rw [hv], hb⟩
end Go.Ev

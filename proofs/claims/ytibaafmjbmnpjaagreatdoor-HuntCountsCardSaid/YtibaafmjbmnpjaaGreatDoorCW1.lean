/- The pieces joined: from whatever world, HuntCounts returns true, and what was there stays. -/
import Derived.Test.YtibaafmjbmnpjaaGreatDoorCPz00
import Derived.Test.YtibaafmjbmnpjaaGreatDoorCPz01
import Derived.Test.YtibaafmjbmnpjaaGreatDoorCPz02
import Derived.Test.YtibaafmjbmnpjaaGreatDoorCPz03
import Derived.Test.YtibaafmjbmnpjaaGreatDoorCPz04
import Derived.Test.YtibaafmjbmnpjaaGreatDoorCPz05
import Derived.Test.YtibaafmjbmnpjaaGreatDoorCPz06
import Derived.Test.YtibaafmjbmnpjaaGreatDoorCPz07
import Derived.Test.YtibaafmjbmnpjaaGreatDoorCPz08
import Derived.Test.YtibaafmjbmnpjaaGreatDoorCPmain
import Derived.Test.YtibaafmjbmnpjaaGreatDoorE4
set_option linter.unusedVariables false
namespace Go.Ev
open Go Go.RowKit Go.Proofs
theorem follows : Tryz.prog.follows .mixedOrders = true := by kernel_rfl
theorem c002S_ok (N : Nat → Prop) : SumsOK Tryz.prog N c002S := (sumsC_ok N).oracleK c002P (fun N => SF.ofQ plansOK follows (sumsC_ok N) c002T)
theorem c004S_ok (N : Nat → Prop) : SumsOK Tryz.prog N c004S := (sumsC_ok N).oracleK c004P (fun N => SF.ofQ plansOK follows (sumsC_ok N) c004T)
theorem c005S_ok (N : Nat → Prop) : SumsOK Tryz.prog N c005S := (c004S_ok N).oracleK c005P (fun N => SF.ofQ plansOK follows (sumsC_ok N) c005T)
theorem c006S_ok (N : Nat → Prop) : SumsOK Tryz.prog N c006S := (c005S_ok N).oracleK c006P (fun N => SF.ofQ plansOK follows (sumsC_ok N) c006T)
theorem c007S_ok (N : Nat → Prop) : SumsOK Tryz.prog N c007S := (c006S_ok N).oracleK c007P (fun N => SF.ofQ plansOK follows (sumsC_ok N) c007T)
theorem c008S_ok (N : Nat → Prop) : SumsOK Tryz.prog N c008S := (c007S_ok N).oracleK c008P (fun N => SF.ofQ plansOK follows (sumsC_ok N) c008T)
theorem c003S_ok (N : Nat → Prop) : SumsOK Tryz.prog N c003S := (c002S_ok N).oracleK c003P (fun N => SF.ofQ plansOK follows (c008S_ok N) c003T)
theorem c001S_ok (N : Nat → Prop) : SumsOK Tryz.prog N c001S := (sumsC_ok N).oracleK c001P (fun N => SF.ofQ plansOK follows (c003S_ok N) c001T)
theorem c010S_ok (N : Nat → Prop) : SumsOK Tryz.prog N c010S := (sumsC_ok N).oracleK c010P (fun N => SF.ofQ plansOK follows (sumsC_ok N) c010T)
theorem c011S_ok (N : Nat → Prop) : SumsOK Tryz.prog N c011S := (c010S_ok N).oracleK c011P (fun N => SF.ofQ plansOK follows (sumsC_ok N) c011T)
theorem c013S_ok (N : Nat → Prop) : SumsOK Tryz.prog N c013S := (sumsC_ok N).oracleK c013P (fun N => SF.ofQ plansOK follows (sumsC_ok N) c013T)
theorem c014S_ok (N : Nat → Prop) : SumsOK Tryz.prog N c014S := (c013S_ok N).oracleK c014P (fun N => SF.ofQ plansOK follows (sumsC_ok N) c014T)
theorem c015S_ok (N : Nat → Prop) : SumsOK Tryz.prog N c015S := (c014S_ok N).oracleK c015P (fun N => SF.ofQ plansOK follows (sumsC_ok N) c015T)
theorem c016S_ok (N : Nat → Prop) : SumsOK Tryz.prog N c016S := (c015S_ok N).oracleK c016P (fun N => SF.ofQ plansOK follows (sumsC_ok N) c016T)
theorem c017S_ok (N : Nat → Prop) : SumsOK Tryz.prog N c017S := (c016S_ok N).oracleK c017P (fun N => SF.ofQ plansOK follows (sumsC_ok N) c017T)
theorem c012S_ok (N : Nat → Prop) : SumsOK Tryz.prog N c012S := (c011S_ok N).oracleK c012P (fun N => SF.ofQ plansOK follows (c017S_ok N) c012T)
theorem c009S_ok (N : Nat → Prop) : SumsOK Tryz.prog N c009S := (c001S_ok N).oracleK c009P (fun N => SF.ofQ plansOK follows (c012S_ok N) c009T)
theorem c019S_ok (N : Nat → Prop) : SumsOK Tryz.prog N c019S := (sumsC_ok N).oracleK c019P (fun N => SF.ofQ plansOK follows (sumsC_ok N) c019T)
theorem c020S_ok (N : Nat → Prop) : SumsOK Tryz.prog N c020S := (c019S_ok N).oracleK c020P (fun N => SF.ofQ plansOK follows (sumsC_ok N) c020T)
theorem c022S_ok (N : Nat → Prop) : SumsOK Tryz.prog N c022S := (sumsC_ok N).oracleK c022P (fun N => SF.ofQ plansOK follows (sumsC_ok N) c022T)
theorem c023S_ok (N : Nat → Prop) : SumsOK Tryz.prog N c023S := (c022S_ok N).oracleK c023P (fun N => SF.ofQ plansOK follows (sumsC_ok N) c023T)
theorem c024S_ok (N : Nat → Prop) : SumsOK Tryz.prog N c024S := (c023S_ok N).oracleK c024P (fun N => SF.ofQ plansOK follows (sumsC_ok N) c024T)
theorem c025S_ok (N : Nat → Prop) : SumsOK Tryz.prog N c025S := (c024S_ok N).oracleK c025P (fun N => SF.ofQ plansOK follows (sumsC_ok N) c025T)
theorem c026S_ok (N : Nat → Prop) : SumsOK Tryz.prog N c026S := (c025S_ok N).oracleK c026P (fun N => SF.ofQ plansOK follows (sumsC_ok N) c026T)
theorem c021S_ok (N : Nat → Prop) : SumsOK Tryz.prog N c021S := (c020S_ok N).oracleK c021P (fun N => SF.ofQ plansOK follows (c026S_ok N) c021T)
theorem c018S_ok (N : Nat → Prop) : SumsOK Tryz.prog N c018S := (c009S_ok N).oracleK c018P (fun N => SF.ofQ plansOK follows (c021S_ok N) c018T)
theorem c028S_ok (N : Nat → Prop) : SumsOK Tryz.prog N c028S := (sumsC_ok N).oracleK c028P (fun N => SF.ofQ plansOK follows (sumsC_ok N) c028T)
theorem c029S_ok (N : Nat → Prop) : SumsOK Tryz.prog N c029S := (c028S_ok N).oracleK c029P (fun N => SF.ofQ plansOK follows (sumsC_ok N) c029T)
theorem c030S_ok (N : Nat → Prop) : SumsOK Tryz.prog N c030S := (c029S_ok N).oracleK c030P (fun N => SF.ofQ plansOK follows (sumsC_ok N) c030T)
theorem d000S_ok (N : Nat → Prop) : SumsOK Tryz.prog N d000S := (sumsC_ok N).oracleK d000P (fun N => SF.ofQ plansOK follows (sumsC_ok N) d000T)
theorem c032S_ok (N : Nat → Prop) : SumsOK Tryz.prog N c032S := (sumsC_ok N).oracleK c032P (fun N => SF.ofQ plansOK follows (d000S_ok N) c032T)
theorem c033S_ok (N : Nat → Prop) : SumsOK Tryz.prog N c033S := (c032S_ok N).oracleK c033P (fun N => SF.ofQ plansOK follows (sumsC_ok N) c033T)
theorem c034S_ok (N : Nat → Prop) : SumsOK Tryz.prog N c034S := (c033S_ok N).oracleK c034P (fun N => SF.ofQ plansOK follows (sumsC_ok N) c034T)
theorem d001S_ok (N : Nat → Prop) : SumsOK Tryz.prog N d001S := (sumsC_ok N).oracleK d001P (fun N => SF.ofQ plansOK follows (sumsC_ok N) d001T)
theorem c035S_ok (N : Nat → Prop) : SumsOK Tryz.prog N c035S := (c034S_ok N).oracleK c035P (fun N => SF.ofQ plansOK follows (d001S_ok N) c035T)
theorem c036S_ok (N : Nat → Prop) : SumsOK Tryz.prog N c036S := (c035S_ok N).oracleK c036P (fun N => SF.ofQ plansOK follows (sumsC_ok N) c036T)
theorem c031S_ok (N : Nat → Prop) : SumsOK Tryz.prog N c031S := (c030S_ok N).oracleK c031P (fun N => SF.ofQ plansOK follows (c036S_ok N) c031T)
theorem c027S_ok (N : Nat → Prop) : SumsOK Tryz.prog N c027S := (c018S_ok N).oracleK c027P (fun N => SF.ofQ plansOK follows (c031S_ok N) c027T)
theorem c038S_ok (N : Nat → Prop) : SumsOK Tryz.prog N c038S := (sumsC_ok N).oracleK c038P (fun N => SF.ofQ plansOK follows (sumsC_ok N) c038T)
theorem c039S_ok (N : Nat → Prop) : SumsOK Tryz.prog N c039S := (c038S_ok N).oracleK c039P (fun N => SF.ofQ plansOK follows (sumsC_ok N) c039T)
theorem c040S_ok (N : Nat → Prop) : SumsOK Tryz.prog N c040S := (c039S_ok N).oracleK c040P (fun N => SF.ofQ plansOK follows (sumsC_ok N) c040T)
theorem e000S_ok (N : Nat → Prop) : SumsOK Tryz.prog N e000S := (sumsC_ok N).oracleK e000P (fun N => SF.ofQ plansOK follows (sumsC_ok N) e000T)
theorem c042S_ok (N : Nat → Prop) : SumsOK Tryz.prog N c042S := (sumsC_ok N).oracleK c042P (fun N => SF.ofQ plansOK follows (e000S_ok N) c042T)
theorem c043S_ok (N : Nat → Prop) : SumsOK Tryz.prog N c043S := (c042S_ok N).oracleK c043P (fun N => SF.ofQ plansOK follows (sumsC_ok N) c043T)
theorem c044S_ok (N : Nat → Prop) : SumsOK Tryz.prog N c044S := (c043S_ok N).oracleK c044P (fun N => SF.ofQ plansOK follows (sumsC_ok N) c044T)
theorem e001S_ok (N : Nat → Prop) : SumsOK Tryz.prog N e001S := (sumsC_ok N).oracleK e001P (fun N => SF.ofQ plansOK follows (sumsC_ok N) e001T)
theorem c045S_ok (N : Nat → Prop) : SumsOK Tryz.prog N c045S := (c044S_ok N).oracleK c045P (fun N => SF.ofQ plansOK follows (e001S_ok N) c045T)
theorem c046S_ok (N : Nat → Prop) : SumsOK Tryz.prog N c046S := (c045S_ok N).oracleK c046P (fun N => SF.ofQ plansOK follows (sumsC_ok N) c046T)
theorem c041S_ok (N : Nat → Prop) : SumsOK Tryz.prog N c041S := (c040S_ok N).oracleK c041P (fun N => SF.ofQ plansOK follows (c046S_ok N) c041T)
theorem c037S_ok (N : Nat → Prop) : SumsOK Tryz.prog N c037S := (c027S_ok N).oracleK c037P (fun N => SF.ofQ plansOK follows (c041S_ok N) c037T)
theorem c000S_ok (N : Nat → Prop) : SumsOK Tryz.prog N c000S := (sumsC_ok N).oracleK c000P (fun N => SF.ofQ plansOK follows (c037S_ok N) c000T)
theorem main_iso : Iso Tryz.prog 20 (.bool true) := Iso.ofQ plansOK follows c000S_ok rfl mainT
theorem main_calls (W : World) (hl : 8 ≤ W.heap.size) : Calls Tryz.prog 20 #[] W fun e W' => e = .returned (.bool true) ∧ Go.RowKit.Below W.heap.size W W' := by
  refine (main_iso.calls (w := W) hl rfl (enters_of Tryz.func20 (by kernel_rfl) rfl _ _)).mono fun e W' he => ?_
  obtain ⟨val, rfl, hv, hb⟩ := he
  simp only [VR] at hv
  exact ⟨by rw [hv], hb⟩
end Go.Ev

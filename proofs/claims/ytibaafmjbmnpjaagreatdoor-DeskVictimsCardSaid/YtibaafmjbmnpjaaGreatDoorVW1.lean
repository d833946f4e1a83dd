/- The pieces joined: from whatever world, DeskVictims returns true, and what was there stays. -/
import Derived.Test.YtibaafmjbmnpjaaGreatDoorVPz00
import Derived.Test.YtibaafmjbmnpjaaGreatDoorVPz01
import Derived.Test.YtibaafmjbmnpjaaGreatDoorVPz02
import Derived.Test.YtibaafmjbmnpjaaGreatDoorVPz03
import Derived.Test.YtibaafmjbmnpjaaGreatDoorVPz04
import Derived.Test.YtibaafmjbmnpjaaGreatDoorVPz05
import Derived.Test.YtibaafmjbmnpjaaGreatDoorVPz06
import Derived.Test.YtibaafmjbmnpjaaGreatDoorVPz07
import Derived.Test.YtibaafmjbmnpjaaGreatDoorVPz08
import Derived.Test.YtibaafmjbmnpjaaGreatDoorVPz09
import Derived.Test.YtibaafmjbmnpjaaGreatDoorVPz10
import Derived.Test.YtibaafmjbmnpjaaGreatDoorVPz11
import Derived.Test.YtibaafmjbmnpjaaGreatDoorVPz12
import Derived.Test.YtibaafmjbmnpjaaGreatDoorVPz13
import Derived.Test.YtibaafmjbmnpjaaGreatDoorVPz14
import Derived.Test.YtibaafmjbmnpjaaGreatDoorVPz15
import Derived.Test.YtibaafmjbmnpjaaGreatDoorVPz16
import Derived.Test.YtibaafmjbmnpjaaGreatDoorVPz17
import Derived.Test.YtibaafmjbmnpjaaGreatDoorVPz18
import Derived.Test.YtibaafmjbmnpjaaGreatDoorVPz19
import Derived.Test.YtibaafmjbmnpjaaGreatDoorE4
set_option linter.unusedVariables false
namespace Go.Ev
open Go Go.RowKit Go.Proofs
theorem follows : Tryz.prog.follows .mixedOrders = true := by kernel_rfl
theorem v001S_ok (N : Nat → Prop) : SumsOK Tryz.prog N v001S := (sumsC_ok N).oracleK v001P (fun N => SF.ofQ plansOK follows (sumsC_ok N) v001T)
theorem v002S_ok (N : Nat → Prop) : SumsOK Tryz.prog N v002S := (v001S_ok N).oracleK v002P (fun N => SF.ofQ plansOK follows (sumsC_ok N) v002T)
theorem v003S_ok (N : Nat → Prop) : SumsOK Tryz.prog N v003S := (v002S_ok N).oracleK v003P (fun N => SF.ofQ plansOK follows (sumsC_ok N) v003T)
theorem v004S_ok (N : Nat → Prop) : SumsOK Tryz.prog N v004S := (v003S_ok N).oracleK v004P (fun N => SF.ofQ plansOK follows (sumsC_ok N) v004T)
theorem v000S_ok (N : Nat → Prop) : SumsOK Tryz.prog N v000S := (sumsC_ok N).oracleK v000P (fun N => SF.ofQ plansOK follows (v004S_ok N) v000T)
theorem v005S_ok (N : Nat → Prop) : SumsOK Tryz.prog N v005S := (v000S_ok N).oracleK v005P (fun N => SF.ofQ plansOK follows (sumsC_ok N) v005T)
theorem v006S_ok (N : Nat → Prop) : SumsOK Tryz.prog N v006S := (v005S_ok N).oracleK v006P (fun N => SF.ofQ plansOK follows (sumsC_ok N) v006T)
theorem v007S_ok (N : Nat → Prop) : SumsOK Tryz.prog N v007S := (v006S_ok N).oracleK v007P (fun N => SF.ofQ plansOK follows (sumsC_ok N) v007T)
theorem v008S_ok (N : Nat → Prop) : SumsOK Tryz.prog N v008S := (v007S_ok N).oracleK v008P (fun N => SF.ofQ plansOK follows (sumsC_ok N) v008T)
theorem v009S_ok (N : Nat → Prop) : SumsOK Tryz.prog N v009S := (v008S_ok N).oracleK v009P (fun N => SF.ofQ plansOK follows (sumsC_ok N) v009T)
theorem v010S_ok (N : Nat → Prop) : SumsOK Tryz.prog N v010S := (v009S_ok N).oracleK v010P (fun N => SF.ofQ plansOK follows (sumsC_ok N) v010T)
theorem v011S_ok (N : Nat → Prop) : SumsOK Tryz.prog N v011S := (v010S_ok N).oracleK v011P (fun N => SF.ofQ plansOK follows (sumsC_ok N) v011T)
theorem v012S_ok (N : Nat → Prop) : SumsOK Tryz.prog N v012S := (v011S_ok N).oracleK v012P (fun N => SF.ofQ plansOK follows (sumsC_ok N) v012T)
theorem v013S_ok (N : Nat → Prop) : SumsOK Tryz.prog N v013S := (v012S_ok N).oracleK v013P (fun N => SF.ofQ plansOK follows (sumsC_ok N) v013T)
theorem v014S_ok (N : Nat → Prop) : SumsOK Tryz.prog N v014S := (v013S_ok N).oracleK v014P (fun N => SF.ofQ plansOK follows (sumsC_ok N) v014T)
theorem v015S_ok (N : Nat → Prop) : SumsOK Tryz.prog N v015S := (v014S_ok N).oracleK v015P (fun N => SF.ofQ plansOK follows (sumsC_ok N) v015T)
theorem v016S_ok (N : Nat → Prop) : SumsOK Tryz.prog N v016S := (v015S_ok N).oracleK v016P (fun N => SF.ofQ plansOK follows (sumsC_ok N) v016T)
theorem v017S_ok (N : Nat → Prop) : SumsOK Tryz.prog N v017S := (v016S_ok N).oracleK v017P (fun N => SF.ofQ plansOK follows (sumsC_ok N) v017T)
theorem v018S_ok (N : Nat → Prop) : SumsOK Tryz.prog N v018S := (v017S_ok N).oracleK v018P (fun N => SF.ofQ plansOK follows (sumsC_ok N) v018T)
theorem v019S_ok (N : Nat → Prop) : SumsOK Tryz.prog N v019S := (v018S_ok N).oracleK v019P (fun N => SF.ofQ plansOK follows (sumsC_ok N) v019T)
theorem v020S_ok (N : Nat → Prop) : SumsOK Tryz.prog N v020S := (v019S_ok N).oracleK v020P (fun N => SF.ofQ plansOK follows (sumsC_ok N) v020T)
theorem v021S_ok (N : Nat → Prop) : SumsOK Tryz.prog N v021S := (v020S_ok N).oracleK v021P (fun N => SF.ofQ plansOK follows (sumsC_ok N) v021T)
theorem v022S_ok (N : Nat → Prop) : SumsOK Tryz.prog N v022S := (v021S_ok N).oracleK v022P (fun N => SF.ofQ plansOK follows (sumsC_ok N) v022T)
theorem v023S_ok (N : Nat → Prop) : SumsOK Tryz.prog N v023S := (v022S_ok N).oracleK v023P (fun N => SF.ofQ plansOK follows (sumsC_ok N) v023T)
theorem v024S_ok (N : Nat → Prop) : SumsOK Tryz.prog N v024S := (v023S_ok N).oracleK v024P (fun N => SF.ofQ plansOK follows (sumsC_ok N) v024T)
theorem v025S_ok (N : Nat → Prop) : SumsOK Tryz.prog N v025S := (v024S_ok N).oracleK v025P (fun N => SF.ofQ plansOK follows (sumsC_ok N) v025T)
theorem w001S_ok (N : Nat → Prop) : SumsOK Tryz.prog N w001S := (sumsC_ok N).oracleK w001P (fun N => SF.ofQ plansOK follows (sumsC_ok N) w001T)
theorem w002S_ok (N : Nat → Prop) : SumsOK Tryz.prog N w002S := (w001S_ok N).oracleK w002P (fun N => SF.ofQ plansOK follows (sumsC_ok N) w002T)
theorem w003S_ok (N : Nat → Prop) : SumsOK Tryz.prog N w003S := (w002S_ok N).oracleK w003P (fun N => SF.ofQ plansOK follows (sumsC_ok N) w003T)
theorem w004S_ok (N : Nat → Prop) : SumsOK Tryz.prog N w004S := (w003S_ok N).oracleK w004P (fun N => SF.ofQ plansOK follows (sumsC_ok N) w004T)
theorem w000S_ok (N : Nat → Prop) : SumsOK Tryz.prog N w000S := (sumsC_ok N).oracleK w000P (fun N => SF.ofQ plansOK follows (w004S_ok N) w000T)
theorem w005S_ok (N : Nat → Prop) : SumsOK Tryz.prog N w005S := (w000S_ok N).oracleK w005P (fun N => SF.ofQ plansOK follows (sumsC_ok N) w005T)
theorem w006S_ok (N : Nat → Prop) : SumsOK Tryz.prog N w006S := (w005S_ok N).oracleK w006P (fun N => SF.ofQ plansOK follows (sumsC_ok N) w006T)
theorem w007S_ok (N : Nat → Prop) : SumsOK Tryz.prog N w007S := (w006S_ok N).oracleK w007P (fun N => SF.ofQ plansOK follows (sumsC_ok N) w007T)
theorem w008S_ok (N : Nat → Prop) : SumsOK Tryz.prog N w008S := (w007S_ok N).oracleK w008P (fun N => SF.ofQ plansOK follows (sumsC_ok N) w008T)
theorem w009S_ok (N : Nat → Prop) : SumsOK Tryz.prog N w009S := (w008S_ok N).oracleK w009P (fun N => SF.ofQ plansOK follows (sumsC_ok N) w009T)
theorem w010S_ok (N : Nat → Prop) : SumsOK Tryz.prog N w010S := (w009S_ok N).oracleK w010P (fun N => SF.ofQ plansOK follows (sumsC_ok N) w010T)
theorem w011S_ok (N : Nat → Prop) : SumsOK Tryz.prog N w011S := (w010S_ok N).oracleK w011P (fun N => SF.ofQ plansOK follows (sumsC_ok N) w011T)
theorem w012S_ok (N : Nat → Prop) : SumsOK Tryz.prog N w012S := (w011S_ok N).oracleK w012P (fun N => SF.ofQ plansOK follows (sumsC_ok N) w012T)
theorem w013S_ok (N : Nat → Prop) : SumsOK Tryz.prog N w013S := (w012S_ok N).oracleK w013P (fun N => SF.ofQ plansOK follows (sumsC_ok N) w013T)
theorem w014S_ok (N : Nat → Prop) : SumsOK Tryz.prog N w014S := (w013S_ok N).oracleK w014P (fun N => SF.ofQ plansOK follows (sumsC_ok N) w014T)
theorem w015S_ok (N : Nat → Prop) : SumsOK Tryz.prog N w015S := (w014S_ok N).oracleK w015P (fun N => SF.ofQ plansOK follows (sumsC_ok N) w015T)
theorem w016S_ok (N : Nat → Prop) : SumsOK Tryz.prog N w016S := (w015S_ok N).oracleK w016P (fun N => SF.ofQ plansOK follows (sumsC_ok N) w016T)
theorem w017S_ok (N : Nat → Prop) : SumsOK Tryz.prog N w017S := (w016S_ok N).oracleK w017P (fun N => SF.ofQ plansOK follows (sumsC_ok N) w017T)
theorem w018S_ok (N : Nat → Prop) : SumsOK Tryz.prog N w018S := (w017S_ok N).oracleK w018P (fun N => SF.ofQ plansOK follows (sumsC_ok N) w018T)
theorem w019S_ok (N : Nat → Prop) : SumsOK Tryz.prog N w019S := (w018S_ok N).oracleK w019P (fun N => SF.ofQ plansOK follows (sumsC_ok N) w019T)
theorem w020S_ok (N : Nat → Prop) : SumsOK Tryz.prog N w020S := (w019S_ok N).oracleK w020P (fun N => SF.ofQ plansOK follows (sumsC_ok N) w020T)
theorem w021S_ok (N : Nat → Prop) : SumsOK Tryz.prog N w021S := (w020S_ok N).oracleK w021P (fun N => SF.ofQ plansOK follows (sumsC_ok N) w021T)
theorem w022S_ok (N : Nat → Prop) : SumsOK Tryz.prog N w022S := (w021S_ok N).oracleK w022P (fun N => SF.ofQ plansOK follows (sumsC_ok N) w022T)
theorem w023S_ok (N : Nat → Prop) : SumsOK Tryz.prog N w023S := (w022S_ok N).oracleK w023P (fun N => SF.ofQ plansOK follows (sumsC_ok N) w023T)
theorem w024S_ok (N : Nat → Prop) : SumsOK Tryz.prog N w024S := (w023S_ok N).oracleK w024P (fun N => SF.ofQ plansOK follows (sumsC_ok N) w024T)
theorem w025S_ok (N : Nat → Prop) : SumsOK Tryz.prog N w025S := (w024S_ok N).oracleK w025P (fun N => SF.ofQ plansOK follows (sumsC_ok N) w025T)
theorem w026S_ok (N : Nat → Prop) : SumsOK Tryz.prog N w026S := (w025S_ok N).oracleK w026P (fun N => SF.ofQ plansOK follows (sumsC_ok N) w026T)
theorem w027S_ok (N : Nat → Prop) : SumsOK Tryz.prog N w027S := (w026S_ok N).oracleK w027P (fun N => SF.ofQ plansOK follows (sumsC_ok N) w027T)
theorem w028S_ok (N : Nat → Prop) : SumsOK Tryz.prog N w028S := (w027S_ok N).oracleK w028P (fun N => SF.ofQ plansOK follows (sumsC_ok N) w028T)
theorem w029S_ok (N : Nat → Prop) : SumsOK Tryz.prog N w029S := (w028S_ok N).oracleK w029P (fun N => SF.ofQ plansOK follows (sumsC_ok N) w029T)
theorem w030S_ok (N : Nat → Prop) : SumsOK Tryz.prog N w030S := (w029S_ok N).oracleK w030P (fun N => SF.ofQ plansOK follows (sumsC_ok N) w030T)
end Go.Ev

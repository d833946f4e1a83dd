/- The pieces joined: from whatever world, HuntKnown returns true, and what was there stays. -/
import Derived.Test.YtibaafmjbmnpjaaGreatDoorKPz00
import Derived.Test.YtibaafmjbmnpjaaGreatDoorKPz01
import Derived.Test.YtibaafmjbmnpjaaGreatDoorKPz02
import Derived.Test.YtibaafmjbmnpjaaGreatDoorKPz03
import Derived.Test.YtibaafmjbmnpjaaGreatDoorKPz04
import Derived.Test.YtibaafmjbmnpjaaGreatDoorKPz05
import Derived.Test.YtibaafmjbmnpjaaGreatDoorKPz06
import Derived.Test.YtibaafmjbmnpjaaGreatDoorKPz07
import Derived.Test.YtibaafmjbmnpjaaGreatDoorKPz08
import Derived.Test.YtibaafmjbmnpjaaGreatDoorKPz09
import Derived.Test.YtibaafmjbmnpjaaGreatDoorKPz10
import Derived.Test.YtibaafmjbmnpjaaGreatDoorKPz11
import Derived.Test.YtibaafmjbmnpjaaGreatDoorKPz12
import Derived.Test.YtibaafmjbmnpjaaGreatDoorKPz13
import Derived.Test.YtibaafmjbmnpjaaGreatDoorKPz14
import Derived.Test.YtibaafmjbmnpjaaGreatDoorKPz15
import Derived.Test.YtibaafmjbmnpjaaGreatDoorKPz16
import Derived.Test.YtibaafmjbmnpjaaGreatDoorKPz17
import Derived.Test.YtibaafmjbmnpjaaGreatDoorKPz18
import Derived.Test.YtibaafmjbmnpjaaGreatDoorKPz19
import Derived.Test.YtibaafmjbmnpjaaGreatDoorKPz20
import Derived.Test.YtibaafmjbmnpjaaGreatDoorKPz21
import Derived.Test.YtibaafmjbmnpjaaGreatDoorKPz22
import Derived.Test.YtibaafmjbmnpjaaGreatDoorKPmain
import Derived.Test.YtibaafmjbmnpjaaGreatDoorE4
set_option linter.unusedVariables false
namespace Go.Ev
open Go Go.RowKit Go.Proofs
theorem follows : Tryz.prog.follows .mixedOrders = true := by kernel_rfl
theorem h002S_ok (N : Nat → Prop) : SumsOK Tryz.prog N h002S := (sumsC_ok N).oracleK h002P (fun N => SF.ofQ plansOK follows (sumsC_ok N) h002T)
theorem h004S_ok (N : Nat → Prop) : SumsOK Tryz.prog N h004S := (sumsC_ok N).oracleK h004P (fun N => SF.ofQ plansOK follows (sumsC_ok N) h004T)
theorem h005S_ok (N : Nat → Prop) : SumsOK Tryz.prog N h005S := (h004S_ok N).oracleK h005P (fun N => SF.ofQ plansOK follows (sumsC_ok N) h005T)
theorem h006S_ok (N : Nat → Prop) : SumsOK Tryz.prog N h006S := (h005S_ok N).oracleK h006P (fun N => SF.ofQ plansOK follows (sumsC_ok N) h006T)
theorem h007S_ok (N : Nat → Prop) : SumsOK Tryz.prog N h007S := (h006S_ok N).oracleK h007P (fun N => SF.ofQ plansOK follows (sumsC_ok N) h007T)
theorem h008S_ok (N : Nat → Prop) : SumsOK Tryz.prog N h008S := (h007S_ok N).oracleK h008P (fun N => SF.ofQ plansOK follows (sumsC_ok N) h008T)
theorem h003S_ok (N : Nat → Prop) : SumsOK Tryz.prog N h003S := (h002S_ok N).oracleK h003P (fun N => SF.ofQ plansOK follows (h008S_ok N) h003T)
theorem h001S_ok (N : Nat → Prop) : SumsOK Tryz.prog N h001S := (sumsC_ok N).oracleK h001P (fun N => SF.ofQ plansOK follows (h003S_ok N) h001T)
theorem h010S_ok (N : Nat → Prop) : SumsOK Tryz.prog N h010S := (sumsC_ok N).oracleK h010P (fun N => SF.ofQ plansOK follows (sumsC_ok N) h010T)
theorem h011S_ok (N : Nat → Prop) : SumsOK Tryz.prog N h011S := (h010S_ok N).oracleK h011P (fun N => SF.ofQ plansOK follows (sumsC_ok N) h011T)
theorem h013S_ok (N : Nat → Prop) : SumsOK Tryz.prog N h013S := (sumsC_ok N).oracleK h013P (fun N => SF.ofQ plansOK follows (sumsC_ok N) h013T)
theorem h014S_ok (N : Nat → Prop) : SumsOK Tryz.prog N h014S := (h013S_ok N).oracleK h014P (fun N => SF.ofQ plansOK follows (sumsC_ok N) h014T)
theorem h015S_ok (N : Nat → Prop) : SumsOK Tryz.prog N h015S := (h014S_ok N).oracleK h015P (fun N => SF.ofQ plansOK follows (sumsC_ok N) h015T)
theorem h016S_ok (N : Nat → Prop) : SumsOK Tryz.prog N h016S := (h015S_ok N).oracleK h016P (fun N => SF.ofQ plansOK follows (sumsC_ok N) h016T)
theorem h017S_ok (N : Nat → Prop) : SumsOK Tryz.prog N h017S := (h016S_ok N).oracleK h017P (fun N => SF.ofQ plansOK follows (sumsC_ok N) h017T)
theorem h012S_ok (N : Nat → Prop) : SumsOK Tryz.prog N h012S := (h011S_ok N).oracleK h012P (fun N => SF.ofQ plansOK follows (h017S_ok N) h012T)
theorem h009S_ok (N : Nat → Prop) : SumsOK Tryz.prog N h009S := (h001S_ok N).oracleK h009P (fun N => SF.ofQ plansOK follows (h012S_ok N) h009T)
theorem h019S_ok (N : Nat → Prop) : SumsOK Tryz.prog N h019S := (sumsC_ok N).oracleK h019P (fun N => SF.ofQ plansOK follows (sumsC_ok N) h019T)
theorem h020S_ok (N : Nat → Prop) : SumsOK Tryz.prog N h020S := (h019S_ok N).oracleK h020P (fun N => SF.ofQ plansOK follows (sumsC_ok N) h020T)
theorem h022S_ok (N : Nat → Prop) : SumsOK Tryz.prog N h022S := (sumsC_ok N).oracleK h022P (fun N => SF.ofQ plansOK follows (sumsC_ok N) h022T)
theorem h023S_ok (N : Nat → Prop) : SumsOK Tryz.prog N h023S := (h022S_ok N).oracleK h023P (fun N => SF.ofQ plansOK follows (sumsC_ok N) h023T)
theorem h024S_ok (N : Nat → Prop) : SumsOK Tryz.prog N h024S := (h023S_ok N).oracleK h024P (fun N => SF.ofQ plansOK follows (sumsC_ok N) h024T)
theorem h025S_ok (N : Nat → Prop) : SumsOK Tryz.prog N h025S := (h024S_ok N).oracleK h025P (fun N => SF.ofQ plansOK follows (sumsC_ok N) h025T)
theorem h026S_ok (N : Nat → Prop) : SumsOK Tryz.prog N h026S := (h025S_ok N).oracleK h026P (fun N => SF.ofQ plansOK follows (sumsC_ok N) h026T)
theorem h021S_ok (N : Nat → Prop) : SumsOK Tryz.prog N h021S := (h020S_ok N).oracleK h021P (fun N => SF.ofQ plansOK follows (h026S_ok N) h021T)
theorem h018S_ok (N : Nat → Prop) : SumsOK Tryz.prog N h018S := (h009S_ok N).oracleK h018P (fun N => SF.ofQ plansOK follows (h021S_ok N) h018T)
theorem h028S_ok (N : Nat → Prop) : SumsOK Tryz.prog N h028S := (sumsC_ok N).oracleK h028P (fun N => SF.ofQ plansOK follows (sumsC_ok N) h028T)
theorem h029S_ok (N : Nat → Prop) : SumsOK Tryz.prog N h029S := (h028S_ok N).oracleK h029P (fun N => SF.ofQ plansOK follows (sumsC_ok N) h029T)
theorem h030S_ok (N : Nat → Prop) : SumsOK Tryz.prog N h030S := (h029S_ok N).oracleK h030P (fun N => SF.ofQ plansOK follows (sumsC_ok N) h030T)
theorem i000S_ok (N : Nat → Prop) : SumsOK Tryz.prog N i000S := (sumsC_ok N).oracleK i000P (fun N => SF.ofQ plansOK follows (sumsC_ok N) i000T)
theorem h032S_ok (N : Nat → Prop) : SumsOK Tryz.prog N h032S := (sumsC_ok N).oracleK h032P (fun N => SF.ofQ plansOK follows (i000S_ok N) h032T)
theorem h033S_ok (N : Nat → Prop) : SumsOK Tryz.prog N h033S := (h032S_ok N).oracleK h033P (fun N => SF.ofQ plansOK follows (sumsC_ok N) h033T)
theorem h034S_ok (N : Nat → Prop) : SumsOK Tryz.prog N h034S := (h033S_ok N).oracleK h034P (fun N => SF.ofQ plansOK follows (sumsC_ok N) h034T)
theorem i001S_ok (N : Nat → Prop) : SumsOK Tryz.prog N i001S := (sumsC_ok N).oracleK i001P (fun N => SF.ofQ plansOK follows (sumsC_ok N) i001T)
theorem h035S_ok (N : Nat → Prop) : SumsOK Tryz.prog N h035S := (h034S_ok N).oracleK h035P (fun N => SF.ofQ plansOK follows (i001S_ok N) h035T)
theorem h036S_ok (N : Nat → Prop) : SumsOK Tryz.prog N h036S := (h035S_ok N).oracleK h036P (fun N => SF.ofQ plansOK follows (sumsC_ok N) h036T)
theorem h031S_ok (N : Nat → Prop) : SumsOK Tryz.prog N h031S := (h030S_ok N).oracleK h031P (fun N => SF.ofQ plansOK follows (h036S_ok N) h031T)
theorem h027S_ok (N : Nat → Prop) : SumsOK Tryz.prog N h027S := (h018S_ok N).oracleK h027P (fun N => SF.ofQ plansOK follows (h031S_ok N) h027T)
theorem h038S_ok (N : Nat → Prop) : SumsOK Tryz.prog N h038S := (sumsC_ok N).oracleK h038P (fun N => SF.ofQ plansOK follows (sumsC_ok N) h038T)
theorem h039S_ok (N : Nat → Prop) : SumsOK Tryz.prog N h039S := (h038S_ok N).oracleK h039P (fun N => SF.ofQ plansOK follows (sumsC_ok N) h039T)
theorem h040S_ok (N : Nat → Prop) : SumsOK Tryz.prog N h040S := (h039S_ok N).oracleK h040P (fun N => SF.ofQ plansOK follows (sumsC_ok N) h040T)
theorem j000S_ok (N : Nat → Prop) : SumsOK Tryz.prog N j000S := (sumsC_ok N).oracleK j000P (fun N => SF.ofQ plansOK follows (sumsC_ok N) j000T)
theorem h042S_ok (N : Nat → Prop) : SumsOK Tryz.prog N h042S := (sumsC_ok N).oracleK h042P (fun N => SF.ofQ plansOK follows (j000S_ok N) h042T)
theorem h043S_ok (N : Nat → Prop) : SumsOK Tryz.prog N h043S := (h042S_ok N).oracleK h043P (fun N => SF.ofQ plansOK follows (sumsC_ok N) h043T)
theorem h044S_ok (N : Nat → Prop) : SumsOK Tryz.prog N h044S := (h043S_ok N).oracleK h044P (fun N => SF.ofQ plansOK follows (sumsC_ok N) h044T)
theorem j001S_ok (N : Nat → Prop) : SumsOK Tryz.prog N j001S := (sumsC_ok N).oracleK j001P (fun N => SF.ofQ plansOK follows (sumsC_ok N) j001T)
theorem h045S_ok (N : Nat → Prop) : SumsOK Tryz.prog N h045S := (h044S_ok N).oracleK h045P (fun N => SF.ofQ plansOK follows (j001S_ok N) h045T)
theorem h046S_ok (N : Nat → Prop) : SumsOK Tryz.prog N h046S := (h045S_ok N).oracleK h046P (fun N => SF.ofQ plansOK follows (sumsC_ok N) h046T)
theorem h041S_ok (N : Nat → Prop) : SumsOK Tryz.prog N h041S := (h040S_ok N).oracleK h041P (fun N => SF.ofQ plansOK follows (h046S_ok N) h041T)
theorem h037S_ok (N : Nat → Prop) : SumsOK Tryz.prog N h037S := (h027S_ok N).oracleK h037P (fun N => SF.ofQ plansOK follows (h041S_ok N) h037T)
theorem h048S_ok (N : Nat → Prop) : SumsOK Tryz.prog N h048S := (sumsC_ok N).oracleK h048P (fun N => SF.ofQ plansOK follows (sumsC_ok N) h048T)
theorem h049S_ok (N : Nat → Prop) : SumsOK Tryz.prog N h049S := (h048S_ok N).oracleK h049P (fun N => SF.ofQ plansOK follows (sumsC_ok N) h049T)
theorem h050S_ok (N : Nat → Prop) : SumsOK Tryz.prog N h050S := (h049S_ok N).oracleK h050P (fun N => SF.ofQ plansOK follows (sumsC_ok N) h050T)
theorem h133S_ok (N : Nat → Prop) : SumsOK Tryz.prog N h133S := (sumsC_ok N).oracleK h133P (fun N => SF.ofQ plansOK follows (sumsC_ok N) h133T)
theorem h134S_ok (N : Nat → Prop) : SumsOK Tryz.prog N h134S := (h133S_ok N).oracleK h134P (fun N => SF.ofQ plansOK follows (sumsC_ok N) h134T)
theorem h052S_ok (N : Nat → Prop) : SumsOK Tryz.prog N h052S := (sumsC_ok N).oracleK h052P (fun N => SF.ofQ plansOK follows (h134S_ok N) h052T)
theorem h053S_ok (N : Nat → Prop) : SumsOK Tryz.prog N h053S := (h052S_ok N).oracleK h053P (fun N => SF.ofQ plansOK follows (sumsC_ok N) h053T)
theorem h054S_ok (N : Nat → Prop) : SumsOK Tryz.prog N h054S := (h053S_ok N).oracleK h054P (fun N => SF.ofQ plansOK follows (sumsC_ok N) h054T)
theorem h119S_ok (N : Nat → Prop) : SumsOK Tryz.prog N h119S := (sumsC_ok N).oracleK h119P (fun N => SF.ofQ plansOK follows (sumsC_ok N) h119T)
theorem n001S_ok (N : Nat → Prop) : SumsOK Tryz.prog N n001S := (sumsC_ok N).oracleK n001P (fun N => SF.ofQ plansOK follows (sumsC_ok N) n001T)
theorem h120S_ok (N : Nat → Prop) : SumsOK Tryz.prog N h120S := (h119S_ok N).oracleK h120P (fun N => SF.ofQ plansOK follows (n001S_ok N) h120T)
theorem h055S_ok (N : Nat → Prop) : SumsOK Tryz.prog N h055S := (h054S_ok N).oracleK h055P (fun N => SF.ofQ plansOK follows (h120S_ok N) h055T)
theorem h056S_ok (N : Nat → Prop) : SumsOK Tryz.prog N h056S := (h055S_ok N).oracleK h056P (fun N => SF.ofQ plansOK follows (sumsC_ok N) h056T)
theorem h051S_ok (N : Nat → Prop) : SumsOK Tryz.prog N h051S := (h050S_ok N).oracleK h051P (fun N => SF.ofQ plansOK follows (h056S_ok N) h051T)
theorem h047S_ok (N : Nat → Prop) : SumsOK Tryz.prog N h047S := (h037S_ok N).oracleK h047P (fun N => SF.ofQ plansOK follows (h051S_ok N) h047T)
theorem h058S_ok (N : Nat → Prop) : SumsOK Tryz.prog N h058S := (sumsC_ok N).oracleK h058P (fun N => SF.ofQ plansOK follows (sumsC_ok N) h058T)
theorem h059S_ok (N : Nat → Prop) : SumsOK Tryz.prog N h059S := (h058S_ok N).oracleK h059P (fun N => SF.ofQ plansOK follows (sumsC_ok N) h059T)
theorem h060S_ok (N : Nat → Prop) : SumsOK Tryz.prog N h060S := (h059S_ok N).oracleK h060P (fun N => SF.ofQ plansOK follows (sumsC_ok N) h060T)
theorem h121S_ok (N : Nat → Prop) : SumsOK Tryz.prog N h121S := (sumsC_ok N).oracleK h121P (fun N => SF.ofQ plansOK follows (sumsC_ok N) h121T)
theorem l000S_ok (N : Nat → Prop) : SumsOK Tryz.prog N l000S := (sumsC_ok N).oracleK l000P (fun N => SF.ofQ plansOK follows (sumsC_ok N) l000T)
theorem h122S_ok (N : Nat → Prop) : SumsOK Tryz.prog N h122S := (h121S_ok N).oracleK h122P (fun N => SF.ofQ plansOK follows (l000S_ok N) h122T)
theorem h062S_ok (N : Nat → Prop) : SumsOK Tryz.prog N h062S := (sumsC_ok N).oracleK h062P (fun N => SF.ofQ plansOK follows (h122S_ok N) h062T)
theorem h063S_ok (N : Nat → Prop) : SumsOK Tryz.prog N h063S := (h062S_ok N).oracleK h063P (fun N => SF.ofQ plansOK follows (sumsC_ok N) h063T)
theorem h064S_ok (N : Nat → Prop) : SumsOK Tryz.prog N h064S := (h063S_ok N).oracleK h064P (fun N => SF.ofQ plansOK follows (sumsC_ok N) h064T)
theorem h123S_ok (N : Nat → Prop) : SumsOK Tryz.prog N h123S := (sumsC_ok N).oracleK h123P (fun N => SF.ofQ plansOK follows (sumsC_ok N) h123T)
theorem l001S_ok (N : Nat → Prop) : SumsOK Tryz.prog N l001S := (sumsC_ok N).oracleK l001P (fun N => SF.ofQ plansOK follows (sumsC_ok N) l001T)
theorem h124S_ok (N : Nat → Prop) : SumsOK Tryz.prog N h124S := (h123S_ok N).oracleK h124P (fun N => SF.ofQ plansOK follows (l001S_ok N) h124T)
theorem h065S_ok (N : Nat → Prop) : SumsOK Tryz.prog N h065S := (h064S_ok N).oracleK h065P (fun N => SF.ofQ plansOK follows (h124S_ok N) h065T)
theorem h066S_ok (N : Nat → Prop) : SumsOK Tryz.prog N h066S := (h065S_ok N).oracleK h066P (fun N => SF.ofQ plansOK follows (sumsC_ok N) h066T)
theorem h061S_ok (N : Nat → Prop) : SumsOK Tryz.prog N h061S := (h060S_ok N).oracleK h061P (fun N => SF.ofQ plansOK follows (h066S_ok N) h061T)
theorem h057S_ok (N : Nat → Prop) : SumsOK Tryz.prog N h057S := (h047S_ok N).oracleK h057P (fun N => SF.ofQ plansOK follows (h061S_ok N) h057T)
theorem h000S_ok (N : Nat → Prop) : SumsOK Tryz.prog N h000S := (sumsC_ok N).oracleK h000P (fun N => SF.ofQ plansOK follows (h057S_ok N) h000T)
theorem h067S_ok (N : Nat → Prop) : SumsOK Tryz.prog N h067S := (h000S_ok N).oracleK h067P (fun N => SF.ofQ plansOK follows (sumsC_ok N) h067T)
theorem h070S_ok (N : Nat → Prop) : SumsOK Tryz.prog N h070S := (sumsC_ok N).oracleK h070P (fun N => SF.ofQ plansOK follows (sumsC_ok N) h070T)
theorem h069S_ok (N : Nat → Prop) : SumsOK Tryz.prog N h069S := (sumsC_ok N).oracleK h069P (fun N => SF.ofQ plansOK follows (h070S_ok N) h069T)
theorem h068S_ok (N : Nat → Prop) : SumsOK Tryz.prog N h068S := (h067S_ok N).oracleK h068P (fun N => SF.ofQ plansOK follows (h069S_ok N) h068T)
theorem h074S_ok (N : Nat → Prop) : SumsOK Tryz.prog N h074S := (sumsC_ok N).oracleK h074P (fun N => SF.ofQ plansOK follows (sumsC_ok N) h074T)
theorem h076S_ok (N : Nat → Prop) : SumsOK Tryz.prog N h076S := (sumsC_ok N).oracleK h076P (fun N => SF.ofQ plansOK follows (sumsC_ok N) h076T)
theorem h077S_ok (N : Nat → Prop) : SumsOK Tryz.prog N h077S := (h076S_ok N).oracleK h077P (fun N => SF.ofQ plansOK follows (sumsC_ok N) h077T)
theorem h078S_ok (N : Nat → Prop) : SumsOK Tryz.prog N h078S := (h077S_ok N).oracleK h078P (fun N => SF.ofQ plansOK follows (sumsC_ok N) h078T)
theorem h079S_ok (N : Nat → Prop) : SumsOK Tryz.prog N h079S := (h078S_ok N).oracleK h079P (fun N => SF.ofQ plansOK follows (sumsC_ok N) h079T)
theorem h080S_ok (N : Nat → Prop) : SumsOK Tryz.prog N h080S := (h079S_ok N).oracleK h080P (fun N => SF.ofQ plansOK follows (sumsC_ok N) h080T)
theorem h075S_ok (N : Nat → Prop) : SumsOK Tryz.prog N h075S := (h074S_ok N).oracleK h075P (fun N => SF.ofQ plansOK follows (h080S_ok N) h075T)
theorem h073S_ok (N : Nat → Prop) : SumsOK Tryz.prog N h073S := (sumsC_ok N).oracleK h073P (fun N => SF.ofQ plansOK follows (h075S_ok N) h073T)
theorem h082S_ok (N : Nat → Prop) : SumsOK Tryz.prog N h082S := (sumsC_ok N).oracleK h082P (fun N => SF.ofQ plansOK follows (sumsC_ok N) h082T)
theorem h083S_ok (N : Nat → Prop) : SumsOK Tryz.prog N h083S := (h082S_ok N).oracleK h083P (fun N => SF.ofQ plansOK follows (sumsC_ok N) h083T)
theorem h085S_ok (N : Nat → Prop) : SumsOK Tryz.prog N h085S := (sumsC_ok N).oracleK h085P (fun N => SF.ofQ plansOK follows (sumsC_ok N) h085T)
theorem h086S_ok (N : Nat → Prop) : SumsOK Tryz.prog N h086S := (h085S_ok N).oracleK h086P (fun N => SF.ofQ plansOK follows (sumsC_ok N) h086T)
theorem h087S_ok (N : Nat → Prop) : SumsOK Tryz.prog N h087S := (h086S_ok N).oracleK h087P (fun N => SF.ofQ plansOK follows (sumsC_ok N) h087T)
theorem h088S_ok (N : Nat → Prop) : SumsOK Tryz.prog N h088S := (h087S_ok N).oracleK h088P (fun N => SF.ofQ plansOK follows (sumsC_ok N) h088T)
theorem h089S_ok (N : Nat → Prop) : SumsOK Tryz.prog N h089S := (h088S_ok N).oracleK h089P (fun N => SF.ofQ plansOK follows (sumsC_ok N) h089T)
theorem h084S_ok (N : Nat → Prop) : SumsOK Tryz.prog N h084S := (h083S_ok N).oracleK h084P (fun N => SF.ofQ plansOK follows (h089S_ok N) h084T)
theorem h081S_ok (N : Nat → Prop) : SumsOK Tryz.prog N h081S := (h073S_ok N).oracleK h081P (fun N => SF.ofQ plansOK follows (h084S_ok N) h081T)
theorem h091S_ok (N : Nat → Prop) : SumsOK Tryz.prog N h091S := (sumsC_ok N).oracleK h091P (fun N => SF.ofQ plansOK follows (sumsC_ok N) h091T)
theorem h092S_ok (N : Nat → Prop) : SumsOK Tryz.prog N h092S := (h091S_ok N).oracleK h092P (fun N => SF.ofQ plansOK follows (sumsC_ok N) h092T)
theorem h094S_ok (N : Nat → Prop) : SumsOK Tryz.prog N h094S := (sumsC_ok N).oracleK h094P (fun N => SF.ofQ plansOK follows (sumsC_ok N) h094T)
theorem h095S_ok (N : Nat → Prop) : SumsOK Tryz.prog N h095S := (h094S_ok N).oracleK h095P (fun N => SF.ofQ plansOK follows (sumsC_ok N) h095T)
theorem h096S_ok (N : Nat → Prop) : SumsOK Tryz.prog N h096S := (h095S_ok N).oracleK h096P (fun N => SF.ofQ plansOK follows (sumsC_ok N) h096T)
theorem h097S_ok (N : Nat → Prop) : SumsOK Tryz.prog N h097S := (h096S_ok N).oracleK h097P (fun N => SF.ofQ plansOK follows (sumsC_ok N) h097T)
theorem h098S_ok (N : Nat → Prop) : SumsOK Tryz.prog N h098S := (h097S_ok N).oracleK h098P (fun N => SF.ofQ plansOK follows (sumsC_ok N) h098T)
theorem h093S_ok (N : Nat → Prop) : SumsOK Tryz.prog N h093S := (h092S_ok N).oracleK h093P (fun N => SF.ofQ plansOK follows (h098S_ok N) h093T)
theorem h090S_ok (N : Nat → Prop) : SumsOK Tryz.prog N h090S := (h081S_ok N).oracleK h090P (fun N => SF.ofQ plansOK follows (h093S_ok N) h090T)
theorem h100S_ok (N : Nat → Prop) : SumsOK Tryz.prog N h100S := (sumsC_ok N).oracleK h100P (fun N => SF.ofQ plansOK follows (sumsC_ok N) h100T)
theorem h101S_ok (N : Nat → Prop) : SumsOK Tryz.prog N h101S := (h100S_ok N).oracleK h101P (fun N => SF.ofQ plansOK follows (sumsC_ok N) h101T)
theorem h102S_ok (N : Nat → Prop) : SumsOK Tryz.prog N h102S := (h101S_ok N).oracleK h102P (fun N => SF.ofQ plansOK follows (sumsC_ok N) h102T)
theorem h125S_ok (N : Nat → Prop) : SumsOK Tryz.prog N h125S := (sumsC_ok N).oracleK h125P (fun N => SF.ofQ plansOK follows (sumsC_ok N) h125T)
theorem m000S_ok (N : Nat → Prop) : SumsOK Tryz.prog N m000S := (sumsC_ok N).oracleK m000P (fun N => SF.ofQ plansOK follows (sumsC_ok N) m000T)
theorem h126S_ok (N : Nat → Prop) : SumsOK Tryz.prog N h126S := (h125S_ok N).oracleK h126P (fun N => SF.ofQ plansOK follows (m000S_ok N) h126T)
theorem h104S_ok (N : Nat → Prop) : SumsOK Tryz.prog N h104S := (sumsC_ok N).oracleK h104P (fun N => SF.ofQ plansOK follows (h126S_ok N) h104T)
theorem h105S_ok (N : Nat → Prop) : SumsOK Tryz.prog N h105S := (h104S_ok N).oracleK h105P (fun N => SF.ofQ plansOK follows (sumsC_ok N) h105T)
theorem h106S_ok (N : Nat → Prop) : SumsOK Tryz.prog N h106S := (h105S_ok N).oracleK h106P (fun N => SF.ofQ plansOK follows (sumsC_ok N) h106T)
theorem h127S_ok (N : Nat → Prop) : SumsOK Tryz.prog N h127S := (sumsC_ok N).oracleK h127P (fun N => SF.ofQ plansOK follows (sumsC_ok N) h127T)
theorem m001S_ok (N : Nat → Prop) : SumsOK Tryz.prog N m001S := (sumsC_ok N).oracleK m001P (fun N => SF.ofQ plansOK follows (sumsC_ok N) m001T)
theorem h128S_ok (N : Nat → Prop) : SumsOK Tryz.prog N h128S := (h127S_ok N).oracleK h128P (fun N => SF.ofQ plansOK follows (m001S_ok N) h128T)
theorem h107S_ok (N : Nat → Prop) : SumsOK Tryz.prog N h107S := (h106S_ok N).oracleK h107P (fun N => SF.ofQ plansOK follows (h128S_ok N) h107T)
theorem h108S_ok (N : Nat → Prop) : SumsOK Tryz.prog N h108S := (h107S_ok N).oracleK h108P (fun N => SF.ofQ plansOK follows (sumsC_ok N) h108T)
theorem h103S_ok (N : Nat → Prop) : SumsOK Tryz.prog N h103S := (h102S_ok N).oracleK h103P (fun N => SF.ofQ plansOK follows (h108S_ok N) h103T)
theorem h099S_ok (N : Nat → Prop) : SumsOK Tryz.prog N h099S := (h090S_ok N).oracleK h099P (fun N => SF.ofQ plansOK follows (h103S_ok N) h099T)
theorem h110S_ok (N : Nat → Prop) : SumsOK Tryz.prog N h110S := (sumsC_ok N).oracleK h110P (fun N => SF.ofQ plansOK follows (sumsC_ok N) h110T)
theorem h111S_ok (N : Nat → Prop) : SumsOK Tryz.prog N h111S := (h110S_ok N).oracleK h111P (fun N => SF.ofQ plansOK follows (sumsC_ok N) h111T)
theorem h112S_ok (N : Nat → Prop) : SumsOK Tryz.prog N h112S := (h111S_ok N).oracleK h112P (fun N => SF.ofQ plansOK follows (sumsC_ok N) h112T)
theorem h129S_ok (N : Nat → Prop) : SumsOK Tryz.prog N h129S := (sumsC_ok N).oracleK h129P (fun N => SF.ofQ plansOK follows (sumsC_ok N) h129T)
theorem n000S_ok (N : Nat → Prop) : SumsOK Tryz.prog N n000S := (sumsC_ok N).oracleK n000P (fun N => SF.ofQ plansOK follows (sumsC_ok N) n000T)
theorem h130S_ok (N : Nat → Prop) : SumsOK Tryz.prog N h130S := (h129S_ok N).oracleK h130P (fun N => SF.ofQ plansOK follows (n000S_ok N) h130T)
theorem h114S_ok (N : Nat → Prop) : SumsOK Tryz.prog N h114S := (sumsC_ok N).oracleK h114P (fun N => SF.ofQ plansOK follows (h130S_ok N) h114T)
theorem h115S_ok (N : Nat → Prop) : SumsOK Tryz.prog N h115S := (h114S_ok N).oracleK h115P (fun N => SF.ofQ plansOK follows (sumsC_ok N) h115T)
theorem h116S_ok (N : Nat → Prop) : SumsOK Tryz.prog N h116S := (h115S_ok N).oracleK h116P (fun N => SF.ofQ plansOK follows (sumsC_ok N) h116T)
theorem h131S_ok (N : Nat → Prop) : SumsOK Tryz.prog N h131S := (sumsC_ok N).oracleK h131P (fun N => SF.ofQ plansOK follows (sumsC_ok N) h131T)
theorem h135S_ok (N : Nat → Prop) : SumsOK Tryz.prog N h135S := (sumsC_ok N).oracleK h135P (fun N => SF.ofQ plansOK follows (sumsC_ok N) h135T)
theorem h136S_ok (N : Nat → Prop) : SumsOK Tryz.prog N h136S := (h135S_ok N).oracleK h136P (fun N => SF.ofQ plansOK follows (sumsC_ok N) h136T)
theorem h137S_ok (N : Nat → Prop) : SumsOK Tryz.prog N h137S := (h136S_ok N).oracleK h137P (fun N => SF.ofQ plansOK follows (sumsC_ok N) h137T)
theorem h138S_ok (N : Nat → Prop) : SumsOK Tryz.prog N h138S := (h137S_ok N).oracleK h138P (fun N => SF.ofQ plansOK follows (sumsC_ok N) h138T)
theorem h139S_ok (N : Nat → Prop) : SumsOK Tryz.prog N h139S := (h138S_ok N).oracleK h139P (fun N => SF.ofQ plansOK follows (sumsC_ok N) h139T)
theorem h140S_ok (N : Nat → Prop) : SumsOK Tryz.prog N h140S := (h139S_ok N).oracleK h140P (fun N => SF.ofQ plansOK follows (sumsC_ok N) h140T)
theorem h141S_ok (N : Nat → Prop) : SumsOK Tryz.prog N h141S := (h140S_ok N).oracleK h141P (fun N => SF.ofQ plansOK follows (sumsC_ok N) h141T)
theorem h132S_ok (N : Nat → Prop) : SumsOK Tryz.prog N h132S := (h131S_ok N).oracleK h132P (fun N => SF.ofQ plansOK follows (h141S_ok N) h132T)
theorem h117S_ok (N : Nat → Prop) : SumsOK Tryz.prog N h117S := (h116S_ok N).oracleK h117P (fun N => SF.ofQ plansOK follows (h132S_ok N) h117T)
theorem h118S_ok (N : Nat → Prop) : SumsOK Tryz.prog N h118S := (h117S_ok N).oracleK h118P (fun N => SF.ofQ plansOK follows (sumsC_ok N) h118T)
theorem h113S_ok (N : Nat → Prop) : SumsOK Tryz.prog N h113S := (h112S_ok N).oracleK h113P (fun N => SF.ofQ plansOK follows (h118S_ok N) h113T)
theorem h109S_ok (N : Nat → Prop) : SumsOK Tryz.prog N h109S := (h099S_ok N).oracleK h109P (fun N => SF.ofQ plansOK follows (h113S_ok N) h109T)
theorem h072S_ok (N : Nat → Prop) : SumsOK Tryz.prog N h072S := (sumsC_ok N).oracleK h072P (fun N => SF.ofQ plansOK follows (h109S_ok N) h072T)
theorem h071S_ok (N : Nat → Prop) : SumsOK Tryz.prog N h071S := (h068S_ok N).oracleK h071P (fun N => SF.ofQ plansOK follows (h072S_ok N) h071T)
theorem main_iso : Iso Tryz.prog 4 (.bool true) := Iso.ofQ plansOK follows h071S_ok rfl mainT
theorem main_calls (W : World) (hl : 8 ≤ W.heap.size) : Calls Tryz.prog 4 #[] W fun e W' => e = .returned (.bool true) ∧ Go.RowKit.Below W.heap.size W W' := by
  refine (main_iso.calls (w := W) hl rfl (enters_of Tryz.func4 (by kernel_rfl) rfl _ _)).mono fun e W' he => ?_
  obtain ⟨val, rfl, hv, hb⟩ := he
  simp only [VR] at hv
  exact ⟨by rw [hv], hb⟩
end Go.Ev

/- The pieces joined: from whatever world, TidyKnown returns true, and what was there stays. -/
import Derived.Test.YtdflnipdbpnilaaGreatDoorPa00
import Derived.Test.YtdflnipdbpnilaaGreatDoorPa01
import Derived.Test.YtdflnipdbpnilaaGreatDoorPa02
import Derived.Test.YtdflnipdbpnilaaGreatDoorPa03
import Derived.Test.YtdflnipdbpnilaaGreatDoorPa04
import Derived.Test.YtdflnipdbpnilaaGreatDoorPa05
import Derived.Test.YtdflnipdbpnilaaGreatDoorPa06
import Derived.Test.YtdflnipdbpnilaaGreatDoorPa07
import Derived.Test.YtdflnipdbpnilaaGreatDoorPa08
import Derived.Test.YtdflnipdbpnilaaGreatDoorPa09
import Derived.Test.YtdflnipdbpnilaaGreatDoorPa10
import Derived.Test.YtdflnipdbpnilaaGreatDoorPa11
import Derived.Test.YtdflnipdbpnilaaGreatDoorPa12
import Derived.Test.YtdflnipdbpnilaaGreatDoorPa13
import Derived.Test.YtdflnipdbpnilaaGreatDoorPb00
import Derived.Test.YtdflnipdbpnilaaGreatDoorPb01
import Derived.Test.YtdflnipdbpnilaaGreatDoorPb02
import Derived.Test.YtdflnipdbpnilaaGreatDoorPb03
import Derived.Test.YtdflnipdbpnilaaGreatDoorPb04
import Derived.Test.YtdflnipdbpnilaaGreatDoorPb05
import Derived.Test.YtdflnipdbpnilaaGreatDoorPb06
import Derived.Test.YtdflnipdbpnilaaGreatDoorPb07
import Derived.Test.YtdflnipdbpnilaaGreatDoorPb08
import Derived.Test.YtdflnipdbpnilaaGreatDoorPb09
import Derived.Test.YtdflnipdbpnilaaGreatDoorPc00
import Derived.Test.YtdflnipdbpnilaaGreatDoorPc01
import Derived.Test.YtdflnipdbpnilaaGreatDoorPc02
import Derived.Test.YtdflnipdbpnilaaGreatDoorPc03
import Derived.Test.YtdflnipdbpnilaaGreatDoorPc04
import Derived.Test.YtdflnipdbpnilaaGreatDoorPc05
import Derived.Test.YtdflnipdbpnilaaGreatDoorPc06
import Derived.Test.YtdflnipdbpnilaaGreatDoorPc07
import Derived.Test.YtdflnipdbpnilaaGreatDoorPc08
import Derived.Test.YtdflnipdbpnilaaGreatDoorPc09
import Derived.Test.YtdflnipdbpnilaaGreatDoorPd00
import Derived.Test.YtdflnipdbpnilaaGreatDoorPd01
import Derived.Test.YtdflnipdbpnilaaGreatDoorPaw
import Derived.Test.YtdflnipdbpnilaaGreatDoorPmain
set_option linter.unusedVariables false
namespace Go.Ev
open Go Go.RowKit Go.Proofs
theorem follows : Tryz.prog.follows .mixedOrders = true := by kernel_rfl
theorem opS_ok (N : Nat) : SumsOK Tryz.prog N opS := (sumsC_ok N).oracleL (SF.ofQ plansOK follows (sumsC_ok N) opT)
theorem raS_ok (N : Nat) : SumsOK Tryz.prog N raS := (opS_ok N).oracleL (SF.ofQ plansOK follows (sumsC_ok N) raT)
theorem rbS_ok (N : Nat) : SumsOK Tryz.prog N rbS := (raS_ok N).oracleL (SF.ofQ plansOK follows (sumsC_ok N) rbT)
theorem rcS_ok (N : Nat) : SumsOK Tryz.prog N rcS := (rbS_ok N).oracleL (SF.ofQ plansOK follows (sumsC_ok N) rcT)
theorem rdS_ok (N : Nat) : SumsOK Tryz.prog N rdS := (rcS_ok N).oracleL (SF.ofQ plansOK follows (rcS_ok N) rdT)
theorem aw_iso : Iso Tryz.prog 5 (.bool true) := Iso.ofQ plansOK follows rdS_ok rfl awT
theorem awS_ok (N : Nat) : SumsOK Tryz.prog N awS := (rdS_ok N).iso aw_iso
theorem taS_ok (N : Nat) : SumsOK Tryz.prog N taS := (awS_ok N).oracleL (SF.ofQ plansOK follows (sumsC_ok N) taT)
theorem d00S_ok (N : Nat) : SumsOK Tryz.prog N d00S := (taS_ok N).oracleL (SF.ofQ plansOK follows (sumsC_ok N) d00T)
theorem d01S_ok (N : Nat) : SumsOK Tryz.prog N d01S := (d00S_ok N).oracleL (SF.ofQ plansOK follows (sumsC_ok N) d01T)
theorem d02S_ok (N : Nat) : SumsOK Tryz.prog N d02S := (d01S_ok N).oracleL (SF.ofQ plansOK follows (sumsC_ok N) d02T)
theorem d03S_ok (N : Nat) : SumsOK Tryz.prog N d03S := (d02S_ok N).oracleL (SF.ofQ plansOK follows (sumsC_ok N) d03T)
theorem d04S_ok (N : Nat) : SumsOK Tryz.prog N d04S := (d03S_ok N).oracleL (SF.ofQ plansOK follows (sumsC_ok N) d04T)
theorem d05S_ok (N : Nat) : SumsOK Tryz.prog N d05S := (d04S_ok N).oracleL (SF.ofQ plansOK follows (sumsC_ok N) d05T)
theorem d06S_ok (N : Nat) : SumsOK Tryz.prog N d06S := (d05S_ok N).oracleL (SF.ofQ plansOK follows (sumsC_ok N) d06T)
theorem d07S_ok (N : Nat) : SumsOK Tryz.prog N d07S := (d06S_ok N).oracleL (SF.ofQ plansOK follows (sumsC_ok N) d07T)
theorem d08S_ok (N : Nat) : SumsOK Tryz.prog N d08S := (d07S_ok N).oracleL (SF.ofQ plansOK follows (sumsC_ok N) d08T)
theorem d09S_ok (N : Nat) : SumsOK Tryz.prog N d09S := (d08S_ok N).oracleL (SF.ofQ plansOK follows (sumsC_ok N) d09T)
theorem d10S_ok (N : Nat) : SumsOK Tryz.prog N d10S := (d09S_ok N).oracleL (SF.ofQ plansOK follows (sumsC_ok N) d10T)
theorem d11S_ok (N : Nat) : SumsOK Tryz.prog N d11S := (d10S_ok N).oracleL (SF.ofQ plansOK follows (sumsC_ok N) d11T)
theorem d12S_ok (N : Nat) : SumsOK Tryz.prog N d12S := (d11S_ok N).oracleL (SF.ofQ plansOK follows (sumsC_ok N) d12T)
theorem d13S_ok (N : Nat) : SumsOK Tryz.prog N d13S := (d12S_ok N).oracleL (SF.ofQ plansOK follows (sumsC_ok N) d13T)
theorem d14S_ok (N : Nat) : SumsOK Tryz.prog N d14S := (d13S_ok N).oracleL (SF.ofQ plansOK follows (sumsC_ok N) d14T)
theorem d15S_ok (N : Nat) : SumsOK Tryz.prog N d15S := (d14S_ok N).oracleL (SF.ofQ plansOK follows (sumsC_ok N) d15T)
theorem d16S_ok (N : Nat) : SumsOK Tryz.prog N d16S := (d15S_ok N).oracleL (SF.ofQ plansOK follows (sumsC_ok N) d16T)
theorem d17S_ok (N : Nat) : SumsOK Tryz.prog N d17S := (d16S_ok N).oracleL (SF.ofQ plansOK follows (sumsC_ok N) d17T)
theorem d18S_ok (N : Nat) : SumsOK Tryz.prog N d18S := (d17S_ok N).oracleL (SF.ofQ plansOK follows (sumsC_ok N) d18T)
theorem d19S_ok (N : Nat) : SumsOK Tryz.prog N d19S := (d18S_ok N).oracleL (SF.ofQ plansOK follows (sumsC_ok N) d19T)
theorem d20S_ok (N : Nat) : SumsOK Tryz.prog N d20S := (d19S_ok N).oracleL (SF.ofQ plansOK follows (sumsC_ok N) d20T)
theorem d21S_ok (N : Nat) : SumsOK Tryz.prog N d21S := (d20S_ok N).oracleL (SF.ofQ plansOK follows (sumsC_ok N) d21T)
theorem d22S_ok (N : Nat) : SumsOK Tryz.prog N d22S := (d21S_ok N).oracleL (SF.ofQ plansOK follows (sumsC_ok N) d22T)
theorem d23S_ok (N : Nat) : SumsOK Tryz.prog N d23S := (d22S_ok N).oracleL (SF.ofQ plansOK follows (sumsC_ok N) d23T)
theorem d24S_ok (N : Nat) : SumsOK Tryz.prog N d24S := (d23S_ok N).oracleL (SF.ofQ plansOK follows (sumsC_ok N) d24T)
theorem d25S_ok (N : Nat) : SumsOK Tryz.prog N d25S := (d24S_ok N).oracleL (SF.ofQ plansOK follows (sumsC_ok N) d25T)
theorem d26S_ok (N : Nat) : SumsOK Tryz.prog N d26S := (d25S_ok N).oracleL (SF.ofQ plansOK follows (sumsC_ok N) d26T)
theorem d27S_ok (N : Nat) : SumsOK Tryz.prog N d27S := (d26S_ok N).oracleL (SF.ofQ plansOK follows (sumsC_ok N) d27T)
theorem d28S_ok (N : Nat) : SumsOK Tryz.prog N d28S := (d27S_ok N).oracleL (SF.ofQ plansOK follows (sumsC_ok N) d28T)
theorem d29S_ok (N : Nat) : SumsOK Tryz.prog N d29S := (d28S_ok N).oracleL (SF.ofQ plansOK follows (sumsC_ok N) d29T)
theorem d30S_ok (N : Nat) : SumsOK Tryz.prog N d30S := (d29S_ok N).oracleL (SF.ofQ plansOK follows (sumsC_ok N) d30T)
theorem d31S_ok (N : Nat) : SumsOK Tryz.prog N d31S := (d30S_ok N).oracleL (SF.ofQ plansOK follows (sumsC_ok N) d31T)
theorem d32S_ok (N : Nat) : SumsOK Tryz.prog N d32S := (d31S_ok N).oracleL (SF.ofQ plansOK follows (sumsC_ok N) d32T)
theorem d33S_ok (N : Nat) : SumsOK Tryz.prog N d33S := (d32S_ok N).oracleL (SF.ofQ plansOK follows (sumsC_ok N) d33T)
theorem d34S_ok (N : Nat) : SumsOK Tryz.prog N d34S := (d33S_ok N).oracleL (SF.ofQ plansOK follows (sumsC_ok N) d34T)
theorem d35S_ok (N : Nat) : SumsOK Tryz.prog N d35S := (d34S_ok N).oracleL (SF.ofQ plansOK follows (sumsC_ok N) d35T)
theorem d36S_ok (N : Nat) : SumsOK Tryz.prog N d36S := (d35S_ok N).oracleL (SF.ofQ plansOK follows (sumsC_ok N) d36T)
theorem d37S_ok (N : Nat) : SumsOK Tryz.prog N d37S := (d36S_ok N).oracleL (SF.ofQ plansOK follows (sumsC_ok N) d37T)
theorem d38S_ok (N : Nat) : SumsOK Tryz.prog N d38S := (d37S_ok N).oracleL (SF.ofQ plansOK follows (sumsC_ok N) d38T)
theorem d39S_ok (N : Nat) : SumsOK Tryz.prog N d39S := (d38S_ok N).oracleL (SF.ofQ plansOK follows (sumsC_ok N) d39T)
theorem pgS_ok (N : Nat) : SumsOK Tryz.prog N pgS := (d39S_ok N).oracleL (SF.ofQ plansOK follows (sumsC_ok N) pgT)
theorem e00S_ok (N : Nat) : SumsOK Tryz.prog N e00S := (pgS_ok N).oracleL (SF.ofQ plansOK follows (sumsC_ok N) e00T)
theorem e01S_ok (N : Nat) : SumsOK Tryz.prog N e01S := (e00S_ok N).oracleL (SF.ofQ plansOK follows (sumsC_ok N) e01T)
theorem e02S_ok (N : Nat) : SumsOK Tryz.prog N e02S := (e01S_ok N).oracleL (SF.ofQ plansOK follows (sumsC_ok N) e02T)
theorem e03S_ok (N : Nat) : SumsOK Tryz.prog N e03S := (e02S_ok N).oracleL (SF.ofQ plansOK follows (sumsC_ok N) e03T)
theorem e04S_ok (N : Nat) : SumsOK Tryz.prog N e04S := (e03S_ok N).oracleL (SF.ofQ plansOK follows (sumsC_ok N) e04T)
theorem e05S_ok (N : Nat) : SumsOK Tryz.prog N e05S := (e04S_ok N).oracleL (SF.ofQ plansOK follows (sumsC_ok N) e05T)
theorem e06S_ok (N : Nat) : SumsOK Tryz.prog N e06S := (e05S_ok N).oracleL (SF.ofQ plansOK follows (sumsC_ok N) e06T)
theorem e07S_ok (N : Nat) : SumsOK Tryz.prog N e07S := (e06S_ok N).oracleL (SF.ofQ plansOK follows (sumsC_ok N) e07T)
theorem e08S_ok (N : Nat) : SumsOK Tryz.prog N e08S := (e07S_ok N).oracleL (SF.ofQ plansOK follows (sumsC_ok N) e08T)
theorem e09S_ok (N : Nat) : SumsOK Tryz.prog N e09S := (e08S_ok N).oracleL (SF.ofQ plansOK follows (sumsC_ok N) e09T)
theorem e10S_ok (N : Nat) : SumsOK Tryz.prog N e10S := (e09S_ok N).oracleL (SF.ofQ plansOK follows (sumsC_ok N) e10T)
theorem e11S_ok (N : Nat) : SumsOK Tryz.prog N e11S := (e10S_ok N).oracleL (SF.ofQ plansOK follows (sumsC_ok N) e11T)
theorem e12S_ok (N : Nat) : SumsOK Tryz.prog N e12S := (e11S_ok N).oracleL (SF.ofQ plansOK follows (sumsC_ok N) e12T)
theorem e13S_ok (N : Nat) : SumsOK Tryz.prog N e13S := (e12S_ok N).oracleL (SF.ofQ plansOK follows (sumsC_ok N) e13T)
theorem e14S_ok (N : Nat) : SumsOK Tryz.prog N e14S := (e13S_ok N).oracleL (SF.ofQ plansOK follows (sumsC_ok N) e14T)
theorem e15S_ok (N : Nat) : SumsOK Tryz.prog N e15S := (e14S_ok N).oracleL (SF.ofQ plansOK follows (sumsC_ok N) e15T)
theorem e16S_ok (N : Nat) : SumsOK Tryz.prog N e16S := (e15S_ok N).oracleL (SF.ofQ plansOK follows (sumsC_ok N) e16T)
theorem e17S_ok (N : Nat) : SumsOK Tryz.prog N e17S := (e16S_ok N).oracleL (SF.ofQ plansOK follows (sumsC_ok N) e17T)
theorem e18S_ok (N : Nat) : SumsOK Tryz.prog N e18S := (e17S_ok N).oracleL (SF.ofQ plansOK follows (sumsC_ok N) e18T)
theorem e19S_ok (N : Nat) : SumsOK Tryz.prog N e19S := (e18S_ok N).oracleL (SF.ofQ plansOK follows (sumsC_ok N) e19T)
theorem e20S_ok (N : Nat) : SumsOK Tryz.prog N e20S := (e19S_ok N).oracleL (SF.ofQ plansOK follows (sumsC_ok N) e20T)
theorem e21S_ok (N : Nat) : SumsOK Tryz.prog N e21S := (e20S_ok N).oracleL (SF.ofQ plansOK follows (sumsC_ok N) e21T)
theorem e22S_ok (N : Nat) : SumsOK Tryz.prog N e22S := (e21S_ok N).oracleL (SF.ofQ plansOK follows (sumsC_ok N) e22T)
theorem e23S_ok (N : Nat) : SumsOK Tryz.prog N e23S := (e22S_ok N).oracleL (SF.ofQ plansOK follows (sumsC_ok N) e23T)
theorem e24S_ok (N : Nat) : SumsOK Tryz.prog N e24S := (e23S_ok N).oracleL (SF.ofQ plansOK follows (sumsC_ok N) e24T)
theorem e25S_ok (N : Nat) : SumsOK Tryz.prog N e25S := (e24S_ok N).oracleL (SF.ofQ plansOK follows (sumsC_ok N) e25T)
theorem e26S_ok (N : Nat) : SumsOK Tryz.prog N e26S := (e25S_ok N).oracleL (SF.ofQ plansOK follows (sumsC_ok N) e26T)
theorem e27S_ok (N : Nat) : SumsOK Tryz.prog N e27S := (e26S_ok N).oracleL (SF.ofQ plansOK follows (sumsC_ok N) e27T)
theorem e28S_ok (N : Nat) : SumsOK Tryz.prog N e28S := (e27S_ok N).oracleL (SF.ofQ plansOK follows (sumsC_ok N) e28T)
theorem e29S_ok (N : Nat) : SumsOK Tryz.prog N e29S := (e28S_ok N).oracleL (SF.ofQ plansOK follows (sumsC_ok N) e29T)
theorem e30S_ok (N : Nat) : SumsOK Tryz.prog N e30S := (e29S_ok N).oracleL (SF.ofQ plansOK follows (sumsC_ok N) e30T)
theorem e31S_ok (N : Nat) : SumsOK Tryz.prog N e31S := (e30S_ok N).oracleL (SF.ofQ plansOK follows (sumsC_ok N) e31T)
theorem e32S_ok (N : Nat) : SumsOK Tryz.prog N e32S := (e31S_ok N).oracleL (SF.ofQ plansOK follows (sumsC_ok N) e32T)
theorem e33S_ok (N : Nat) : SumsOK Tryz.prog N e33S := (e32S_ok N).oracleL (SF.ofQ plansOK follows (sumsC_ok N) e33T)
theorem e34S_ok (N : Nat) : SumsOK Tryz.prog N e34S := (e33S_ok N).oracleL (SF.ofQ plansOK follows (sumsC_ok N) e34T)
theorem e35S_ok (N : Nat) : SumsOK Tryz.prog N e35S := (e34S_ok N).oracleL (SF.ofQ plansOK follows (sumsC_ok N) e35T)
theorem e36S_ok (N : Nat) : SumsOK Tryz.prog N e36S := (e35S_ok N).oracleL (SF.ofQ plansOK follows (sumsC_ok N) e36T)
theorem e37S_ok (N : Nat) : SumsOK Tryz.prog N e37S := (e36S_ok N).oracleL (SF.ofQ plansOK follows (sumsC_ok N) e37T)
theorem e38S_ok (N : Nat) : SumsOK Tryz.prog N e38S := (e37S_ok N).oracleL (SF.ofQ plansOK follows (sumsC_ok N) e38T)
theorem e39S_ok (N : Nat) : SumsOK Tryz.prog N e39S := (e38S_ok N).oracleL (SF.ofQ plansOK follows (sumsC_ok N) e39T)
theorem cmS_ok (N : Nat) : SumsOK Tryz.prog N cmS := (e39S_ok N).oracleL (SF.ofQ plansOK follows (sumsC_ok N) cmT)
theorem tbS_ok (N : Nat) : SumsOK Tryz.prog N tbS := (cmS_ok N).oracleL (SF.ofQ plansOK follows (sumsC_ok N) tbT)
theorem tsS_ok (N : Nat) : SumsOK Tryz.prog N tsS := (tbS_ok N).oracleL (SF.ofQ plansOK follows (sumsC_ok N) tsT)
theorem main_iso : Iso Tryz.prog 3 (.bool true) := Iso.ofQ plansOK follows tsS_ok rfl mainT
theorem main_calls (W : World) (hl : 8 ≤ W.heap.size) : Calls Tryz.prog 3 #[] W fun e W' => e = .returned (.bool true) ∧ Below W.heap.size W W' := by
  refine (main_iso.calls (w := W) hl rfl (enters_of Tryz.func3 (by kernel_rfl) rfl _ _)).mono fun e W' he => ?_
  obtain ⟨val, rfl, hv, hb⟩ := he
  simp only [VR] at hv
  exact ⟨by rw [hv], hb⟩
end Go.Ev

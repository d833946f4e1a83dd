/- A piece of the run: awake. -/
import Derived.Test.YtonmglcjenobmaaGreatDoorE3
import Derived.KernelRfl
set_option maxRecDepth 1000000
namespace Go.Ev
open Go Go.Proofs
theorem awT : okV (callN Tryz.prog daS 60 6 .nl deadH) (.bool true) = true := by kernel_rfl
end Go.Ev

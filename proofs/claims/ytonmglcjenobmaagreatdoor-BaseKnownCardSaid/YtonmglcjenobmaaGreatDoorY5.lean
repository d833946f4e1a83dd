/- A piece of the run: the rest. -/
import Derived.Test.YtonmglcjenobmaaGreatDoorE3
import Derived.KernelRfl
set_option maxRecDepth 1000000
namespace Go.Ev
open Go Go.Proofs
theorem mainT : okV (callN Tryz.prog dbS 60 3 .nl deadH) (.bool true) = true := by kernel_rfl
end Go.Ev

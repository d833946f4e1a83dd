/- A piece of the run: a fresh device is opened. -/
import Derived.Test.YtonmglcjenobmaaGreatDoorE3
import Derived.KernelRfl
set_option maxRecDepth 1000000
namespace Go.Ev
open Go Go.Proofs
theorem opT : leR (callN Tryz.prog sumsC 60 4 opA opH) opV opK = true := by kernel_rfl
end Go.Ev

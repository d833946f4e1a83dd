/- A piece of the run: a collection is made. -/
import Derived.Test.YtonmglcjenobmaaGreatDoorE3
import Derived.KernelRfl
set_option maxRecDepth 1000000
namespace Go.Ev
open Go Go.Proofs
theorem daT : leR (callN Tryz.prog opS 60 8 daA daH) daV daK = true := by kernel_rfl
end Go.Ev

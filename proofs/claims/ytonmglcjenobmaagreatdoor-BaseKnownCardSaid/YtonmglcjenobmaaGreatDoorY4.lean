/- A piece of the run: a document is put. -/
import Derived.Test.YtonmglcjenobmaaGreatDoorE3
import Derived.KernelRfl
set_option maxRecDepth 1000000
namespace Go.Ev
open Go Go.Proofs
theorem dbT : leR (callN Tryz.prog awS 60 8 dbA dbH) dbV dbK = true := by kernel_rfl
end Go.Ev

/- One of the closed facts of the tie. -/
import Derived.Test.YtibaafmjbmnpjaaGreatDoorProg
import GoSem.PinnedTables
import GoSem.Claim
import GoSem.ClaimJoined
import GoSem.ClaimMapViews
import Derived.JoinedTies
import Derived.KernelRfl
import Derived.ProofKit
import Derived.LaidByTextLater
import Derived.LaidOnce
import Derived.SevenTiedAt
set_option linter.unusedVariables false
namespace Go.Proofs.YtibaafmjbmnpjaaGreatDoor
open Go
set_option maxRecDepth 100000
theorem z2 : Tryz.prog.worded (varsWordLater !true) = false := by kernel_rfl
end Go.Proofs.YtibaafmjbmnpjaaGreatDoor

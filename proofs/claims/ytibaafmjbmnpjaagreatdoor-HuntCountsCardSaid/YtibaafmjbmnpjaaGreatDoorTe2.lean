/- One of the closed facts of the row. -/
import Derived.Test.YtibaafmjbmnpjaaGreatDoorProg
import GoSem.PinnedTables
import GoSem.Claim
import GoSem.ClaimJoined
import GoSem.ClaimMapViews
import Derived.JoinedTies
import Derived.KernelRfl
import Derived.ProofKit
set_option linter.unusedVariables false
namespace Go.Proofs.YtibaafmjbmnpjaaGreatDoor
open Go.RowKit Go.ChangeShapes Go.WideShapes Go.ChangeAt
set_option maxRecDepth 100000
theorem q2 : (mapsRowed Tryz.prog) = true := by kernel_rfl
end Go.Proofs.YtibaafmjbmnpjaaGreatDoor

/- One of the closed facts of the row. -/
import Derived.Test.YtckobpdmjlfenaaGreatDoorRows
import Derived.ProofKit
set_option linter.unusedVariables false
namespace Go.Proofs.YtckobpdmjlfenaaGreatDoor
open Go.RowKit Go.ChangeShapes Go.WideShapes Go.ChangeAt
set_option maxRecDepth 100000
theorem q22 : ((Rows.buildKnownRow.plainKeys == Tryz.prog.plainKeys)) = true := by kernel_rfl
end Go.Proofs.YtckobpdmjlfenaaGreatDoor

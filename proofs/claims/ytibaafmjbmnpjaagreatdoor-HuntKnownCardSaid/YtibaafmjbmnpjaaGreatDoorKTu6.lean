/- One of the closed facts of the tie. -/
import Derived.Test.YtibaafmjbmnpjaaGreatDoorRows
import Derived.LaidByTextLater
import Derived.LaidOnce
import Derived.SevenTiedAt
import Derived.KernelRfl
set_option linter.unusedVariables false
namespace Go.Proofs.YtibaafmjbmnpjaaGreatDoor
open Go
set_option maxRecDepth 100000
theorem z6 : varsNamedLaterB Tryz.prog (varsId Tryz.prog) [("unicode/utf8.acceptRanges", Rows.laid_unicode_utf8_acceptRanges)] = true := by kernel_rfl
end Go.Proofs.YtibaafmjbmnpjaaGreatDoor

/- One of the closed facts of the tie. -/
import Derived.Test.YtibaafmjbmnpjaaGreatDoorRows
import Derived.LaidByTextLater
import Derived.LaidOnce
import Derived.SevenTiedAt
import Derived.KernelRfl
set_option linter.unusedVariables false
namespace Go.Proofs.YtibaafmjbmnpjaaGreatDoor
open Go
set_option maxRecDepth 100000
theorem z7 (os : _) (tape : _) : doorLeaves Tryz.prog 19 8 33 [("unicode/utf8.acceptRanges", Rows.laid_unicode_utf8_acceptRanges)] os tape = some (([("unicode/utf8.acceptRanges", Rows.laid_unicode_utf8_acceptRanges (H := Unit))] : List (String × DataW Unit)).filter fun x => x.2.handleName?.isNone, (funcsListed ([("unicode/utf8.acceptRanges", Rows.laid_unicode_utf8_acceptRanges (H := Unit))] : List (String × DataW Unit))).map (·.2.funcsOut)) := by kernel_rfl
end Go.Proofs.YtibaafmjbmnpjaaGreatDoor

/- The tie of the row of HuntKnown: the one law, its closed facts each in a text of its own. -/
import Derived.Test.YtibaafmjbmnpjaaGreatDoorRows
import Derived.LaidByTextLater
import Derived.LaidOnce
import Derived.SevenTiedAt
import Derived.Test.YtibaafmjbmnpjaaGreatDoorTu1
import Derived.Test.YtibaafmjbmnpjaaGreatDoorTu2
import Derived.Test.YtibaafmjbmnpjaaGreatDoorTu3
import Derived.Test.YtibaafmjbmnpjaaGreatDoorKTu4
import Derived.Test.YtibaafmjbmnpjaaGreatDoorTu5
import Derived.Test.YtibaafmjbmnpjaaGreatDoorKTu6
import Derived.Test.YtibaafmjbmnpjaaGreatDoorKTu7
import Derived.Test.YtibaafmjbmnpjaaGreatDoorKTv
namespace Go.Proofs.YtibaafmjbmnpjaaGreatDoor
open Go
set_option maxRecDepth 100000
theorem tie : Tryz.prog.laidByTextLater [("unicode/utf8.acceptRanges", Rows.laid_unicode_utf8_acceptRanges)] [.data] true :=
  Program.laidByTextLater_by_one 19 8 33 z1 z2 z3 z4 z5 z6 z7
theorem huntKnown_row_tie : Rows.huntKnownRow.laidByTextAt .later Tryz.pinned [.pinned, .data] true :=
  OpenClaim.laidByTextAt_pinned rfl rfl tie rfl rfl rfl rfl (fun y hy _e => by
    simp only [Rows.huntKnownRow, List.zip_cons_cons, List.zip_nil_right, List.mem_cons, List.mem_nil_iff, or_false] at hy
    rcases hy with rfl | rfl
    · exact ⟨pin_laid_unicode_utf8_first, by kernel_rfl⟩
    · cases _e) fits1
end Go.Proofs.YtibaafmjbmnpjaaGreatDoor

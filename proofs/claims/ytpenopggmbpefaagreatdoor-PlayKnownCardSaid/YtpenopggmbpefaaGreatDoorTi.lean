/- The tie of the row of PlayKnown: the one law, its closed facts each in a text of its own. -/
import Derived.Test.YtpenopggmbpefaaGreatDoorRows
import Derived.LaidByTextLater
import Derived.LaidOnce
import Derived.SevenTiedAt
import Derived.Test.YtpenopggmbpefaaGreatDoorTu1
import Derived.Test.YtpenopggmbpefaaGreatDoorTu2
import Derived.Test.YtpenopggmbpefaaGreatDoorTu3
import Derived.Test.YtpenopggmbpefaaGreatDoorTu4
import Derived.Test.YtpenopggmbpefaaGreatDoorTu5
import Derived.Test.YtpenopggmbpefaaGreatDoorTu6
import Derived.Test.YtpenopggmbpefaaGreatDoorTu7
import Derived.Test.YtpenopggmbpefaaGreatDoorTv
namespace Go.Proofs.YtpenopggmbpefaaGreatDoor
open Go
set_option maxRecDepth 100000
theorem tie : Tryz.prog.laidByTextLater [("unicode/utf8.acceptRanges", Rows.laid_unicode_utf8_acceptRanges)] [.data] true :=
  Program.laidByTextLater_by_one 19 8 33 z1 z2 z3 z4 z5 z6 z7
theorem playKnown_row_tie : Rows.playKnownRow.laidByTextAt .later Tryz.pinned [.pinned, .data] true :=
  OpenClaim.laidByTextAt_pinned rfl rfl tie rfl rfl rfl rfl (fun y hy _e => by
    simp only [Rows.playKnownRow, List.zip_cons_cons, List.zip_nil_right, List.mem_cons, List.mem_nil_iff, or_false] at hy
    rcases hy with rfl | rfl
    · exact ⟨pin_laid_unicode_utf8_first, by kernel_rfl⟩
    · cases _e) fits1
end Go.Proofs.YtpenopggmbpefaaGreatDoor

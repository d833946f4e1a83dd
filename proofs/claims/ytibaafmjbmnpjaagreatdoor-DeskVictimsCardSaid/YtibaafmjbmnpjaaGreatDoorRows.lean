/-
  NARROWER THAN 'FOR EVERY INPUT', by the rows' own cells (each row's printed sentence says how): DeskVictims: laid · HuntKnown: laid · HuntCounts: laid.
  DERIVED. THE GIVEN ROWS OF THIS SEAT. 3 by the template 'for every input the law returns true; each argument reads behind the call as it read before'; 0 by the template 'total and deterministic' (their statements: YtibaafmjbmnpjaaGreatDoorTotals.lean).
  GIVEN WITH THE SEED: the statements are not yours to turn. If you find one false, say at which input.
  Laid BY PROGRAM, IN A SANDBOX (cutbox-rows.mjs): the forced cells as the released guide's own fill.sh prints them over the translation 871a9f5a2c5f06ed… (all of the seat's roots in one cut). By AI agents, Wed Nov 11 2026. No macro, syntax, notation, axiom, sorry.
-/
import Derived.Test.YtibaafmjbmnpjaaGreatDoorChecked
import GoSem.PinnedTables
import GoSem.Claim
import GoSem.ClaimJoined
import GoSem.ClaimMapViews
import Derived.JoinedTies
import Derived.KernelRfl
namespace Go.Proofs.YtibaafmjbmnpjaaGreatDoor
/- THE CELL 'sum', in the pinned program and in every row, IS THE sha256 OF THE DUMP (.gsa) THAT YtibaafmjbmnpjaaGreatDoorProg.lean LOADS. Nothing in Lean hashes anything: it is a label: what it is worth is what the hold of that sum in a sandbox is worth. -/
noncomputable def Tryz.pinned : Pinned := { name := "ytibaafmjbmnpjaagreatdoor", sum := "871a9f5a2c5f06ed42663819eae7a89e3905def0b2221664f3617167fe6bd205", checked := Tryz.checked }
namespace Rows
def none {H : Type} : Left H := { results := [], args := [] }

/- WHAT THE LISTED PACKAGE-LEVEL VARIABLES READ AS WHEN THE CALL BEGINS. Each datum BY PROGRAM (the guide's laid-datum.mjs) off the statement by which the dump's own 'gosem.cut.vars' lays the variable. In a bare row this is a premise. The card (YtibaafmjbmnpjaaGreatDoorCards.lean) ties it to the program's text. -/
/-- One of Go's own tables, pinned by name: the form's constant. -/
def laid_unicode_utf8_first : DataW Unit := Go.Pinned.utf8First
def laid_unicode_utf8_acceptRanges {H : Type} : DataW H := .agg [.agg [.lit (.int .u8 128), .lit (.int .u8 191)], .agg [.lit (.int .u8 160), .lit (.int .u8 191)], .agg [.lit (.int .u8 128), .lit (.int .u8 159)], .agg [.lit (.int .u8 144), .lit (.int .u8 191)], .agg [.lit (.int .u8 128), .lit (.int .u8 143)], .agg [.lit (.int .u8 0), .lit (.int .u8 0)], .agg [.lit (.int .u8 0), .lit (.int .u8 0)], .agg [.lit (.int .u8 0), .lit (.int .u8 0)], .agg [.lit (.int .u8 0), .lit (.int .u8 0)], .agg [.lit (.int .u8 0), .lit (.int .u8 0)], .agg [.lit (.int .u8 0), .lit (.int .u8 0)], .agg [.lit (.int .u8 0), .lit (.int .u8 0)], .agg [.lit (.int .u8 0), .lit (.int .u8 0)], .agg [.lit (.int .u8 0), .lit (.int .u8 0)], .agg [.lit (.int .u8 0), .lit (.int .u8 0)], .agg [.lit (.int .u8 0), .lit (.int .u8 0)]]

/-- 'munimentlaw20.DeskVictims': WHATEVER THE INPUT: true; the input reads as it did. -/
def deskVictimsSpec : ChangeSpec := { name := "deskVictims", fn := fun _ => fun
  | [d] => { results := [.lit (.bool true)], args := [d] }
  | _ => none }
def deskVictimsRow : OpenClaim := { program := "ytibaafmjbmnpjaagreatdoor", sum := "871a9f5a2c5f06ed42663819eae7a89e3905def0b2221664f3617167fe6bd205", func := "muniment/munimentlaw20.DeskVictims", spec := "deskVictims", inPlace := ["internal/bytealg.Compare", "slices.overlaps[muniment/lock.ask]", "slices.overlaps[[]byte]", "math.Float64frombits", "math.Float64bits", "internal/bytealg.CountString", "internal/bytealg.IndexByteString", "internal/bytealg.IndexString", "math.archFloor", "math.archTrunc", "internal/bytealg.abigen_runtime_cmpstring"], unfollowed := true, recurses := true, named := ["unicode/utf8.first", "unicode/utf8.acceptRanges", "internal/bytealg.MaxLen"], apart := false, laid := [("unicode/utf8.first", laid_unicode_utf8_first), ("unicode/utf8.acceptRanges", laid_unicode_utf8_acceptRanges)] }
def DeskVictimsSaid : Prop := deskVictimsRow.holds Tryz.pinned (OpenSpec.ofChange deskVictimsSpec)

/-- ITS FALSE NEIGHBOUR: 'it returns false'. Refute it at one input. -/
def deskVictimsWrong : ChangeSpec := { name := "deskVictims", fn := fun _ => fun
  | [d] => { results := [.lit (.bool false)], args := [d] }
  | _ => none }
def DeskVictimsWrongFalsely : Prop := deskVictimsRow.holds Tryz.pinned (OpenSpec.ofChange deskVictimsWrong)

/-- 'munimentlaw25.HuntKnown': WHATEVER THE INPUT: true; the input reads as it did. -/
def huntKnownSpec : ChangeSpec := { name := "huntKnown", fn := fun _ => fun
  | [] => { results := [.lit (.bool true)], args := [] }
  | _ => none }
def huntKnownRow : OpenClaim := { program := "ytibaafmjbmnpjaagreatdoor", sum := "871a9f5a2c5f06ed42663819eae7a89e3905def0b2221664f3617167fe6bd205", func := "muniment/munimentlaw25.HuntKnown", spec := "huntKnown", inPlace := ["internal/bytealg.Compare", "slices.overlaps[muniment/lock.ask]", "slices.overlaps[[]byte]", "math.Float64frombits", "math.Float64bits", "internal/bytealg.CountString", "internal/bytealg.IndexByteString", "internal/bytealg.IndexString", "math.archFloor", "math.archTrunc", "internal/bytealg.abigen_runtime_cmpstring"], unfollowed := true, recurses := true, named := ["unicode/utf8.first", "unicode/utf8.acceptRanges", "internal/bytealg.MaxLen"], apart := false, laid := [("unicode/utf8.first", laid_unicode_utf8_first), ("unicode/utf8.acceptRanges", laid_unicode_utf8_acceptRanges)] }
def HuntKnownSaid : Prop := huntKnownRow.holds Tryz.pinned (OpenSpec.ofChange huntKnownSpec)

/-- ITS FALSE NEIGHBOUR: 'it returns false'. Refute it at one input. -/
def huntKnownWrong : ChangeSpec := { name := "huntKnown", fn := fun _ => fun
  | [] => { results := [.lit (.bool false)], args := [] }
  | _ => none }
def HuntKnownWrongFalsely : Prop := huntKnownRow.holds Tryz.pinned (OpenSpec.ofChange huntKnownWrong)

/-- 'munimentlaw25.HuntCounts': WHATEVER THE INPUT: true; the input reads as it did. -/
def huntCountsSpec : ChangeSpec := { name := "huntCounts", fn := fun _ => fun
  | [d] => { results := [.lit (.bool true)], args := [d] }
  | _ => none }
def huntCountsRow : OpenClaim := { program := "ytibaafmjbmnpjaagreatdoor", sum := "871a9f5a2c5f06ed42663819eae7a89e3905def0b2221664f3617167fe6bd205", func := "muniment/munimentlaw25.HuntCounts", spec := "huntCounts", inPlace := ["internal/bytealg.Compare", "slices.overlaps[muniment/lock.ask]", "slices.overlaps[[]byte]", "math.Float64frombits", "math.Float64bits", "internal/bytealg.CountString", "internal/bytealg.IndexByteString", "internal/bytealg.IndexString", "math.archFloor", "math.archTrunc", "internal/bytealg.abigen_runtime_cmpstring"], unfollowed := true, recurses := true, named := ["unicode/utf8.first", "unicode/utf8.acceptRanges", "internal/bytealg.MaxLen"], apart := false, laid := [("unicode/utf8.first", laid_unicode_utf8_first), ("unicode/utf8.acceptRanges", laid_unicode_utf8_acceptRanges)] }
def HuntCountsSaid : Prop := huntCountsRow.holds Tryz.pinned (OpenSpec.ofChange huntCountsSpec)

/-- ITS FALSE NEIGHBOUR: 'it returns false'. Refute it at one input. -/
def huntCountsWrong : ChangeSpec := { name := "huntCounts", fn := fun _ => fun
  | [d] => { results := [.lit (.bool false)], args := [d] }
  | _ => none }
def HuntCountsWrongFalsely : Prop := huntCountsRow.holds Tryz.pinned (OpenSpec.ofChange huntCountsWrong)

/- THE SECOND FORM. 'bulk': how many values and letters a reading holds, each counted each time it is reached (what is shared counts as often as it is met; a slice's spare places count too). A statement '..UptoSaid' is the law's where the arguments, and the package variables that the reading takes, are together of bulk at most 1048576: NARROWER than '..Said'. Prove '..Said' where nothing that the law and all that it calls make is longer than what came in: it says more and counts as full. Else prove '..UptoSaid'. A law counts once. -/
mutual
def uptoBulk {H : Type} : DataW H → Nat
  | .lit (.string bytes) => bytes.length + 1
  | .lit _ => 1
  | .nil => 1
  | .ptr d => uptoBulk d + 1
  | .slice elems spare => uptoBulkAll elems + uptoBulkAll spare + 1
  | .agg parts => uptoBulkAll parts + 1
  | .iface _ d => uptoBulk d + 1
  | .map entries => uptoBulkEntries entries + 1
  | .held _ => 1
def uptoBulkAll {H : Type} : List (DataW H) → Nat
  | [] => 0
  | d :: r => uptoBulk d + uptoBulkAll r
def uptoBulkEntries {H : Type} : List (Lit × DataW H) → Nat
  | [] => 0
  | x :: r => uptoBulkEntry x + uptoBulkEntries r
def uptoBulkEntry {H : Type} : Lit × DataW H → Nat
  | (.string bytes, d) => bytes.length + uptoBulk d + 1
  | (_, d) => uptoBulk d + 1
 end
def uptoSmall : (H : Type) → List (DataW H) → Bool := fun _ ds => decide (uptoBulkAll ds ≤ 1048576)
def OpenSpec.upto (s : _root_.Go.ChangeSpec) : _root_.Go.OpenSpec := { _root_.Go.OpenSpec.ofChange s with cond := some uptoSmall }

/-- 'munimentlaw20.DeskVictims', WHERE WHAT IT READS IS OF BULK AT MOST 1048576: true; the input reads as it did. -/
def deskVictimsUptoRow : OpenClaim := { program := "ytibaafmjbmnpjaagreatdoor", sum := "871a9f5a2c5f06ed42663819eae7a89e3905def0b2221664f3617167fe6bd205", func := "muniment/munimentlaw20.DeskVictims", spec := "deskVictims", inPlace := ["internal/bytealg.Compare", "slices.overlaps[muniment/lock.ask]", "slices.overlaps[[]byte]", "math.Float64frombits", "math.Float64bits", "internal/bytealg.CountString", "internal/bytealg.IndexByteString", "internal/bytealg.IndexString", "math.archFloor", "math.archTrunc", "internal/bytealg.abigen_runtime_cmpstring"], unfollowed := true, recurses := true, named := ["unicode/utf8.first", "unicode/utf8.acceptRanges", "internal/bytealg.MaxLen"], apart := false, laid := [("unicode/utf8.first", laid_unicode_utf8_first), ("unicode/utf8.acceptRanges", laid_unicode_utf8_acceptRanges)], narrowed := true }
def DeskVictimsUptoSaid : Prop := deskVictimsUptoRow.holds Tryz.pinned (OpenSpec.upto deskVictimsSpec)

/-- 'munimentlaw25.HuntKnown', WHERE WHAT IT READS IS OF BULK AT MOST 1048576: true; the input reads as it did. -/
def huntKnownUptoRow : OpenClaim := { program := "ytibaafmjbmnpjaagreatdoor", sum := "871a9f5a2c5f06ed42663819eae7a89e3905def0b2221664f3617167fe6bd205", func := "muniment/munimentlaw25.HuntKnown", spec := "huntKnown", inPlace := ["internal/bytealg.Compare", "slices.overlaps[muniment/lock.ask]", "slices.overlaps[[]byte]", "math.Float64frombits", "math.Float64bits", "internal/bytealg.CountString", "internal/bytealg.IndexByteString", "internal/bytealg.IndexString", "math.archFloor", "math.archTrunc", "internal/bytealg.abigen_runtime_cmpstring"], unfollowed := true, recurses := true, named := ["unicode/utf8.first", "unicode/utf8.acceptRanges", "internal/bytealg.MaxLen"], apart := false, laid := [("unicode/utf8.first", laid_unicode_utf8_first), ("unicode/utf8.acceptRanges", laid_unicode_utf8_acceptRanges)], narrowed := true }
def HuntKnownUptoSaid : Prop := huntKnownUptoRow.holds Tryz.pinned (OpenSpec.upto huntKnownSpec)

/-- 'munimentlaw25.HuntCounts', WHERE WHAT IT READS IS OF BULK AT MOST 1048576: true; the input reads as it did. -/
def huntCountsUptoRow : OpenClaim := { program := "ytibaafmjbmnpjaagreatdoor", sum := "871a9f5a2c5f06ed42663819eae7a89e3905def0b2221664f3617167fe6bd205", func := "muniment/munimentlaw25.HuntCounts", spec := "huntCounts", inPlace := ["internal/bytealg.Compare", "slices.overlaps[muniment/lock.ask]", "slices.overlaps[[]byte]", "math.Float64frombits", "math.Float64bits", "internal/bytealg.CountString", "internal/bytealg.IndexByteString", "internal/bytealg.IndexString", "math.archFloor", "math.archTrunc", "internal/bytealg.abigen_runtime_cmpstring"], unfollowed := true, recurses := true, named := ["unicode/utf8.first", "unicode/utf8.acceptRanges", "internal/bytealg.MaxLen"], apart := false, laid := [("unicode/utf8.first", laid_unicode_utf8_first), ("unicode/utf8.acceptRanges", laid_unicode_utf8_acceptRanges)], narrowed := true }
def HuntCountsUptoSaid : Prop := huntCountsUptoRow.holds Tryz.pinned (OpenSpec.upto huntCountsSpec)

end Rows
end Go.Proofs.YtibaafmjbmnpjaaGreatDoor

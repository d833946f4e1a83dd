/-
  DERIVED. GIVEN WITH THE SEED: THE CARDS: each row of YtpenopggmbpefaaGreatDoorRows.lean that lists a variable, with what it lists TIED to the program's text (the seventh form; the later family's looks); each row that meets fmt, with fmt's text TOLD by the authors' own Lean function (tested against real Go, not proved from fmt's source: count such statements apart). THE CARD IS WHAT COUNTS. Prove the row's statement (the work); the ties are given (YtpenopggmbpefaaGreatDoorTie.lean); close each card by the builder's one call (the guide's Derived/Test/ToyasCard.lean, 'card_holds'). Laid BY PROGRAM, IN A SANDBOX (cutbox-door.mjs). By AI agents, Wed Nov 11 2026. No macro, syntax, notation, axiom, sorry.
-/
import Derived.Test.YtpenopggmbpefaaGreatDoorRows
import GoSem.ClaimSeven
namespace Go.Proofs.YtpenopggmbpefaaGreatDoor
namespace Rows

/-- THE TIED CARD OF 'munimentlaw22.PlayKnown'. -/
def playKnownCard : Claim7 := { stood := { row := playKnownRow, standIns := [], harness := (true, "d53ae9b23fb7342dddaa2a5d680c9af952d99065e82b8763a76d26edc309a47f"), looks := true }, kinds := [], alts := [], laidByText := true, laidKinds := [.pinned, .data], laidTests := true, laidLooks := .later }
def PlayKnownCardSaid : Prop := Claim7.holds Tryz.pinned (.plain (OpenSpec.ofChange playKnownSpec)) playKnownCard

/-- THE SECOND FORM's CARD OF 'munimentlaw22.PlayKnown'. -/
def playKnownUptoCard : Claim7 := { stood := { row := playKnownUptoRow, standIns := [], harness := (true, "d53ae9b23fb7342dddaa2a5d680c9af952d99065e82b8763a76d26edc309a47f"), looks := true }, kinds := [], alts := [], laidByText := true, laidKinds := [.pinned, .data], laidTests := true, laidLooks := .later }
def PlayKnownUptoCardSaid : Prop := Claim7.holds Tryz.pinned (.plain (OpenSpec.upto playKnownSpec)) playKnownUptoCard
end Rows
end Go.Proofs.YtpenopggmbpefaaGreatDoor

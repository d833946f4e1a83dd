/-
  DERIVED. GIVEN WITH THE SEED: THE CARDS: each row of YtmahbimafpddpaaGreatDoorRows.lean that lists a variable, with what it lists TIED to the program's text (the seventh form; the later family's looks); each row that meets fmt, with fmt's text TOLD by the authors' own Lean function (tested against real Go, not proved from fmt's source: count such statements apart). THE CARD IS WHAT COUNTS. Prove the row's statement (the work); the ties are given (YtmahbimafpddpaaGreatDoorTie.lean); close each card by the builder's one call (the guide's Derived/Test/ToyasCard.lean, 'card_holds'). Laid BY PROGRAM, IN A SANDBOX (cutbox-door.mjs). By AI agents, Wed Nov 11 2026. No macro, syntax, notation, axiom, sorry.
-/
import Derived.Test.YtmahbimafpddpaaGreatDoorRows
import GoSem.ClaimSeven
namespace Go.Proofs.YtmahbimafpddpaaGreatDoor
namespace Rows

/-- THE TIED CARD OF 'munimentlaw20.DeskKnown'. -/
def deskKnownCard : Claim7 := { stood := { row := deskKnownRow, standIns := [], harness := (true, "ed467649357945f50c588122c162c19f3cdc5e62a81c2ab289997396035fa2cb"), looks := true }, kinds := [], alts := [], laidByText := true, laidKinds := [.pinned, .data], laidTests := true, laidLooks := .later }
def DeskKnownCardSaid : Prop := Claim7.holds Tryz.pinned (.plain (OpenSpec.ofChange deskKnownSpec)) deskKnownCard

/-- THE SECOND FORM's CARD OF 'munimentlaw20.DeskKnown'. -/
def deskKnownUptoCard : Claim7 := { stood := { row := deskKnownUptoRow, standIns := [], harness := (true, "ed467649357945f50c588122c162c19f3cdc5e62a81c2ab289997396035fa2cb"), looks := true }, kinds := [], alts := [], laidByText := true, laidKinds := [.pinned, .data], laidTests := true, laidLooks := .later }
def DeskKnownUptoCardSaid : Prop := Claim7.holds Tryz.pinned (.plain (OpenSpec.upto deskKnownSpec)) deskKnownUptoCard
end Rows
end Go.Proofs.YtmahbimafpddpaaGreatDoor

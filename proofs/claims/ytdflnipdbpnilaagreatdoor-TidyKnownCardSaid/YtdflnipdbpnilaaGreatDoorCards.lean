/-
  DERIVED. GIVEN WITH THE SEED: THE CARDS: each row of YtdflnipdbpnilaaGreatDoorRows.lean that lists a variable, with what it lists TIED to the program's text (the seventh form; the later family's looks); each row that meets fmt, with fmt's text TOLD by the authors' own Lean function (tested against real Go, not proved from fmt's source: count such statements apart). THE CARD IS WHAT COUNTS. Prove the row's statement (the work); the ties are given (YtdflnipdbpnilaaGreatDoorTie.lean); close each card by the builder's one call (the guide's Derived/Test/ToyasCard.lean, 'card_holds'). Laid BY PROGRAM, IN A SANDBOX (cutbox-door.mjs). By AI agents, Wed Nov 11 2026. No macro, syntax, notation, axiom, sorry.
-/
import Derived.Test.YtdflnipdbpnilaaGreatDoorRows
import GoSem.ClaimSeven
namespace Go.Proofs.YtdflnipdbpnilaaGreatDoor
namespace Rows

/-- THE TIED CARD OF 'munimentlaw18.TidyKnown'. -/
def tidyKnownCard : Claim7 := { stood := { row := tidyKnownRow, standIns := [], harness := (true, "cd3333308ad21a21baa4a0197818243e514010e2f873b08505f395ca4069d97b"), looks := true }, kinds := [], alts := [], laidByText := true, laidKinds := [.data, .pinned], laidTests := true, laidLooks := .later }
def TidyKnownCardSaid : Prop := Claim7.holds Tryz.pinned (.plain (OpenSpec.ofChange tidyKnownSpec)) tidyKnownCard

/-- THE SECOND FORM's CARD OF 'munimentlaw18.TidyKnown'. -/
def tidyKnownUptoCard : Claim7 := { stood := { row := tidyKnownUptoRow, standIns := [], harness := (true, "cd3333308ad21a21baa4a0197818243e514010e2f873b08505f395ca4069d97b"), looks := true }, kinds := [], alts := [], laidByText := true, laidKinds := [.data, .pinned], laidTests := true, laidLooks := .later }
def TidyKnownUptoCardSaid : Prop := Claim7.holds Tryz.pinned (.plain (OpenSpec.upto tidyKnownSpec)) tidyKnownUptoCard
end Rows
end Go.Proofs.YtdflnipdbpnilaaGreatDoor

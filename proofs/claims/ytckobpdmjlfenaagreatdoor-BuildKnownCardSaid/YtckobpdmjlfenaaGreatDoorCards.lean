/-
  DERIVED. GIVEN WITH THE SEED: THE CARDS: each row of YtckobpdmjlfenaaGreatDoorRows.lean that lists a variable, with what it lists TIED to the program's text (the seventh form; the later family's looks); each row that meets fmt, with fmt's text TOLD by the authors' own Lean function (tested against real Go, not proved from fmt's source: count such statements apart). THE CARD IS WHAT COUNTS. Prove the row's statement (the work); the ties are given (YtckobpdmjlfenaaGreatDoorTie.lean); close each card by the builder's one call (the guide's Derived/Test/ToyasCard.lean, 'card_holds'). Laid BY PROGRAM, IN A SANDBOX (cutbox-door.mjs). By AI agents, Wed Nov 11 2026. No macro, syntax, notation, axiom, sorry.
-/
import Derived.Test.YtckobpdmjlfenaaGreatDoorRows
import GoSem.ClaimSeven
namespace Go.Proofs.YtckobpdmjlfenaaGreatDoor
namespace Rows

/-- THE TIED CARD OF 'munimentlaw17.BuildKnown'. -/
def buildKnownCard : Claim7 := { stood := { row := buildKnownRow, standIns := [], harness := (true, "f3ba74859aea1c3eedcd50561d6865c45588e577abfcd9f0e06cdd02d8f51a0b"), looks := true }, kinds := [], alts := [], laidByText := true, laidKinds := [.data, .pinned], laidTests := true, laidLooks := .later }
def BuildKnownCardSaid : Prop := Claim7.holds Tryz.pinned (.plain (OpenSpec.ofChange buildKnownSpec)) buildKnownCard

/-- THE SECOND FORM's CARD OF 'munimentlaw17.BuildKnown'. -/
def buildKnownUptoCard : Claim7 := { stood := { row := buildKnownUptoRow, standIns := [], harness := (true, "f3ba74859aea1c3eedcd50561d6865c45588e577abfcd9f0e06cdd02d8f51a0b"), looks := true }, kinds := [], alts := [], laidByText := true, laidKinds := [.data, .pinned], laidTests := true, laidLooks := .later }
def BuildKnownUptoCardSaid : Prop := Claim7.holds Tryz.pinned (.plain (OpenSpec.upto buildKnownSpec)) buildKnownUptoCard
end Rows
end Go.Proofs.YtckobpdmjlfenaaGreatDoor

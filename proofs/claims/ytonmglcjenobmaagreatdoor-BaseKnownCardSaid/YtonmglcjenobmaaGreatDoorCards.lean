/-
  DERIVED. GIVEN WITH THE SEED: THE CARDS: each row of YtonmglcjenobmaaGreatDoorRows.lean that lists a variable, with what it lists TIED to the program's text (the seventh form; the later family's looks); each row that meets fmt, with fmt's text TOLD by the authors' own Lean function (tested against real Go, not proved from fmt's source: count such statements apart). THE CARD IS WHAT COUNTS. Prove the row's statement (the work); the ties are given (YtonmglcjenobmaaGreatDoorTie.lean); close each card by the builder's one call (the guide's Derived/Test/ToyasCard.lean, 'card_holds'). Laid BY PROGRAM, IN A SANDBOX (cutbox-door.mjs). By AI agents, Wed Nov 11 2026. No macro, syntax, notation, axiom, sorry.
-/
import Derived.Test.YtonmglcjenobmaaGreatDoorRows
import GoSem.ClaimSeven
namespace Go.Proofs.YtonmglcjenobmaaGreatDoor
namespace Rows

/-- THE TIED CARD OF 'munimentlaw16.BaseKnown'. -/
def baseKnownCard : Claim7 := { stood := { row := baseKnownRow, standIns := [], harness := (true, "ecf680e220669fa020f86c44270af84396fe3c859f729186b18696a23bdc1702"), looks := true }, kinds := [], alts := [], laidByText := true, laidKinds := [.data, .pinned], laidTests := true, laidLooks := .later }
def BaseKnownCardSaid : Prop := Claim7.holds Tryz.pinned (.plain (OpenSpec.ofChange baseKnownSpec)) baseKnownCard

/-- THE SECOND FORM's CARD OF 'munimentlaw16.BaseKnown'. -/
def baseKnownUptoCard : Claim7 := { stood := { row := baseKnownUptoRow, standIns := [], harness := (true, "ecf680e220669fa020f86c44270af84396fe3c859f729186b18696a23bdc1702"), looks := true }, kinds := [], alts := [], laidByText := true, laidKinds := [.data, .pinned], laidTests := true, laidLooks := .later }
def BaseKnownUptoCardSaid : Prop := Claim7.holds Tryz.pinned (.plain (OpenSpec.upto baseKnownSpec)) baseKnownUptoCard
end Rows
end Go.Proofs.YtonmglcjenobmaaGreatDoor

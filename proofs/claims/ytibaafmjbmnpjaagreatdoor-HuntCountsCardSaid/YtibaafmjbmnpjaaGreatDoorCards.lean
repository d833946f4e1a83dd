/-
  DERIVED. GIVEN WITH THE SEED: THE CARDS: each row of YtibaafmjbmnpjaaGreatDoorRows.lean that lists a variable, with what it lists TIED to the program's text (the seventh form; the later family's looks); each row that meets fmt, with fmt's text TOLD by the authors' own Lean function (tested against real Go, not proved from fmt's source: count such statements apart). THE CARD IS WHAT COUNTS. Prove the row's statement (the work); the ties are given (YtibaafmjbmnpjaaGreatDoorTie.lean); close each card by the builder's one call (the guide's Derived/Test/ToyasCard.lean, 'card_holds'). Laid BY PROGRAM, IN A SANDBOX (cutbox-door.mjs). By AI agents, Wed Nov 11 2026. No macro, syntax, notation, axiom, sorry.
-/
import Derived.Test.YtibaafmjbmnpjaaGreatDoorRows
import GoSem.ClaimSeven
namespace Go.Proofs.YtibaafmjbmnpjaaGreatDoor
namespace Rows

/-- THE TIED CARD OF 'munimentlaw20.DeskVictims'. -/
def deskVictimsCard : Claim7 := { stood := { row := deskVictimsRow, standIns := [], harness := (true, "4421842a452639f0cae4eaf9c451dde0ec2f41f303ac500f3434c7270438839e"), looks := true }, kinds := [], alts := [], laidByText := true, laidKinds := [.pinned, .data], laidTests := true, laidLooks := .later }
def DeskVictimsCardSaid : Prop := Claim7.holds Tryz.pinned (.plain (OpenSpec.ofChange deskVictimsSpec)) deskVictimsCard

/-- THE TIED CARD OF 'munimentlaw25.HuntKnown'. -/
def huntKnownCard : Claim7 := { stood := { row := huntKnownRow, standIns := [], harness := (true, "4421842a452639f0cae4eaf9c451dde0ec2f41f303ac500f3434c7270438839e"), looks := true }, kinds := [], alts := [], laidByText := true, laidKinds := [.pinned, .data], laidTests := true, laidLooks := .later }
def HuntKnownCardSaid : Prop := Claim7.holds Tryz.pinned (.plain (OpenSpec.ofChange huntKnownSpec)) huntKnownCard

/-- THE TIED CARD OF 'munimentlaw25.HuntCounts'. -/
def huntCountsCard : Claim7 := { stood := { row := huntCountsRow, standIns := [], harness := (true, "4421842a452639f0cae4eaf9c451dde0ec2f41f303ac500f3434c7270438839e"), looks := true }, kinds := [], alts := [], laidByText := true, laidKinds := [.pinned, .data], laidTests := true, laidLooks := .later }
def HuntCountsCardSaid : Prop := Claim7.holds Tryz.pinned (.plain (OpenSpec.ofChange huntCountsSpec)) huntCountsCard

/-- THE SECOND FORM's CARD OF 'munimentlaw20.DeskVictims'. -/
def deskVictimsUptoCard : Claim7 := { stood := { row := deskVictimsUptoRow, standIns := [], harness := (true, "4421842a452639f0cae4eaf9c451dde0ec2f41f303ac500f3434c7270438839e"), looks := true }, kinds := [], alts := [], laidByText := true, laidKinds := [.pinned, .data], laidTests := true, laidLooks := .later }
def DeskVictimsUptoCardSaid : Prop := Claim7.holds Tryz.pinned (.plain (OpenSpec.upto deskVictimsSpec)) deskVictimsUptoCard

/-- THE SECOND FORM's CARD OF 'munimentlaw25.HuntKnown'. -/
def huntKnownUptoCard : Claim7 := { stood := { row := huntKnownUptoRow, standIns := [], harness := (true, "4421842a452639f0cae4eaf9c451dde0ec2f41f303ac500f3434c7270438839e"), looks := true }, kinds := [], alts := [], laidByText := true, laidKinds := [.pinned, .data], laidTests := true, laidLooks := .later }
def HuntKnownUptoCardSaid : Prop := Claim7.holds Tryz.pinned (.plain (OpenSpec.upto huntKnownSpec)) huntKnownUptoCard

/-- THE SECOND FORM's CARD OF 'munimentlaw25.HuntCounts'. -/
def huntCountsUptoCard : Claim7 := { stood := { row := huntCountsUptoRow, standIns := [], harness := (true, "4421842a452639f0cae4eaf9c451dde0ec2f41f303ac500f3434c7270438839e"), looks := true }, kinds := [], alts := [], laidByText := true, laidKinds := [.pinned, .data], laidTests := true, laidLooks := .later }
def HuntCountsUptoCardSaid : Prop := Claim7.holds Tryz.pinned (.plain (OpenSpec.upto huntCountsSpec)) huntCountsUptoCard
end Rows
end Go.Proofs.YtibaafmjbmnpjaaGreatDoor

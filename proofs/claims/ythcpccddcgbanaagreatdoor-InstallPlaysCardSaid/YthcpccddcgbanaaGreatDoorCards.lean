/-
  DERIVED. GIVEN WITH THE SEED: THE CARDS: each row of YthcpccddcgbanaaGreatDoorRows.lean that lists a variable, with what it lists TIED to the program's text (the seventh form; the later family's looks); each row that meets fmt, with fmt's text TOLD by the authors' own Lean function (tested against real Go, not proved from fmt's source: count such statements apart). THE CARD IS WHAT COUNTS. Prove the row's statement (the work); the ties are given (YthcpccddcgbanaaGreatDoorTie.lean); close each card by the builder's one call (the guide's Derived/Test/ToyasCard.lean, 'card_holds'). Laid BY PROGRAM, IN A SANDBOX (cutbox-door.mjs). By AI agents, Wed Nov 11 2026. No macro, syntax, notation, axiom, sorry.
-/
import Derived.Test.YthcpccddcgbanaaGreatDoorRows
import GoSem.ClaimSeven
namespace Go.Proofs.YthcpccddcgbanaaGreatDoor
namespace Rows

/-- THE TIED CARD OF 'rowlocklaw12.InstallPlays'. -/
def installPlaysCard : Claim7 := { stood := { row := installPlaysRow, standIns := [], harness := (true, "5516f83ab9447e8f4980b4e6a50e402289bc31e3db83f838fdea59fe159fc22f"), looks := true }, kinds := [], alts := [], laidByText := true, laidKinds := [.handle], laidTests := true, laidLooks := .later }
def InstallPlaysCardSaid : Prop := Claim7.holds Tryz.pinned (.plain (OpenSpec.ofChange installPlaysSpec)) installPlaysCard

/-- THE SECOND FORM's CARD OF 'rowlocklaw12.InstallPlays'. -/
def installPlaysUptoCard : Claim7 := { stood := { row := installPlaysUptoRow, standIns := [], harness := (true, "5516f83ab9447e8f4980b4e6a50e402289bc31e3db83f838fdea59fe159fc22f"), looks := true }, kinds := [], alts := [], laidByText := true, laidKinds := [.handle], laidTests := true, laidLooks := .later }
def InstallPlaysUptoCardSaid : Prop := Claim7.holds Tryz.pinned (.plain (OpenSpec.upto installPlaysSpec)) installPlaysUptoCard
end Rows
end Go.Proofs.YthcpccddcgbanaaGreatDoor

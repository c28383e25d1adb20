/-
  DERIVED. GIVEN WITH THE SEED: THE CARDS: each row of YtnlpnbllnddaaaaDoorRows.lean that lists a variable, with what it lists TIED to the program's text (the seventh form; the later family's looks); each row that meets fmt, with fmt's text TOLD by the authors' own Lean function (tested against real Go, not proved from fmt's source: count such statements apart). THE CARD IS WHAT COUNTS. Prove the row's statement (the work); the ties are given (YtnlpnbllnddaaaaDoorTie.lean); close each card by the builder's one call (the guide's Derived/Test/ToyasCard.lean, 'card_holds'). Laid BY PROGRAM, IN A SANDBOX (cutbox-door.mjs). By AI agents, Wed Nov 11 2026. No macro, syntax, notation, axiom, sorry.
-/
import Derived.Test.YtnlpnbllnddaaaaDoorRows
import GoSem.ClaimSeven
namespace Go.Proofs.YtnlpnbllnddaaaaDoor
namespace Rows

/-- THE TIED CARD OF 'rowlocklaw05.MappingPlays'. -/
def mappingPlaysCard : Claim7 := { stood := { row := mappingPlaysRow, standIns := [], harness := (true, "cfa426b2ec636201e26b99cbf63042765d2451e92b2ed0bc695666429be71aa8"), looks := true }, kinds := [], alts := [], laidByText := true, laidKinds := [.handle], laidTests := true, laidLooks := .later }
def MappingPlaysCardSaid : Prop := Claim7.holds Tryd.pinned (.plain (OpenSpec.ofChange mappingPlaysSpec)) mappingPlaysCard

/-- THE TIED CARD OF 'rowlocklaw05.MappingBack'. -/
def mappingBackCard : Claim7 := { stood := { row := mappingBackRow, standIns := [], harness := (true, "cfa426b2ec636201e26b99cbf63042765d2451e92b2ed0bc695666429be71aa8"), looks := true }, kinds := [], alts := [], laidByText := true, laidKinds := [.handle], laidTests := true, laidLooks := .later }
def MappingBackCardSaid : Prop := Claim7.holds Tryd.pinned (.plain (OpenSpec.ofChange mappingBackSpec)) mappingBackCard

/-- THE TIED CARD OF 'rowlocklaw05.MappingAlone'. -/
def mappingAloneCard : Claim7 := { stood := { row := mappingAloneRow, standIns := [], harness := (true, "cfa426b2ec636201e26b99cbf63042765d2451e92b2ed0bc695666429be71aa8"), looks := true }, kinds := [], alts := [], laidByText := true, laidKinds := [.handle], laidTests := true, laidLooks := .later }
def MappingAloneCardSaid : Prop := Claim7.holds Tryd.pinned (.plain (OpenSpec.ofChange mappingAloneSpec)) mappingAloneCard

/-- THE TIED CARD OF 'rowlocklaw05.MappingCopies'. -/
def mappingCopiesCard : Claim7 := { stood := { row := mappingCopiesRow, standIns := [], harness := (true, "cfa426b2ec636201e26b99cbf63042765d2451e92b2ed0bc695666429be71aa8"), looks := true }, kinds := [], alts := [], laidByText := true, laidKinds := [.handle], laidTests := true, laidLooks := .later }
def MappingCopiesCardSaid : Prop := Claim7.holds Tryd.pinned (.plain (OpenSpec.ofChange mappingCopiesSpec)) mappingCopiesCard

/-- THE SECOND FORM's CARD OF 'rowlocklaw05.MappingPlays'. -/
def mappingPlaysUptoCard : Claim7 := { stood := { row := mappingPlaysUptoRow, standIns := [], harness := (true, "cfa426b2ec636201e26b99cbf63042765d2451e92b2ed0bc695666429be71aa8"), looks := true }, kinds := [], alts := [], laidByText := true, laidKinds := [.handle], laidTests := true, laidLooks := .later }
def MappingPlaysUptoCardSaid : Prop := Claim7.holds Tryd.pinned (.plain (OpenSpec.upto mappingPlaysSpec)) mappingPlaysUptoCard

/-- THE SECOND FORM's CARD OF 'rowlocklaw05.MappingBack'. -/
def mappingBackUptoCard : Claim7 := { stood := { row := mappingBackUptoRow, standIns := [], harness := (true, "cfa426b2ec636201e26b99cbf63042765d2451e92b2ed0bc695666429be71aa8"), looks := true }, kinds := [], alts := [], laidByText := true, laidKinds := [.handle], laidTests := true, laidLooks := .later }
def MappingBackUptoCardSaid : Prop := Claim7.holds Tryd.pinned (.plain (OpenSpec.upto mappingBackSpec)) mappingBackUptoCard

/-- THE SECOND FORM's CARD OF 'rowlocklaw05.MappingAlone'. -/
def mappingAloneUptoCard : Claim7 := { stood := { row := mappingAloneUptoRow, standIns := [], harness := (true, "cfa426b2ec636201e26b99cbf63042765d2451e92b2ed0bc695666429be71aa8"), looks := true }, kinds := [], alts := [], laidByText := true, laidKinds := [.handle], laidTests := true, laidLooks := .later }
def MappingAloneUptoCardSaid : Prop := Claim7.holds Tryd.pinned (.plain (OpenSpec.upto mappingAloneSpec)) mappingAloneUptoCard

/-- THE SECOND FORM's CARD OF 'rowlocklaw05.MappingCopies'. -/
def mappingCopiesUptoCard : Claim7 := { stood := { row := mappingCopiesUptoRow, standIns := [], harness := (true, "cfa426b2ec636201e26b99cbf63042765d2451e92b2ed0bc695666429be71aa8"), looks := true }, kinds := [], alts := [], laidByText := true, laidKinds := [.handle], laidTests := true, laidLooks := .later }
def MappingCopiesUptoCardSaid : Prop := Claim7.holds Tryd.pinned (.plain (OpenSpec.upto mappingCopiesSpec)) mappingCopiesUptoCard
end Rows
end Go.Proofs.YtnlpnbllnddaaaaDoor

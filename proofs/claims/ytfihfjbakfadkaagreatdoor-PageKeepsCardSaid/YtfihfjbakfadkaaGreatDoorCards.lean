/-
  DERIVED. GIVEN WITH THE SEED: THE CARDS: each row of YtfihfjbakfadkaaGreatDoorRows.lean that lists a variable, with what it lists TIED to the program's text (the seventh form; the later family's looks); each row that meets fmt, with fmt's text TOLD by the authors' own Lean function (tested against real Go, not proved from fmt's source: count such statements apart). THE CARD IS WHAT COUNTS. Prove the row's statement (the work); the ties are given (YtfihfjbakfadkaaGreatDoorTie.lean); close each card by the builder's one call (the guide's Derived/Test/ToyasCard.lean, 'card_holds'). Laid BY PROGRAM, IN A SANDBOX (cutbox-door.mjs). By AI agents, Wed Nov 11 2026. No macro, syntax, notation, axiom, sorry.
-/
import Derived.Test.YtfihfjbakfadkaaGreatDoorRows
import GoSem.ClaimSeven
namespace Go.Proofs.YtfihfjbakfadkaaGreatDoor
namespace Rows

/-- THE TIED CARD OF 'rowlocklaw10.PageMeans'. -/
def pageMeansCard : Claim7 := { stood := { row := pageMeansRow, standIns := [], harness := (true, "72c326cadff8529de6a0f26d2ac74e33949f0feec9a8ad5d694450e9979c93fb"), looks := true }, kinds := [], alts := [], laidByText := true, laidKinds := [.handle], laidTests := true, laidLooks := .later }
def PageMeansCardSaid : Prop := Claim7.holds Tryz.pinned (.plain (OpenSpec.ofChange pageMeansSpec)) pageMeansCard

/-- THE TIED CARD OF 'rowlocklaw10.PageLoads'. -/
def pageLoadsCard : Claim7 := { stood := { row := pageLoadsRow, standIns := [], harness := (true, "72c326cadff8529de6a0f26d2ac74e33949f0feec9a8ad5d694450e9979c93fb"), looks := true }, kinds := [], alts := [], laidByText := true, laidKinds := [.handle], laidTests := true, laidLooks := .later }
def PageLoadsCardSaid : Prop := Claim7.holds Tryz.pinned (.plain (OpenSpec.ofChange pageLoadsSpec)) pageLoadsCard

/-- THE TIED CARD OF 'rowlocklaw10.PageKeeps'. -/
def pageKeepsCard : Claim7 := { stood := { row := pageKeepsRow, standIns := [], harness := (true, "72c326cadff8529de6a0f26d2ac74e33949f0feec9a8ad5d694450e9979c93fb"), looks := true }, kinds := [], alts := [], laidByText := true, laidKinds := [.handle], laidTests := true, laidLooks := .later }
def PageKeepsCardSaid : Prop := Claim7.holds Tryz.pinned (.plain (OpenSpec.ofChange pageKeepsSpec)) pageKeepsCard

/-- THE SECOND FORM's CARD OF 'rowlocklaw10.PageMeans'. -/
def pageMeansUptoCard : Claim7 := { stood := { row := pageMeansUptoRow, standIns := [], harness := (true, "72c326cadff8529de6a0f26d2ac74e33949f0feec9a8ad5d694450e9979c93fb"), looks := true }, kinds := [], alts := [], laidByText := true, laidKinds := [.handle], laidTests := true, laidLooks := .later }
def PageMeansUptoCardSaid : Prop := Claim7.holds Tryz.pinned (.plain (OpenSpec.upto pageMeansSpec)) pageMeansUptoCard

/-- THE SECOND FORM's CARD OF 'rowlocklaw10.PageLoads'. -/
def pageLoadsUptoCard : Claim7 := { stood := { row := pageLoadsUptoRow, standIns := [], harness := (true, "72c326cadff8529de6a0f26d2ac74e33949f0feec9a8ad5d694450e9979c93fb"), looks := true }, kinds := [], alts := [], laidByText := true, laidKinds := [.handle], laidTests := true, laidLooks := .later }
def PageLoadsUptoCardSaid : Prop := Claim7.holds Tryz.pinned (.plain (OpenSpec.upto pageLoadsSpec)) pageLoadsUptoCard

/-- THE SECOND FORM's CARD OF 'rowlocklaw10.PageKeeps'. -/
def pageKeepsUptoCard : Claim7 := { stood := { row := pageKeepsUptoRow, standIns := [], harness := (true, "72c326cadff8529de6a0f26d2ac74e33949f0feec9a8ad5d694450e9979c93fb"), looks := true }, kinds := [], alts := [], laidByText := true, laidKinds := [.handle], laidTests := true, laidLooks := .later }
def PageKeepsUptoCardSaid : Prop := Claim7.holds Tryz.pinned (.plain (OpenSpec.upto pageKeepsSpec)) pageKeepsUptoCard
end Rows
end Go.Proofs.YtfihfjbakfadkaaGreatDoor

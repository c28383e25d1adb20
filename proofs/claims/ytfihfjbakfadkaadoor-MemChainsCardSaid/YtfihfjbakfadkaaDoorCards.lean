/-
  DERIVED. GIVEN WITH THE SEED: THE CARDS: each row of YtfihfjbakfadkaaDoorRows.lean that lists a variable, with what it lists TIED to the program's text (the seventh form; the later family's looks); each row that meets fmt, with fmt's text TOLD by the authors' own Lean function (tested against real Go, not proved from fmt's source: count such statements apart). THE CARD IS WHAT COUNTS. Prove the row's statement (the work); the ties are given (YtfihfjbakfadkaaDoorTie.lean); close each card by the builder's one call (the guide's Derived/Test/ToyasCard.lean, 'card_holds'). Laid BY PROGRAM, IN A SANDBOX (cutbox-door.mjs). By AI agents, Wed Nov 11 2026. No macro, syntax, notation, axiom, sorry.
-/
import Derived.Test.YtfihfjbakfadkaaDoorRows
import GoSem.ClaimSeven
namespace Go.Proofs.YtfihfjbakfadkaaDoor
namespace Rows

/-- THE TIED CARD OF 'rowlocklaw09.MemChains'. -/
def memChainsCard : Claim7 := { stood := { row := memChainsRow, standIns := [], harness := (true, "e2489e4440e9d3e9f143ef5c3cab15cf4029e19624a3e92970586eee91301968"), looks := true }, kinds := [], alts := [], laidByText := true, laidKinds := [.handle], laidTests := true, laidLooks := .later }
def MemChainsCardSaid : Prop := Claim7.holds Tryd.pinned (.plain (OpenSpec.ofChange memChainsSpec)) memChainsCard

/-- THE TIED CARD OF 'rowlocklaw10.PageSame'. -/
def pageSameCard : Claim7 := { stood := { row := pageSameRow, standIns := [], harness := (true, "e2489e4440e9d3e9f143ef5c3cab15cf4029e19624a3e92970586eee91301968"), looks := true }, kinds := [], alts := [], laidByText := true, laidKinds := [.handle], laidTests := true, laidLooks := .later }
def PageSameCardSaid : Prop := Claim7.holds Tryd.pinned (.plain (OpenSpec.ofChange pageSameSpec)) pageSameCard

/-- THE SECOND FORM's CARD OF 'rowlocklaw09.MemChains'. -/
def memChainsUptoCard : Claim7 := { stood := { row := memChainsUptoRow, standIns := [], harness := (true, "e2489e4440e9d3e9f143ef5c3cab15cf4029e19624a3e92970586eee91301968"), looks := true }, kinds := [], alts := [], laidByText := true, laidKinds := [.handle], laidTests := true, laidLooks := .later }
def MemChainsUptoCardSaid : Prop := Claim7.holds Tryd.pinned (.plain (OpenSpec.upto memChainsSpec)) memChainsUptoCard

/-- THE SECOND FORM's CARD OF 'rowlocklaw10.PageSame'. -/
def pageSameUptoCard : Claim7 := { stood := { row := pageSameUptoRow, standIns := [], harness := (true, "e2489e4440e9d3e9f143ef5c3cab15cf4029e19624a3e92970586eee91301968"), looks := true }, kinds := [], alts := [], laidByText := true, laidKinds := [.handle], laidTests := true, laidLooks := .later }
def PageSameUptoCardSaid : Prop := Claim7.holds Tryd.pinned (.plain (OpenSpec.upto pageSameSpec)) pageSameUptoCard
end Rows
end Go.Proofs.YtfihfjbakfadkaaDoor

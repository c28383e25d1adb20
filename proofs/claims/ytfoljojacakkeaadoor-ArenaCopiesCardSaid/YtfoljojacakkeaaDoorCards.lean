/-
  DERIVED. GIVEN WITH THE SEED: THE CARDS: each row of YtfoljojacakkeaaDoorRows.lean that lists a variable, with what it lists TIED to the program's text (the seventh form; the later family's looks); each row that meets fmt, with fmt's text TOLD by the authors' own Lean function (tested against real Go, not proved from fmt's source: count such statements apart). THE CARD IS WHAT COUNTS. Prove the row's statement (the work); the ties are given (YtfoljojacakkeaaDoorTie.lean); close each card by the builder's one call (the guide's Derived/Test/ToyasCard.lean, 'card_holds'). Laid BY PROGRAM, IN A SANDBOX (cutbox-door.mjs). By AI agents, Wed Nov 11 2026. No macro, syntax, notation, axiom, sorry.
-/
import Derived.Test.YtfoljojacakkeaaDoorRows
import GoSem.ClaimSeven
namespace Go.Proofs.YtfoljojacakkeaaDoor
namespace Rows

/-- THE TIED CARD OF 'rowlocklaw04.ArenaPlays'. -/
def arenaPlaysCard : Claim7 := { stood := { row := arenaPlaysRow, standIns := [], harness := (true, "85b3fcf3b9b80e64e2a47cc7e43d5576eeaf9d64d4dae459a119348624e65405"), looks := true }, kinds := [], alts := [], laidByText := true, laidKinds := [.handle], laidTests := true, laidLooks := .later }
def ArenaPlaysCardSaid : Prop := Claim7.holds Tryd.pinned (.plain (OpenSpec.ofChange arenaPlaysSpec)) arenaPlaysCard

/-- THE TIED CARD OF 'rowlocklaw04.ArenaCopies'. -/
def arenaCopiesCard : Claim7 := { stood := { row := arenaCopiesRow, standIns := [], harness := (true, "85b3fcf3b9b80e64e2a47cc7e43d5576eeaf9d64d4dae459a119348624e65405"), looks := true }, kinds := [], alts := [], laidByText := true, laidKinds := [.handle], laidTests := true, laidLooks := .later }
def ArenaCopiesCardSaid : Prop := Claim7.holds Tryd.pinned (.plain (OpenSpec.ofChange arenaCopiesSpec)) arenaCopiesCard

/-- THE TIED CARD OF 'rowlocklaw08.InnerAsks'. -/
def innerAsksCard : Claim7 := { stood := { row := innerAsksRow, standIns := [], harness := (true, "85b3fcf3b9b80e64e2a47cc7e43d5576eeaf9d64d4dae459a119348624e65405"), looks := true }, kinds := [], alts := [], laidByText := true, laidKinds := [.handle], laidTests := true, laidLooks := .later }
def InnerAsksCardSaid : Prop := Claim7.holds Tryd.pinned (.plain (OpenSpec.ofChange innerAsksSpec)) innerAsksCard

/-- THE TIED CARD OF 'rowlocklaw08.InnerBuilds'. -/
def innerBuildsCard : Claim7 := { stood := { row := innerBuildsRow, standIns := [], harness := (true, "85b3fcf3b9b80e64e2a47cc7e43d5576eeaf9d64d4dae459a119348624e65405"), looks := true }, kinds := [], alts := [], laidByText := true, laidKinds := [.handle], laidTests := true, laidLooks := .later }
def InnerBuildsCardSaid : Prop := Claim7.holds Tryd.pinned (.plain (OpenSpec.ofChange innerBuildsSpec)) innerBuildsCard

/-- THE TIED CARD OF 'rowlocklaw09.MemChains'. -/
def memChainsCard : Claim7 := { stood := { row := memChainsRow, standIns := [], harness := (true, "85b3fcf3b9b80e64e2a47cc7e43d5576eeaf9d64d4dae459a119348624e65405"), looks := true }, kinds := [], alts := [], laidByText := true, laidKinds := [.handle], laidTests := true, laidLooks := .later }
def MemChainsCardSaid : Prop := Claim7.holds Tryd.pinned (.plain (OpenSpec.ofChange memChainsSpec)) memChainsCard

/-- THE TIED CARD OF 'rowlocklaw10.PageSame'. -/
def pageSameCard : Claim7 := { stood := { row := pageSameRow, standIns := [], harness := (true, "85b3fcf3b9b80e64e2a47cc7e43d5576eeaf9d64d4dae459a119348624e65405"), looks := true }, kinds := [], alts := [], laidByText := true, laidKinds := [.handle], laidTests := true, laidLooks := .later }
def PageSameCardSaid : Prop := Claim7.holds Tryd.pinned (.plain (OpenSpec.ofChange pageSameSpec)) pageSameCard

/-- THE SECOND FORM's CARD OF 'rowlocklaw04.ArenaPlays'. -/
def arenaPlaysUptoCard : Claim7 := { stood := { row := arenaPlaysUptoRow, standIns := [], harness := (true, "85b3fcf3b9b80e64e2a47cc7e43d5576eeaf9d64d4dae459a119348624e65405"), looks := true }, kinds := [], alts := [], laidByText := true, laidKinds := [.handle], laidTests := true, laidLooks := .later }
def ArenaPlaysUptoCardSaid : Prop := Claim7.holds Tryd.pinned (.plain (OpenSpec.upto arenaPlaysSpec)) arenaPlaysUptoCard

/-- THE SECOND FORM's CARD OF 'rowlocklaw04.ArenaCopies'. -/
def arenaCopiesUptoCard : Claim7 := { stood := { row := arenaCopiesUptoRow, standIns := [], harness := (true, "85b3fcf3b9b80e64e2a47cc7e43d5576eeaf9d64d4dae459a119348624e65405"), looks := true }, kinds := [], alts := [], laidByText := true, laidKinds := [.handle], laidTests := true, laidLooks := .later }
def ArenaCopiesUptoCardSaid : Prop := Claim7.holds Tryd.pinned (.plain (OpenSpec.upto arenaCopiesSpec)) arenaCopiesUptoCard

/-- THE SECOND FORM's CARD OF 'rowlocklaw08.InnerAsks'. -/
def innerAsksUptoCard : Claim7 := { stood := { row := innerAsksUptoRow, standIns := [], harness := (true, "85b3fcf3b9b80e64e2a47cc7e43d5576eeaf9d64d4dae459a119348624e65405"), looks := true }, kinds := [], alts := [], laidByText := true, laidKinds := [.handle], laidTests := true, laidLooks := .later }
def InnerAsksUptoCardSaid : Prop := Claim7.holds Tryd.pinned (.plain (OpenSpec.upto innerAsksSpec)) innerAsksUptoCard

/-- THE SECOND FORM's CARD OF 'rowlocklaw08.InnerBuilds'. -/
def innerBuildsUptoCard : Claim7 := { stood := { row := innerBuildsUptoRow, standIns := [], harness := (true, "85b3fcf3b9b80e64e2a47cc7e43d5576eeaf9d64d4dae459a119348624e65405"), looks := true }, kinds := [], alts := [], laidByText := true, laidKinds := [.handle], laidTests := true, laidLooks := .later }
def InnerBuildsUptoCardSaid : Prop := Claim7.holds Tryd.pinned (.plain (OpenSpec.upto innerBuildsSpec)) innerBuildsUptoCard

/-- THE SECOND FORM's CARD OF 'rowlocklaw09.MemChains'. -/
def memChainsUptoCard : Claim7 := { stood := { row := memChainsUptoRow, standIns := [], harness := (true, "85b3fcf3b9b80e64e2a47cc7e43d5576eeaf9d64d4dae459a119348624e65405"), looks := true }, kinds := [], alts := [], laidByText := true, laidKinds := [.handle], laidTests := true, laidLooks := .later }
def MemChainsUptoCardSaid : Prop := Claim7.holds Tryd.pinned (.plain (OpenSpec.upto memChainsSpec)) memChainsUptoCard

/-- THE SECOND FORM's CARD OF 'rowlocklaw10.PageSame'. -/
def pageSameUptoCard : Claim7 := { stood := { row := pageSameUptoRow, standIns := [], harness := (true, "85b3fcf3b9b80e64e2a47cc7e43d5576eeaf9d64d4dae459a119348624e65405"), looks := true }, kinds := [], alts := [], laidByText := true, laidKinds := [.handle], laidTests := true, laidLooks := .later }
def PageSameUptoCardSaid : Prop := Claim7.holds Tryd.pinned (.plain (OpenSpec.upto pageSameSpec)) pageSameUptoCard
end Rows
end Go.Proofs.YtfoljojacakkeaaDoor

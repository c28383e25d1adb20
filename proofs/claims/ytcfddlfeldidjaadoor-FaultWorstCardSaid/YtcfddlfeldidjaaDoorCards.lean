/-
  DERIVED. GIVEN WITH THE SEED: THE CARDS: each row of YtcfddlfeldidjaaDoorRows.lean that lists a variable, with what it lists TIED to the program's text (the seventh form; the later family's looks); each row that meets fmt, with fmt's text TOLD by the authors' own Lean function (tested against real Go, not proved from fmt's source: count such statements apart). THE CARD IS WHAT COUNTS. Prove the row's statement (the work); the ties are given (YtcfddlfeldidjaaDoorTie.lean); close each card by the builder's one call (the guide's Derived/Test/ToyasCard.lean, 'card_holds'). Laid BY PROGRAM, IN A SANDBOX (cutbox-door.mjs). By AI agents, Wed Nov 11 2026. No macro, syntax, notation, axiom, sorry.
-/
import Derived.Test.YtcfddlfeldidjaaDoorRows
import GoSem.ClaimSeven
namespace Go.Proofs.YtcfddlfeldidjaaDoor
namespace Rows

/-- THE TIED CARD OF 'rowlocklaw01.FaultWeights'. -/
def faultWeightsCard : Claim7 := { stood := { row := faultWeightsRow, standIns := [], harness := (true, "c5917720f2542a2883059bf03a7293449165e0390a847baf70968ba544fb8882"), looks := true }, kinds := [], alts := [], laidByText := true, laidKinds := [.handle], laidTests := true, laidLooks := .later }
def FaultWeightsCardSaid : Prop := Claim7.holds Tryd.pinned (.plain (OpenSpec.ofChange faultWeightsSpec)) faultWeightsCard

/-- THE TIED CARD OF 'rowlocklaw01.FaultWorst'. -/
def faultWorstCard : Claim7 := { stood := { row := faultWorstRow, standIns := [], harness := (true, "c5917720f2542a2883059bf03a7293449165e0390a847baf70968ba544fb8882"), looks := true }, kinds := [], alts := [], laidByText := true, laidKinds := [.handle], laidTests := true, laidLooks := .later }
def FaultWorstCardSaid : Prop := Claim7.holds Tryd.pinned (.plain (OpenSpec.ofChange faultWorstSpec)) faultWorstCard

/-- THE TIED CARD OF 'rowlocklaw01.FaultOthers'. -/
def faultOthersCard : Claim7 := { stood := { row := faultOthersRow, standIns := [], harness := (true, "c5917720f2542a2883059bf03a7293449165e0390a847baf70968ba544fb8882"), looks := true }, kinds := [], alts := [], laidByText := true, laidKinds := [.handle], laidTests := true, laidLooks := .later }
def FaultOthersCardSaid : Prop := Claim7.holds Tryd.pinned (.plain (OpenSpec.ofChange faultOthersSpec)) faultOthersCard

/-- THE TIED CARD OF 'rowlocklaw01.FaultJoins'. -/
def faultJoinsCard : Claim7 := { stood := { row := faultJoinsRow, standIns := [], harness := (true, "c5917720f2542a2883059bf03a7293449165e0390a847baf70968ba544fb8882"), looks := true }, kinds := [], alts := [], laidByText := true, laidKinds := [.handle], laidTests := true, laidLooks := .later }
def FaultJoinsCardSaid : Prop := Claim7.holds Tryd.pinned (.plain (OpenSpec.ofChange faultJoinsSpec)) faultJoinsCard

/-- THE SECOND FORM's CARD OF 'rowlocklaw01.FaultWeights'. -/
def faultWeightsUptoCard : Claim7 := { stood := { row := faultWeightsUptoRow, standIns := [], harness := (true, "c5917720f2542a2883059bf03a7293449165e0390a847baf70968ba544fb8882"), looks := true }, kinds := [], alts := [], laidByText := true, laidKinds := [.handle], laidTests := true, laidLooks := .later }
def FaultWeightsUptoCardSaid : Prop := Claim7.holds Tryd.pinned (.plain (OpenSpec.upto faultWeightsSpec)) faultWeightsUptoCard

/-- THE SECOND FORM's CARD OF 'rowlocklaw01.FaultWorst'. -/
def faultWorstUptoCard : Claim7 := { stood := { row := faultWorstUptoRow, standIns := [], harness := (true, "c5917720f2542a2883059bf03a7293449165e0390a847baf70968ba544fb8882"), looks := true }, kinds := [], alts := [], laidByText := true, laidKinds := [.handle], laidTests := true, laidLooks := .later }
def FaultWorstUptoCardSaid : Prop := Claim7.holds Tryd.pinned (.plain (OpenSpec.upto faultWorstSpec)) faultWorstUptoCard

/-- THE SECOND FORM's CARD OF 'rowlocklaw01.FaultOthers'. -/
def faultOthersUptoCard : Claim7 := { stood := { row := faultOthersUptoRow, standIns := [], harness := (true, "c5917720f2542a2883059bf03a7293449165e0390a847baf70968ba544fb8882"), looks := true }, kinds := [], alts := [], laidByText := true, laidKinds := [.handle], laidTests := true, laidLooks := .later }
def FaultOthersUptoCardSaid : Prop := Claim7.holds Tryd.pinned (.plain (OpenSpec.upto faultOthersSpec)) faultOthersUptoCard

/-- THE SECOND FORM's CARD OF 'rowlocklaw01.FaultJoins'. -/
def faultJoinsUptoCard : Claim7 := { stood := { row := faultJoinsUptoRow, standIns := [], harness := (true, "c5917720f2542a2883059bf03a7293449165e0390a847baf70968ba544fb8882"), looks := true }, kinds := [], alts := [], laidByText := true, laidKinds := [.handle], laidTests := true, laidLooks := .later }
def FaultJoinsUptoCardSaid : Prop := Claim7.holds Tryd.pinned (.plain (OpenSpec.upto faultJoinsSpec)) faultJoinsUptoCard
end Rows
end Go.Proofs.YtcfddlfeldidjaaDoor

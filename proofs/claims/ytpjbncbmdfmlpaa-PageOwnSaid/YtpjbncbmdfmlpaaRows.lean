/-
  No cell of these rows narrows 'for every input' (looked for: loops, veiled, ifaces, maps, wideKeys, modest, calm, conditions, laid).
  DERIVED. THE GIVEN ROWS OF THIS SEAT. 9 by the template 'for every input the law returns true; each argument reads behind the call as it read before'; 0 by the template 'total and deterministic' (their statements: YtpjbncbmdfmlpaaTotals.lean).
  GIVEN WITH THE SEED: the statements are not yours to turn. If you find one false, say at which input.
  Laid BY PROGRAM, IN A SANDBOX (cutbox-rows.mjs): the forced cells as the released guide's own fill.sh prints them over the translation 132d27fcd9ef52b0… (all of the seat's roots in one cut). By AI agents, Wed Nov 11 2026. No macro, syntax, notation, axiom, sorry.
-/
import Derived.Test.YtpjbncbmdfmlpaaChecked
import GoSem.Claim
import GoSem.ClaimJoined
import GoSem.ClaimMapViews
import Derived.JoinedTies
import Derived.KernelRfl
namespace Go.Proofs.Ytpjbncbmdfmlpaa
/- THE CELL 'sum', in the pinned program and in every row, IS THE sha256 OF THE DUMP (.gsa) THAT YtpjbncbmdfmlpaaProg.lean LOADS. Nothing in Lean hashes anything: it is a label: what it is worth is what the hold of that sum in a sandbox is worth. -/
noncomputable def Try.pinned : Pinned := { name := "ytpjbncbmdfmlpaa", sum := "132d27fcd9ef52b0c1104ebe3ec8249e2a92acb3b1a2cccb5bad8054f6f7be81", checked := Try.checked }
namespace Rows
def none {H : Type} : Left H := { results := [], args := [] }

/-- 'rowlocklaw10.PageErrors': WHATEVER THE INPUT: true; the input reads as it did. -/
def pageErrorsSpec : ChangeSpec := { name := "pageErrors", fn := fun _ => fun
  | [d] => { results := [.lit (.bool true)], args := [d] }
  | _ => none }
def pageErrorsRow : OpenClaim := { program := "ytpjbncbmdfmlpaa", sum := "132d27fcd9ef52b0c1104ebe3ec8249e2a92acb3b1a2cccb5bad8054f6f7be81", func := "rowlock/rowlocklaw10.PageErrors", spec := "pageErrors", inPlace := ["internal/reflectlite.TypeOf"], unfollowed := true, recurses := true, apart := false }
def PageErrorsSaid : Prop := pageErrorsRow.holds Try.pinned (OpenSpec.ofChange pageErrorsSpec)

/-- ITS FALSE NEIGHBOUR: 'it returns false'. Refute it at one input. -/
def pageErrorsWrong : ChangeSpec := { name := "pageErrors", fn := fun _ => fun
  | [d] => { results := [.lit (.bool false)], args := [d] }
  | _ => none }
def PageErrorsWrongFalsely : Prop := pageErrorsRow.holds Try.pinned (OpenSpec.ofChange pageErrorsWrong)

/-- 'rowlocklaw10.PageOwn': WHATEVER THE INPUT: true; the input reads as it did. -/
def pageOwnSpec : ChangeSpec := { name := "pageOwn", fn := fun _ => fun
  | [d] => { results := [.lit (.bool true)], args := [d] }
  | _ => none }
def pageOwnRow : OpenClaim := { program := "ytpjbncbmdfmlpaa", sum := "132d27fcd9ef52b0c1104ebe3ec8249e2a92acb3b1a2cccb5bad8054f6f7be81", func := "rowlock/rowlocklaw10.PageOwn", spec := "pageOwn", unfollowed := true, recurses := true, apart := false }
def PageOwnSaid : Prop := pageOwnRow.holds Try.pinned (OpenSpec.ofChange pageOwnSpec)

/-- ITS FALSE NEIGHBOUR: 'it returns false'. Refute it at one input. -/
def pageOwnWrong : ChangeSpec := { name := "pageOwn", fn := fun _ => fun
  | [d] => { results := [.lit (.bool false)], args := [d] }
  | _ => none }
def PageOwnWrongFalsely : Prop := pageOwnRow.holds Try.pinned (OpenSpec.ofChange pageOwnWrong)

/-- 'rowlocklaw11.PlanNames': WHATEVER THE INPUT: true; the input reads as it did. -/
def planNamesSpec : ChangeSpec := { name := "planNames", fn := fun _ => fun
  | [d] => { results := [.lit (.bool true)], args := [d] }
  | _ => none }
def planNamesRow : OpenClaim := { program := "ytpjbncbmdfmlpaa", sum := "132d27fcd9ef52b0c1104ebe3ec8249e2a92acb3b1a2cccb5bad8054f6f7be81", func := "rowlock/rowlocklaw11.PlanNames", spec := "planNames", unfollowed := true, recurses := true, apart := false }
def PlanNamesSaid : Prop := planNamesRow.holds Try.pinned (OpenSpec.ofChange planNamesSpec)

/-- ITS FALSE NEIGHBOUR: 'it returns false'. Refute it at one input. -/
def planNamesWrong : ChangeSpec := { name := "planNames", fn := fun _ => fun
  | [d] => { results := [.lit (.bool false)], args := [d] }
  | _ => none }
def PlanNamesWrongFalsely : Prop := planNamesRow.holds Try.pinned (OpenSpec.ofChange planNamesWrong)

/-- 'rowlocklaw11.PlanReads': WHATEVER THE INPUT: true; the input reads as it did. -/
def planReadsSpec : ChangeSpec := { name := "planReads", fn := fun _ => fun
  | [d] => { results := [.lit (.bool true)], args := [d] }
  | _ => none }
def planReadsRow : OpenClaim := { program := "ytpjbncbmdfmlpaa", sum := "132d27fcd9ef52b0c1104ebe3ec8249e2a92acb3b1a2cccb5bad8054f6f7be81", func := "rowlock/rowlocklaw11.PlanReads", spec := "planReads", unfollowed := true, recurses := true, apart := false }
def PlanReadsSaid : Prop := planReadsRow.holds Try.pinned (OpenSpec.ofChange planReadsSpec)

/-- ITS FALSE NEIGHBOUR: 'it returns false'. Refute it at one input. -/
def planReadsWrong : ChangeSpec := { name := "planReads", fn := fun _ => fun
  | [d] => { results := [.lit (.bool false)], args := [d] }
  | _ => none }
def PlanReadsWrongFalsely : Prop := planReadsRow.holds Try.pinned (OpenSpec.ofChange planReadsWrong)

/-- 'rowlocklaw11.PlanCalm': WHATEVER THE INPUT: true; the input reads as it did. -/
def planCalmSpec : ChangeSpec := { name := "planCalm", fn := fun _ => fun
  | [d] => { results := [.lit (.bool true)], args := [d] }
  | _ => none }
def planCalmRow : OpenClaim := { program := "ytpjbncbmdfmlpaa", sum := "132d27fcd9ef52b0c1104ebe3ec8249e2a92acb3b1a2cccb5bad8054f6f7be81", func := "rowlock/rowlocklaw11.PlanCalm", spec := "planCalm", unfollowed := true, recurses := true, apart := false }
def PlanCalmSaid : Prop := planCalmRow.holds Try.pinned (OpenSpec.ofChange planCalmSpec)

/-- ITS FALSE NEIGHBOUR: 'it returns false'. Refute it at one input. -/
def planCalmWrong : ChangeSpec := { name := "planCalm", fn := fun _ => fun
  | [d] => { results := [.lit (.bool false)], args := [d] }
  | _ => none }
def PlanCalmWrongFalsely : Prop := planCalmRow.holds Try.pinned (OpenSpec.ofChange planCalmWrong)

/-- 'rowlocklaw11.PlanPlaces': WHATEVER THE INPUT: true; the input reads as it did. -/
def planPlacesSpec : ChangeSpec := { name := "planPlaces", fn := fun _ => fun
  | [d] => { results := [.lit (.bool true)], args := [d] }
  | _ => none }
def planPlacesRow : OpenClaim := { program := "ytpjbncbmdfmlpaa", sum := "132d27fcd9ef52b0c1104ebe3ec8249e2a92acb3b1a2cccb5bad8054f6f7be81", func := "rowlock/rowlocklaw11.PlanPlaces", spec := "planPlaces", unfollowed := true, recurses := true, apart := false }
def PlanPlacesSaid : Prop := planPlacesRow.holds Try.pinned (OpenSpec.ofChange planPlacesSpec)

/-- ITS FALSE NEIGHBOUR: 'it returns false'. Refute it at one input. -/
def planPlacesWrong : ChangeSpec := { name := "planPlaces", fn := fun _ => fun
  | [d] => { results := [.lit (.bool false)], args := [d] }
  | _ => none }
def PlanPlacesWrongFalsely : Prop := planPlacesRow.holds Try.pinned (OpenSpec.ofChange planPlacesWrong)

/-- 'rowlocklaw11.PlanLast': WHATEVER THE INPUT: true; the input reads as it did. -/
def planLastSpec : ChangeSpec := { name := "planLast", fn := fun _ => fun
  | [d] => { results := [.lit (.bool true)], args := [d] }
  | _ => none }
def planLastRow : OpenClaim := { program := "ytpjbncbmdfmlpaa", sum := "132d27fcd9ef52b0c1104ebe3ec8249e2a92acb3b1a2cccb5bad8054f6f7be81", func := "rowlock/rowlocklaw11.PlanLast", spec := "planLast", unfollowed := true, recurses := true, apart := false }
def PlanLastSaid : Prop := planLastRow.holds Try.pinned (OpenSpec.ofChange planLastSpec)

/-- ITS FALSE NEIGHBOUR: 'it returns false'. Refute it at one input. -/
def planLastWrong : ChangeSpec := { name := "planLast", fn := fun _ => fun
  | [d] => { results := [.lit (.bool false)], args := [d] }
  | _ => none }
def PlanLastWrongFalsely : Prop := planLastRow.holds Try.pinned (OpenSpec.ofChange planLastWrong)

/-- 'rowlocklaw11.PlanDecides': WHATEVER THE INPUT: true; the input reads as it did. -/
def planDecidesSpec : ChangeSpec := { name := "planDecides", fn := fun _ => fun
  | [d] => { results := [.lit (.bool true)], args := [d] }
  | _ => none }
def planDecidesRow : OpenClaim := { program := "ytpjbncbmdfmlpaa", sum := "132d27fcd9ef52b0c1104ebe3ec8249e2a92acb3b1a2cccb5bad8054f6f7be81", func := "rowlock/rowlocklaw11.PlanDecides", spec := "planDecides", unfollowed := true, recurses := true, apart := false }
def PlanDecidesSaid : Prop := planDecidesRow.holds Try.pinned (OpenSpec.ofChange planDecidesSpec)

/-- ITS FALSE NEIGHBOUR: 'it returns false'. Refute it at one input. -/
def planDecidesWrong : ChangeSpec := { name := "planDecides", fn := fun _ => fun
  | [d] => { results := [.lit (.bool false)], args := [d] }
  | _ => none }
def PlanDecidesWrongFalsely : Prop := planDecidesRow.holds Try.pinned (OpenSpec.ofChange planDecidesWrong)

/-- 'rowlocklaw11.PlanBacks': WHATEVER THE INPUT: true; the input reads as it did. -/
def planBacksSpec : ChangeSpec := { name := "planBacks", fn := fun _ => fun
  | [d1, d2] => { results := [.lit (.bool true)], args := [d1, d2] }
  | _ => none }
def planBacksRow : OpenClaim := { program := "ytpjbncbmdfmlpaa", sum := "132d27fcd9ef52b0c1104ebe3ec8249e2a92acb3b1a2cccb5bad8054f6f7be81", func := "rowlock/rowlocklaw11.PlanBacks", spec := "planBacks", unfollowed := true, recurses := true, apart := false }
def PlanBacksSaid : Prop := planBacksRow.holds Try.pinned (OpenSpec.ofChange planBacksSpec)

/-- ITS FALSE NEIGHBOUR: 'it returns false'. Refute it at one input. -/
def planBacksWrong : ChangeSpec := { name := "planBacks", fn := fun _ => fun
  | [d1, d2] => { results := [.lit (.bool false)], args := [d1, d2] }
  | _ => none }
def PlanBacksWrongFalsely : Prop := planBacksRow.holds Try.pinned (OpenSpec.ofChange planBacksWrong)

/- THE SECOND FORM. 'bulk': how many values and letters a reading holds, each counted each time it is reached (what is shared counts as often as it is met; a slice's spare places count too). A statement '..UptoSaid' is the law's where the arguments, and the package variables that the reading takes, are together of bulk at most 1048576: NARROWER than '..Said'. Prove '..Said' where nothing that the law and all that it calls make is longer than what came in: it says more and counts as full. Else prove '..UptoSaid'. A law counts once. -/
mutual
def uptoBulk {H : Type} : DataW H → Nat
  | .lit (.string bytes) => bytes.length + 1
  | .lit _ => 1
  | .nil => 1
  | .ptr d => uptoBulk d + 1
  | .slice elems spare => uptoBulkAll elems + uptoBulkAll spare + 1
  | .agg parts => uptoBulkAll parts + 1
  | .iface _ d => uptoBulk d + 1
  | .map entries => uptoBulkEntries entries + 1
  | .held _ => 1
def uptoBulkAll {H : Type} : List (DataW H) → Nat
  | [] => 0
  | d :: r => uptoBulk d + uptoBulkAll r
def uptoBulkEntries {H : Type} : List (Lit × DataW H) → Nat
  | [] => 0
  | x :: r => uptoBulkEntry x + uptoBulkEntries r
def uptoBulkEntry {H : Type} : Lit × DataW H → Nat
  | (.string bytes, d) => bytes.length + uptoBulk d + 1
  | (_, d) => uptoBulk d + 1
 end
def uptoSmall : (H : Type) → List (DataW H) → Bool := fun _ ds => decide (uptoBulkAll ds ≤ 1048576)
def OpenSpec.upto (s : _root_.Go.ChangeSpec) : _root_.Go.OpenSpec := { _root_.Go.OpenSpec.ofChange s with cond := some uptoSmall }

/-- 'rowlocklaw10.PageErrors', WHERE WHAT IT READS IS OF BULK AT MOST 1048576: true; the input reads as it did. -/
def pageErrorsUptoRow : OpenClaim := { program := "ytpjbncbmdfmlpaa", sum := "132d27fcd9ef52b0c1104ebe3ec8249e2a92acb3b1a2cccb5bad8054f6f7be81", func := "rowlock/rowlocklaw10.PageErrors", spec := "pageErrors", inPlace := ["internal/reflectlite.TypeOf"], unfollowed := true, recurses := true, apart := false, narrowed := true }
def PageErrorsUptoSaid : Prop := pageErrorsUptoRow.holds Try.pinned (OpenSpec.upto pageErrorsSpec)

/-- 'rowlocklaw10.PageOwn', WHERE WHAT IT READS IS OF BULK AT MOST 1048576: true; the input reads as it did. -/
def pageOwnUptoRow : OpenClaim := { program := "ytpjbncbmdfmlpaa", sum := "132d27fcd9ef52b0c1104ebe3ec8249e2a92acb3b1a2cccb5bad8054f6f7be81", func := "rowlock/rowlocklaw10.PageOwn", spec := "pageOwn", unfollowed := true, recurses := true, apart := false, narrowed := true }
def PageOwnUptoSaid : Prop := pageOwnUptoRow.holds Try.pinned (OpenSpec.upto pageOwnSpec)

/-- 'rowlocklaw11.PlanNames', WHERE WHAT IT READS IS OF BULK AT MOST 1048576: true; the input reads as it did. -/
def planNamesUptoRow : OpenClaim := { program := "ytpjbncbmdfmlpaa", sum := "132d27fcd9ef52b0c1104ebe3ec8249e2a92acb3b1a2cccb5bad8054f6f7be81", func := "rowlock/rowlocklaw11.PlanNames", spec := "planNames", unfollowed := true, recurses := true, apart := false, narrowed := true }
def PlanNamesUptoSaid : Prop := planNamesUptoRow.holds Try.pinned (OpenSpec.upto planNamesSpec)

/-- 'rowlocklaw11.PlanReads', WHERE WHAT IT READS IS OF BULK AT MOST 1048576: true; the input reads as it did. -/
def planReadsUptoRow : OpenClaim := { program := "ytpjbncbmdfmlpaa", sum := "132d27fcd9ef52b0c1104ebe3ec8249e2a92acb3b1a2cccb5bad8054f6f7be81", func := "rowlock/rowlocklaw11.PlanReads", spec := "planReads", unfollowed := true, recurses := true, apart := false, narrowed := true }
def PlanReadsUptoSaid : Prop := planReadsUptoRow.holds Try.pinned (OpenSpec.upto planReadsSpec)

/-- 'rowlocklaw11.PlanCalm', WHERE WHAT IT READS IS OF BULK AT MOST 1048576: true; the input reads as it did. -/
def planCalmUptoRow : OpenClaim := { program := "ytpjbncbmdfmlpaa", sum := "132d27fcd9ef52b0c1104ebe3ec8249e2a92acb3b1a2cccb5bad8054f6f7be81", func := "rowlock/rowlocklaw11.PlanCalm", spec := "planCalm", unfollowed := true, recurses := true, apart := false, narrowed := true }
def PlanCalmUptoSaid : Prop := planCalmUptoRow.holds Try.pinned (OpenSpec.upto planCalmSpec)

/-- 'rowlocklaw11.PlanPlaces', WHERE WHAT IT READS IS OF BULK AT MOST 1048576: true; the input reads as it did. -/
def planPlacesUptoRow : OpenClaim := { program := "ytpjbncbmdfmlpaa", sum := "132d27fcd9ef52b0c1104ebe3ec8249e2a92acb3b1a2cccb5bad8054f6f7be81", func := "rowlock/rowlocklaw11.PlanPlaces", spec := "planPlaces", unfollowed := true, recurses := true, apart := false, narrowed := true }
def PlanPlacesUptoSaid : Prop := planPlacesUptoRow.holds Try.pinned (OpenSpec.upto planPlacesSpec)

/-- 'rowlocklaw11.PlanLast', WHERE WHAT IT READS IS OF BULK AT MOST 1048576: true; the input reads as it did. -/
def planLastUptoRow : OpenClaim := { program := "ytpjbncbmdfmlpaa", sum := "132d27fcd9ef52b0c1104ebe3ec8249e2a92acb3b1a2cccb5bad8054f6f7be81", func := "rowlock/rowlocklaw11.PlanLast", spec := "planLast", unfollowed := true, recurses := true, apart := false, narrowed := true }
def PlanLastUptoSaid : Prop := planLastUptoRow.holds Try.pinned (OpenSpec.upto planLastSpec)

/-- 'rowlocklaw11.PlanDecides', WHERE WHAT IT READS IS OF BULK AT MOST 1048576: true; the input reads as it did. -/
def planDecidesUptoRow : OpenClaim := { program := "ytpjbncbmdfmlpaa", sum := "132d27fcd9ef52b0c1104ebe3ec8249e2a92acb3b1a2cccb5bad8054f6f7be81", func := "rowlock/rowlocklaw11.PlanDecides", spec := "planDecides", unfollowed := true, recurses := true, apart := false, narrowed := true }
def PlanDecidesUptoSaid : Prop := planDecidesUptoRow.holds Try.pinned (OpenSpec.upto planDecidesSpec)

/-- 'rowlocklaw11.PlanBacks', WHERE WHAT IT READS IS OF BULK AT MOST 1048576: true; the input reads as it did. -/
def planBacksUptoRow : OpenClaim := { program := "ytpjbncbmdfmlpaa", sum := "132d27fcd9ef52b0c1104ebe3ec8249e2a92acb3b1a2cccb5bad8054f6f7be81", func := "rowlock/rowlocklaw11.PlanBacks", spec := "planBacks", unfollowed := true, recurses := true, apart := false, narrowed := true }
def PlanBacksUptoSaid : Prop := planBacksUptoRow.holds Try.pinned (OpenSpec.upto planBacksSpec)

end Rows
end Go.Proofs.Ytpjbncbmdfmlpaa

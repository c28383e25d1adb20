/-
  No cell of these rows narrows 'for every input' (looked for: loops, veiled, ifaces, maps, wideKeys, modest, calm, conditions, laid).
  DERIVED. THE GIVEN ROWS OF THIS SEAT. 7 by the template 'for every input the law returns true; each argument reads behind the call as it read before'; 0 by the template 'total and deterministic' (their statements: YthpkbppaaagaoaaGreatTotals.lean).
  GIVEN WITH THE SEED: the statements are not yours to turn. If you find one false, say at which input.
  Laid BY PROGRAM, IN A SANDBOX (cutbox-rows.mjs): the forced cells as the released guide's own fill.sh prints them over the translation 06cf5713b2ce3693… (all of the seat's roots in one cut). By AI agents, Wed Nov 11 2026. No macro, syntax, notation, axiom, sorry.
-/
import Derived.Test.YthpkbppaaagaoaaGreatChecked
import GoSem.Claim
import GoSem.ClaimJoined
import GoSem.ClaimMapViews
import Derived.JoinedTies
import Derived.KernelRfl
namespace Go.Proofs.YthpkbppaaagaoaaGreat
/- THE CELL 'sum', in the pinned program and in every row, IS THE sha256 OF THE DUMP (.gsa) THAT YthpkbppaaagaoaaGreatProg.lean LOADS. Nothing in Lean hashes anything: it is a label: what it is worth is what the hold of that sum in a sandbox is worth. -/
noncomputable def Tryz.pinned : Pinned := { name := "ythpkbppaaagaoaagreat", sum := "06cf5713b2ce36931592e1734953b3eeab8f7e1acfec6ef4dc1d4306758a6969", checked := Tryz.checked }
namespace Rows
def none {H : Type} : Left H := { results := [], args := [] }

/-- 'rowlocklaw13.MergeOthers': WHATEVER THE INPUT: true; the input reads as it did. -/
def mergeOthersSpec : ChangeSpec := { name := "mergeOthers", fn := fun _ => fun
  | [d1, d2, d3, d4, d5] => { results := [.lit (.bool true)], args := [d1, d2, d3, d4, d5] }
  | _ => none }
def mergeOthersRow : OpenClaim := { program := "ythpkbppaaagaoaagreat", sum := "06cf5713b2ce36931592e1734953b3eeab8f7e1acfec6ef4dc1d4306758a6969", func := "rowlock/rowlocklaw13.MergeOthers", spec := "mergeOthers", unfollowed := true, recurses := true, apart := false }
def MergeOthersSaid : Prop := mergeOthersRow.holds Tryz.pinned (OpenSpec.ofChange mergeOthersSpec)

/-- ITS FALSE NEIGHBOUR: 'it returns false'. Refute it at one input. -/
def mergeOthersWrong : ChangeSpec := { name := "mergeOthers", fn := fun _ => fun
  | [d1, d2, d3, d4, d5] => { results := [.lit (.bool false)], args := [d1, d2, d3, d4, d5] }
  | _ => none }
def MergeOthersWrongFalsely : Prop := mergeOthersRow.holds Tryz.pinned (OpenSpec.ofChange mergeOthersWrong)

/-- 'rowlocklaw13.MergeBroken': WHATEVER THE INPUT: true; the input reads as it did. -/
def mergeBrokenSpec : ChangeSpec := { name := "mergeBroken", fn := fun _ => fun
  | [d1, d2, d3, d4] => { results := [.lit (.bool true)], args := [d1, d2, d3, d4] }
  | _ => none }
def mergeBrokenRow : OpenClaim := { program := "ythpkbppaaagaoaagreat", sum := "06cf5713b2ce36931592e1734953b3eeab8f7e1acfec6ef4dc1d4306758a6969", func := "rowlock/rowlocklaw13.MergeBroken", spec := "mergeBroken", unfollowed := true, recurses := true, apart := false }
def MergeBrokenSaid : Prop := mergeBrokenRow.holds Tryz.pinned (OpenSpec.ofChange mergeBrokenSpec)

/-- ITS FALSE NEIGHBOUR: 'it returns false'. Refute it at one input. -/
def mergeBrokenWrong : ChangeSpec := { name := "mergeBroken", fn := fun _ => fun
  | [d1, d2, d3, d4] => { results := [.lit (.bool false)], args := [d1, d2, d3, d4] }
  | _ => none }
def MergeBrokenWrongFalsely : Prop := mergeBrokenRow.holds Tryz.pinned (OpenSpec.ofChange mergeBrokenWrong)

/-- 'rowlocklaw13.MergeLate': WHATEVER THE INPUT: true; the input reads as it did. -/
def mergeLateSpec : ChangeSpec := { name := "mergeLate", fn := fun _ => fun
  | [d1, d2, d3, d4] => { results := [.lit (.bool true)], args := [d1, d2, d3, d4] }
  | _ => none }
def mergeLateRow : OpenClaim := { program := "ythpkbppaaagaoaagreat", sum := "06cf5713b2ce36931592e1734953b3eeab8f7e1acfec6ef4dc1d4306758a6969", func := "rowlock/rowlocklaw13.MergeLate", spec := "mergeLate", unfollowed := true, recurses := true, apart := false }
def MergeLateSaid : Prop := mergeLateRow.holds Tryz.pinned (OpenSpec.ofChange mergeLateSpec)

/-- ITS FALSE NEIGHBOUR: 'it returns false'. Refute it at one input. -/
def mergeLateWrong : ChangeSpec := { name := "mergeLate", fn := fun _ => fun
  | [d1, d2, d3, d4] => { results := [.lit (.bool false)], args := [d1, d2, d3, d4] }
  | _ => none }
def MergeLateWrongFalsely : Prop := mergeLateRow.holds Tryz.pinned (OpenSpec.ofChange mergeLateWrong)

/-- 'rowlocklaw13.MergeMany': WHATEVER THE INPUT: true; the input reads as it did. -/
def mergeManySpec : ChangeSpec := { name := "mergeMany", fn := fun _ => fun
  | [d1, d2, d3, d4, d5] => { results := [.lit (.bool true)], args := [d1, d2, d3, d4, d5] }
  | _ => none }
def mergeManyRow : OpenClaim := { program := "ythpkbppaaagaoaagreat", sum := "06cf5713b2ce36931592e1734953b3eeab8f7e1acfec6ef4dc1d4306758a6969", func := "rowlock/rowlocklaw13.MergeMany", spec := "mergeMany", unfollowed := true, recurses := true, apart := false }
def MergeManySaid : Prop := mergeManyRow.holds Tryz.pinned (OpenSpec.ofChange mergeManySpec)

/-- ITS FALSE NEIGHBOUR: 'it returns false'. Refute it at one input. -/
def mergeManyWrong : ChangeSpec := { name := "mergeMany", fn := fun _ => fun
  | [d1, d2, d3, d4, d5] => { results := [.lit (.bool false)], args := [d1, d2, d3, d4, d5] }
  | _ => none }
def MergeManyWrongFalsely : Prop := mergeManyRow.holds Tryz.pinned (OpenSpec.ofChange mergeManyWrong)

/-- 'rowlocklaw13.MergeSlots': WHATEVER THE INPUT: true; the input reads as it did. -/
def mergeSlotsSpec : ChangeSpec := { name := "mergeSlots", fn := fun _ => fun
  | [d1, d2, d3] => { results := [.lit (.bool true)], args := [d1, d2, d3] }
  | _ => none }
def mergeSlotsRow : OpenClaim := { program := "ythpkbppaaagaoaagreat", sum := "06cf5713b2ce36931592e1734953b3eeab8f7e1acfec6ef4dc1d4306758a6969", func := "rowlock/rowlocklaw13.MergeSlots", spec := "mergeSlots", unfollowed := true, recurses := true, apart := false }
def MergeSlotsSaid : Prop := mergeSlotsRow.holds Tryz.pinned (OpenSpec.ofChange mergeSlotsSpec)

/-- ITS FALSE NEIGHBOUR: 'it returns false'. Refute it at one input. -/
def mergeSlotsWrong : ChangeSpec := { name := "mergeSlots", fn := fun _ => fun
  | [d1, d2, d3] => { results := [.lit (.bool false)], args := [d1, d2, d3] }
  | _ => none }
def MergeSlotsWrongFalsely : Prop := mergeSlotsRow.holds Tryz.pinned (OpenSpec.ofChange mergeSlotsWrong)

/-- 'rowlocklaw13.MergeErrors': WHATEVER THE INPUT: true; the input reads as it did. -/
def mergeErrorsSpec : ChangeSpec := { name := "mergeErrors", fn := fun _ => fun
  | [d] => { results := [.lit (.bool true)], args := [d] }
  | _ => none }
def mergeErrorsRow : OpenClaim := { program := "ythpkbppaaagaoaagreat", sum := "06cf5713b2ce36931592e1734953b3eeab8f7e1acfec6ef4dc1d4306758a6969", func := "rowlock/rowlocklaw13.MergeErrors", spec := "mergeErrors", inPlace := ["internal/reflectlite.TypeOf"], unfollowed := true, recurses := true, apart := false }
def MergeErrorsSaid : Prop := mergeErrorsRow.holds Tryz.pinned (OpenSpec.ofChange mergeErrorsSpec)

/-- ITS FALSE NEIGHBOUR: 'it returns false'. Refute it at one input. -/
def mergeErrorsWrong : ChangeSpec := { name := "mergeErrors", fn := fun _ => fun
  | [d] => { results := [.lit (.bool false)], args := [d] }
  | _ => none }
def MergeErrorsWrongFalsely : Prop := mergeErrorsRow.holds Tryz.pinned (OpenSpec.ofChange mergeErrorsWrong)

/-- 'rowlocklaw13.MergeAlone': WHATEVER THE INPUT: true; the input reads as it did. -/
def mergeAloneSpec : ChangeSpec := { name := "mergeAlone", fn := fun _ => fun
  | [d1, d2, d3] => { results := [.lit (.bool true)], args := [d1, d2, d3] }
  | _ => none }
def mergeAloneRow : OpenClaim := { program := "ythpkbppaaagaoaagreat", sum := "06cf5713b2ce36931592e1734953b3eeab8f7e1acfec6ef4dc1d4306758a6969", func := "rowlock/rowlocklaw13.MergeAlone", spec := "mergeAlone", inPlace := ["internal/reflectlite.TypeOf"], unfollowed := true, recurses := true, apart := false }
def MergeAloneSaid : Prop := mergeAloneRow.holds Tryz.pinned (OpenSpec.ofChange mergeAloneSpec)

/-- ITS FALSE NEIGHBOUR: 'it returns false'. Refute it at one input. -/
def mergeAloneWrong : ChangeSpec := { name := "mergeAlone", fn := fun _ => fun
  | [d1, d2, d3] => { results := [.lit (.bool false)], args := [d1, d2, d3] }
  | _ => none }
def MergeAloneWrongFalsely : Prop := mergeAloneRow.holds Tryz.pinned (OpenSpec.ofChange mergeAloneWrong)

/- THE SECOND FORM. 'bulk': how many values and letters a reading holds, each counted each time it is reached (what is shared counts as often as it is met; a slice's spare places count too). A statement '..UptoSaid' is the law's where the arguments, and the package variables that the reading takes, are together of bulk at most 1048576: NARROWER than '..Said'. Prove '..Said' where nothing that the law and all that it calls make is longer than what came in: it says more and counts as full. Else prove '..UptoSaid'. A law counts once. -/
mutual
def uptoBulk {H : Type} : DataW H → Nat
  | .lit (.string bytes) => bytes.length + 1
  | .lit _ => 1
  | .nil => 1
  | .ptr d => uptoBulk d + 1
  | .slice elems spare => uptoBulkAll elems + uptoBulkAll spare + 1
  | .agg parts => uptoBulkAll parts + 1
  | .iface _ d => uptoBulk d + 1
  | .map entries => uptoBulkEntries entries + 1
  | .held _ => 1
def uptoBulkAll {H : Type} : List (DataW H) → Nat
  | [] => 0
  | d :: r => uptoBulk d + uptoBulkAll r
def uptoBulkEntries {H : Type} : List (Lit × DataW H) → Nat
  | [] => 0
  | x :: r => uptoBulkEntry x + uptoBulkEntries r
def uptoBulkEntry {H : Type} : Lit × DataW H → Nat
  | (.string bytes, d) => bytes.length + uptoBulk d + 1
  | (_, d) => uptoBulk d + 1
 end
def uptoSmall : (H : Type) → List (DataW H) → Bool := fun _ ds => decide (uptoBulkAll ds ≤ 1048576)
def OpenSpec.upto (s : _root_.Go.ChangeSpec) : _root_.Go.OpenSpec := { _root_.Go.OpenSpec.ofChange s with cond := some uptoSmall }

/-- 'rowlocklaw13.MergeOthers', WHERE WHAT IT READS IS OF BULK AT MOST 1048576: true; the input reads as it did. -/
def mergeOthersUptoRow : OpenClaim := { program := "ythpkbppaaagaoaagreat", sum := "06cf5713b2ce36931592e1734953b3eeab8f7e1acfec6ef4dc1d4306758a6969", func := "rowlock/rowlocklaw13.MergeOthers", spec := "mergeOthers", unfollowed := true, recurses := true, apart := false, narrowed := true }
def MergeOthersUptoSaid : Prop := mergeOthersUptoRow.holds Tryz.pinned (OpenSpec.upto mergeOthersSpec)

/-- 'rowlocklaw13.MergeBroken', WHERE WHAT IT READS IS OF BULK AT MOST 1048576: true; the input reads as it did. -/
def mergeBrokenUptoRow : OpenClaim := { program := "ythpkbppaaagaoaagreat", sum := "06cf5713b2ce36931592e1734953b3eeab8f7e1acfec6ef4dc1d4306758a6969", func := "rowlock/rowlocklaw13.MergeBroken", spec := "mergeBroken", unfollowed := true, recurses := true, apart := false, narrowed := true }
def MergeBrokenUptoSaid : Prop := mergeBrokenUptoRow.holds Tryz.pinned (OpenSpec.upto mergeBrokenSpec)

/-- 'rowlocklaw13.MergeLate', WHERE WHAT IT READS IS OF BULK AT MOST 1048576: true; the input reads as it did. -/
def mergeLateUptoRow : OpenClaim := { program := "ythpkbppaaagaoaagreat", sum := "06cf5713b2ce36931592e1734953b3eeab8f7e1acfec6ef4dc1d4306758a6969", func := "rowlock/rowlocklaw13.MergeLate", spec := "mergeLate", unfollowed := true, recurses := true, apart := false, narrowed := true }
def MergeLateUptoSaid : Prop := mergeLateUptoRow.holds Tryz.pinned (OpenSpec.upto mergeLateSpec)

/-- 'rowlocklaw13.MergeMany', WHERE WHAT IT READS IS OF BULK AT MOST 1048576: true; the input reads as it did. -/
def mergeManyUptoRow : OpenClaim := { program := "ythpkbppaaagaoaagreat", sum := "06cf5713b2ce36931592e1734953b3eeab8f7e1acfec6ef4dc1d4306758a6969", func := "rowlock/rowlocklaw13.MergeMany", spec := "mergeMany", unfollowed := true, recurses := true, apart := false, narrowed := true }
def MergeManyUptoSaid : Prop := mergeManyUptoRow.holds Tryz.pinned (OpenSpec.upto mergeManySpec)

/-- 'rowlocklaw13.MergeSlots', WHERE WHAT IT READS IS OF BULK AT MOST 1048576: true; the input reads as it did. -/
def mergeSlotsUptoRow : OpenClaim := { program := "ythpkbppaaagaoaagreat", sum := "06cf5713b2ce36931592e1734953b3eeab8f7e1acfec6ef4dc1d4306758a6969", func := "rowlock/rowlocklaw13.MergeSlots", spec := "mergeSlots", unfollowed := true, recurses := true, apart := false, narrowed := true }
def MergeSlotsUptoSaid : Prop := mergeSlotsUptoRow.holds Tryz.pinned (OpenSpec.upto mergeSlotsSpec)

/-- 'rowlocklaw13.MergeErrors', WHERE WHAT IT READS IS OF BULK AT MOST 1048576: true; the input reads as it did. -/
def mergeErrorsUptoRow : OpenClaim := { program := "ythpkbppaaagaoaagreat", sum := "06cf5713b2ce36931592e1734953b3eeab8f7e1acfec6ef4dc1d4306758a6969", func := "rowlock/rowlocklaw13.MergeErrors", spec := "mergeErrors", inPlace := ["internal/reflectlite.TypeOf"], unfollowed := true, recurses := true, apart := false, narrowed := true }
def MergeErrorsUptoSaid : Prop := mergeErrorsUptoRow.holds Tryz.pinned (OpenSpec.upto mergeErrorsSpec)

/-- 'rowlocklaw13.MergeAlone', WHERE WHAT IT READS IS OF BULK AT MOST 1048576: true; the input reads as it did. -/
def mergeAloneUptoRow : OpenClaim := { program := "ythpkbppaaagaoaagreat", sum := "06cf5713b2ce36931592e1734953b3eeab8f7e1acfec6ef4dc1d4306758a6969", func := "rowlock/rowlocklaw13.MergeAlone", spec := "mergeAlone", inPlace := ["internal/reflectlite.TypeOf"], unfollowed := true, recurses := true, apart := false, narrowed := true }
def MergeAloneUptoSaid : Prop := mergeAloneUptoRow.holds Tryz.pinned (OpenSpec.upto mergeAloneSpec)

end Rows
end Go.Proofs.YthpkbppaaagaoaaGreat

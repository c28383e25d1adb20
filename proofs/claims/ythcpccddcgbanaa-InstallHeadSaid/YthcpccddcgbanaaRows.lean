/-
  No cell of these rows narrows 'for every input' (looked for: loops, veiled, ifaces, maps, wideKeys, modest, calm, conditions, laid).
  DERIVED. THE GIVEN ROWS OF THIS SEAT. 4 by the template 'for every input the law returns true; each argument reads behind the call as it read before'; 0 by the template 'total and deterministic' (their statements: YthcpccddcgbanaaTotals.lean).
  GIVEN WITH THE SEED: the statements are not yours to turn. If you find one false, say at which input.
  Laid BY PROGRAM, IN A SANDBOX (cutbox-rows.mjs): the forced cells as the released guide's own fill.sh prints them over the translation a05aa84ee2ae95b1… (all of the seat's roots in one cut). By AI agents, Wed Nov 11 2026. No macro, syntax, notation, axiom, sorry.
-/
import Derived.Test.YthcpccddcgbanaaChecked
import GoSem.Claim
import GoSem.ClaimJoined
import GoSem.ClaimMapViews
import Derived.JoinedTies
import Derived.KernelRfl
namespace Go.Proofs.Ythcpccddcgbanaa
/- THE CELL 'sum', in the pinned program and in every row, IS THE sha256 OF THE DUMP (.gsa) THAT YthcpccddcgbanaaProg.lean LOADS. Nothing in Lean hashes anything: it is a label: what it is worth is what the hold of that sum in a sandbox is worth. -/
noncomputable def Try.pinned : Pinned := { name := "ythcpccddcgbanaa", sum := "a05aa84ee2ae95b156447141d75769b498218e417463e4197cd65bf6903dc313", checked := Try.checked }
namespace Rows
def none {H : Type} : Left H := { results := [], args := [] }

/-- 'rowlocklaw12.InstallFirst': WHATEVER THE INPUT: true; the input reads as it did. -/
def installFirstSpec : ChangeSpec := { name := "installFirst", fn := fun _ => fun
  | [d1, d2, d3] => { results := [.lit (.bool true)], args := [d1, d2, d3] }
  | _ => none }
def installFirstRow : OpenClaim := { program := "ythcpccddcgbanaa", sum := "a05aa84ee2ae95b156447141d75769b498218e417463e4197cd65bf6903dc313", func := "rowlock/rowlocklaw12.InstallFirst", spec := "installFirst", unfollowed := true, recurses := true, apart := false }
def InstallFirstSaid : Prop := installFirstRow.holds Try.pinned (OpenSpec.ofChange installFirstSpec)

/-- ITS FALSE NEIGHBOUR: 'it returns false'. Refute it at one input. -/
def installFirstWrong : ChangeSpec := { name := "installFirst", fn := fun _ => fun
  | [d1, d2, d3] => { results := [.lit (.bool false)], args := [d1, d2, d3] }
  | _ => none }
def InstallFirstWrongFalsely : Prop := installFirstRow.holds Try.pinned (OpenSpec.ofChange installFirstWrong)

/-- 'rowlocklaw12.InstallHead': WHATEVER THE INPUT: true; the input reads as it did. -/
def installHeadSpec : ChangeSpec := { name := "installHead", fn := fun _ => fun
  | [d1, d2] => { results := [.lit (.bool true)], args := [d1, d2] }
  | _ => none }
def installHeadRow : OpenClaim := { program := "ythcpccddcgbanaa", sum := "a05aa84ee2ae95b156447141d75769b498218e417463e4197cd65bf6903dc313", func := "rowlock/rowlocklaw12.InstallHead", spec := "installHead", unfollowed := true, recurses := true, apart := false }
def InstallHeadSaid : Prop := installHeadRow.holds Try.pinned (OpenSpec.ofChange installHeadSpec)

/-- ITS FALSE NEIGHBOUR: 'it returns false'. Refute it at one input. -/
def installHeadWrong : ChangeSpec := { name := "installHead", fn := fun _ => fun
  | [d1, d2] => { results := [.lit (.bool false)], args := [d1, d2] }
  | _ => none }
def InstallHeadWrongFalsely : Prop := installHeadRow.holds Try.pinned (OpenSpec.ofChange installHeadWrong)

/-- 'rowlocklaw12.InstallTwice': WHATEVER THE INPUT: true; the input reads as it did. -/
def installTwiceSpec : ChangeSpec := { name := "installTwice", fn := fun _ => fun
  | [d1, d2] => { results := [.lit (.bool true)], args := [d1, d2] }
  | _ => none }
def installTwiceRow : OpenClaim := { program := "ythcpccddcgbanaa", sum := "a05aa84ee2ae95b156447141d75769b498218e417463e4197cd65bf6903dc313", func := "rowlock/rowlocklaw12.InstallTwice", spec := "installTwice", unfollowed := true, recurses := true, apart := false }
def InstallTwiceSaid : Prop := installTwiceRow.holds Try.pinned (OpenSpec.ofChange installTwiceSpec)

/-- ITS FALSE NEIGHBOUR: 'it returns false'. Refute it at one input. -/
def installTwiceWrong : ChangeSpec := { name := "installTwice", fn := fun _ => fun
  | [d1, d2] => { results := [.lit (.bool false)], args := [d1, d2] }
  | _ => none }
def InstallTwiceWrongFalsely : Prop := installTwiceRow.holds Try.pinned (OpenSpec.ofChange installTwiceWrong)

/-- 'rowlocklaw12.InstallNobody': WHATEVER THE INPUT: true; the input reads as it did. -/
def installNobodySpec : ChangeSpec := { name := "installNobody", fn := fun _ => fun
  | [d] => { results := [.lit (.bool true)], args := [d] }
  | _ => none }
def installNobodyRow : OpenClaim := { program := "ythcpccddcgbanaa", sum := "a05aa84ee2ae95b156447141d75769b498218e417463e4197cd65bf6903dc313", func := "rowlock/rowlocklaw12.InstallNobody", spec := "installNobody", inPlace := ["internal/reflectlite.TypeOf"], unfollowed := true, recurses := true, apart := false }
def InstallNobodySaid : Prop := installNobodyRow.holds Try.pinned (OpenSpec.ofChange installNobodySpec)

/-- ITS FALSE NEIGHBOUR: 'it returns false'. Refute it at one input. -/
def installNobodyWrong : ChangeSpec := { name := "installNobody", fn := fun _ => fun
  | [d] => { results := [.lit (.bool false)], args := [d] }
  | _ => none }
def InstallNobodyWrongFalsely : Prop := installNobodyRow.holds Try.pinned (OpenSpec.ofChange installNobodyWrong)

/- THE SECOND FORM. 'bulk': how many values and letters a reading holds, each counted each time it is reached (what is shared counts as often as it is met; a slice's spare places count too). A statement '..UptoSaid' is the law's where the arguments, and the package variables that the reading takes, are together of bulk at most 1048576: NARROWER than '..Said'. Prove '..Said' where nothing that the law and all that it calls make is longer than what came in: it says more and counts as full. Else prove '..UptoSaid'. A law counts once. -/
mutual
def uptoBulk {H : Type} : DataW H → Nat
  | .lit (.string bytes) => bytes.length + 1
  | .lit _ => 1
  | .nil => 1
  | .ptr d => uptoBulk d + 1
  | .slice elems spare => uptoBulkAll elems + uptoBulkAll spare + 1
  | .agg parts => uptoBulkAll parts + 1
  | .iface _ d => uptoBulk d + 1
  | .map entries => uptoBulkEntries entries + 1
  | .held _ => 1
def uptoBulkAll {H : Type} : List (DataW H) → Nat
  | [] => 0
  | d :: r => uptoBulk d + uptoBulkAll r
def uptoBulkEntries {H : Type} : List (Lit × DataW H) → Nat
  | [] => 0
  | x :: r => uptoBulkEntry x + uptoBulkEntries r
def uptoBulkEntry {H : Type} : Lit × DataW H → Nat
  | (.string bytes, d) => bytes.length + uptoBulk d + 1
  | (_, d) => uptoBulk d + 1
 end
def uptoSmall : (H : Type) → List (DataW H) → Bool := fun _ ds => decide (uptoBulkAll ds ≤ 1048576)
def OpenSpec.upto (s : _root_.Go.ChangeSpec) : _root_.Go.OpenSpec := { _root_.Go.OpenSpec.ofChange s with cond := some uptoSmall }

/-- 'rowlocklaw12.InstallFirst', WHERE WHAT IT READS IS OF BULK AT MOST 1048576: true; the input reads as it did. -/
def installFirstUptoRow : OpenClaim := { program := "ythcpccddcgbanaa", sum := "a05aa84ee2ae95b156447141d75769b498218e417463e4197cd65bf6903dc313", func := "rowlock/rowlocklaw12.InstallFirst", spec := "installFirst", unfollowed := true, recurses := true, apart := false, narrowed := true }
def InstallFirstUptoSaid : Prop := installFirstUptoRow.holds Try.pinned (OpenSpec.upto installFirstSpec)

/-- 'rowlocklaw12.InstallHead', WHERE WHAT IT READS IS OF BULK AT MOST 1048576: true; the input reads as it did. -/
def installHeadUptoRow : OpenClaim := { program := "ythcpccddcgbanaa", sum := "a05aa84ee2ae95b156447141d75769b498218e417463e4197cd65bf6903dc313", func := "rowlock/rowlocklaw12.InstallHead", spec := "installHead", unfollowed := true, recurses := true, apart := false, narrowed := true }
def InstallHeadUptoSaid : Prop := installHeadUptoRow.holds Try.pinned (OpenSpec.upto installHeadSpec)

/-- 'rowlocklaw12.InstallTwice', WHERE WHAT IT READS IS OF BULK AT MOST 1048576: true; the input reads as it did. -/
def installTwiceUptoRow : OpenClaim := { program := "ythcpccddcgbanaa", sum := "a05aa84ee2ae95b156447141d75769b498218e417463e4197cd65bf6903dc313", func := "rowlock/rowlocklaw12.InstallTwice", spec := "installTwice", unfollowed := true, recurses := true, apart := false, narrowed := true }
def InstallTwiceUptoSaid : Prop := installTwiceUptoRow.holds Try.pinned (OpenSpec.upto installTwiceSpec)

/-- 'rowlocklaw12.InstallNobody', WHERE WHAT IT READS IS OF BULK AT MOST 1048576: true; the input reads as it did. -/
def installNobodyUptoRow : OpenClaim := { program := "ythcpccddcgbanaa", sum := "a05aa84ee2ae95b156447141d75769b498218e417463e4197cd65bf6903dc313", func := "rowlock/rowlocklaw12.InstallNobody", spec := "installNobody", inPlace := ["internal/reflectlite.TypeOf"], unfollowed := true, recurses := true, apart := false, narrowed := true }
def InstallNobodyUptoSaid : Prop := installNobodyUptoRow.holds Try.pinned (OpenSpec.upto installNobodySpec)

end Rows
end Go.Proofs.Ythcpccddcgbanaa

/-
  NARROWER THAN 'FOR EVERY INPUT', by the rows' own cells (each row's printed sentence says how): FaultWeights: laid · FaultWorst: laid · FaultOthers: laid · FaultJoins: laid.
  DERIVED. THE GIVEN ROWS OF THIS SEAT. 4 by the template 'for every input the law returns true; each argument reads behind the call as it read before'; 0 by the template 'total and deterministic' (their statements: YtcfddlfeldidjaaDoorTotals.lean).
  GIVEN WITH THE SEED: the statements are not yours to turn. If you find one false, say at which input.
  Laid BY PROGRAM, IN A SANDBOX (cutbox-rows.mjs): the forced cells as the released guide's own fill.sh prints them over the translation d06d12cd5e83b3cd… (all of the seat's roots in one cut). By AI agents, Wed Nov 11 2026. No macro, syntax, notation, axiom, sorry.
-/
import Derived.Test.YtcfddlfeldidjaaDoorChecked
import GoSem.Claim
import GoSem.ClaimJoined
import GoSem.ClaimMapViews
import Derived.JoinedTies
import Derived.KernelRfl
namespace Go.Proofs.YtcfddlfeldidjaaDoor
/- THE CELL 'sum', in the pinned program and in every row, IS THE sha256 OF THE DUMP (.gsa) THAT YtcfddlfeldidjaaDoorProg.lean LOADS. Nothing in Lean hashes anything: it is a label: what it is worth is what the hold of that sum in a sandbox is worth. -/
noncomputable def Tryd.pinned : Pinned := { name := "ytcfddlfeldidjaadoor", sum := "d06d12cd5e83b3cdd930da36d181be0b34ae7fab3f8993ab0d77e7ca50df6fea", checked := Tryd.checked }
namespace Rows
def none {H : Type} : Left H := { results := [], args := [] }

/- WHAT THE LISTED PACKAGE-LEVEL VARIABLES READ AS WHEN THE CALL BEGINS. Each datum BY PROGRAM (the guide's laid-datum.mjs) off the statement by which the dump's own 'gosem.cut.vars' lays the variable. In a bare row this is a premise. The card (YtcfddlfeldidjaaDoorCards.lean) ties it to the program's text. -/
def laid_errors_errorType {H : Type} : DataW H := .iface "internal/reflectlite.rtype" (.agg [.ptr (.lit (.string [101, 114, 114, 111, 114]))])

/-- 'rowlocklaw01.FaultWeights': WHATEVER THE INPUT: true; the input reads as it did. -/
def faultWeightsSpec : ChangeSpec := { name := "faultWeights", fn := fun _ => fun
  | [d] => { results := [.lit (.bool true)], args := [d] }
  | _ => none }
def faultWeightsRow : OpenClaim := { program := "ytcfddlfeldidjaadoor", sum := "d06d12cd5e83b3cdd930da36d181be0b34ae7fab3f8993ab0d77e7ca50df6fea", func := "rowlock/rowlocklaw01.FaultWeights", spec := "faultWeights", inPlace := ["internal/reflectlite.ValueOf", "(internal/reflectlite.Value).Type", "(internal/reflectlite.Value).IsNil", "internal/reflectlite.TypeOf", "(internal/reflectlite.Value).Elem", "(internal/reflectlite.Value).Set"], unfollowed := true, recurses := true, named := ["errors.errorType"], apart := false, laid := [("errors.errorType", laid_errors_errorType)] }
def FaultWeightsSaid : Prop := faultWeightsRow.holds Tryd.pinned (OpenSpec.ofChange faultWeightsSpec)

/-- ITS FALSE NEIGHBOUR: 'it returns false'. Refute it at one input. -/
def faultWeightsWrong : ChangeSpec := { name := "faultWeights", fn := fun _ => fun
  | [d] => { results := [.lit (.bool false)], args := [d] }
  | _ => none }
def FaultWeightsWrongFalsely : Prop := faultWeightsRow.holds Tryd.pinned (OpenSpec.ofChange faultWeightsWrong)

/-- 'rowlocklaw01.FaultWorst': WHATEVER THE INPUT: true; the input reads as it did. -/
def faultWorstSpec : ChangeSpec := { name := "faultWorst", fn := fun _ => fun
  | [d1, d2] => { results := [.lit (.bool true)], args := [d1, d2] }
  | _ => none }
def faultWorstRow : OpenClaim := { program := "ytcfddlfeldidjaadoor", sum := "d06d12cd5e83b3cdd930da36d181be0b34ae7fab3f8993ab0d77e7ca50df6fea", func := "rowlock/rowlocklaw01.FaultWorst", spec := "faultWorst", inPlace := ["internal/reflectlite.ValueOf", "(internal/reflectlite.Value).Type", "(internal/reflectlite.Value).IsNil", "internal/reflectlite.TypeOf", "(internal/reflectlite.Value).Elem", "(internal/reflectlite.Value).Set"], unfollowed := true, recurses := true, named := ["errors.errorType"], apart := false, laid := [("errors.errorType", laid_errors_errorType)] }
def FaultWorstSaid : Prop := faultWorstRow.holds Tryd.pinned (OpenSpec.ofChange faultWorstSpec)

/-- ITS FALSE NEIGHBOUR: 'it returns false'. Refute it at one input. -/
def faultWorstWrong : ChangeSpec := { name := "faultWorst", fn := fun _ => fun
  | [d1, d2] => { results := [.lit (.bool false)], args := [d1, d2] }
  | _ => none }
def FaultWorstWrongFalsely : Prop := faultWorstRow.holds Tryd.pinned (OpenSpec.ofChange faultWorstWrong)

/-- 'rowlocklaw01.FaultOthers': WHATEVER THE INPUT: true; the input reads as it did. -/
def faultOthersSpec : ChangeSpec := { name := "faultOthers", fn := fun _ => fun
  | [d1, d2, d3, d4] => { results := [.lit (.bool true)], args := [d1, d2, d3, d4] }
  | _ => none }
def faultOthersRow : OpenClaim := { program := "ytcfddlfeldidjaadoor", sum := "d06d12cd5e83b3cdd930da36d181be0b34ae7fab3f8993ab0d77e7ca50df6fea", func := "rowlock/rowlocklaw01.FaultOthers", spec := "faultOthers", inPlace := ["internal/reflectlite.ValueOf", "(internal/reflectlite.Value).Type", "(internal/reflectlite.Value).IsNil", "internal/reflectlite.TypeOf", "(internal/reflectlite.Value).Elem", "(internal/reflectlite.Value).Set"], unfollowed := true, recurses := true, named := ["errors.errorType"], apart := false, laid := [("errors.errorType", laid_errors_errorType)] }
def FaultOthersSaid : Prop := faultOthersRow.holds Tryd.pinned (OpenSpec.ofChange faultOthersSpec)

/-- ITS FALSE NEIGHBOUR: 'it returns false'. Refute it at one input. -/
def faultOthersWrong : ChangeSpec := { name := "faultOthers", fn := fun _ => fun
  | [d1, d2, d3, d4] => { results := [.lit (.bool false)], args := [d1, d2, d3, d4] }
  | _ => none }
def FaultOthersWrongFalsely : Prop := faultOthersRow.holds Tryd.pinned (OpenSpec.ofChange faultOthersWrong)

/-- 'rowlocklaw01.FaultJoins': WHATEVER THE INPUT: true; the input reads as it did. -/
def faultJoinsSpec : ChangeSpec := { name := "faultJoins", fn := fun _ => fun
  | [d1, d2, d3] => { results := [.lit (.bool true)], args := [d1, d2, d3] }
  | _ => none }
def faultJoinsRow : OpenClaim := { program := "ytcfddlfeldidjaadoor", sum := "d06d12cd5e83b3cdd930da36d181be0b34ae7fab3f8993ab0d77e7ca50df6fea", func := "rowlock/rowlocklaw01.FaultJoins", spec := "faultJoins", inPlace := ["internal/reflectlite.ValueOf", "(internal/reflectlite.Value).Type", "(internal/reflectlite.Value).IsNil", "internal/reflectlite.TypeOf", "(internal/reflectlite.Value).Elem", "(internal/reflectlite.Value).Set"], unfollowed := true, recurses := true, named := ["errors.errorType"], apart := false, laid := [("errors.errorType", laid_errors_errorType)] }
def FaultJoinsSaid : Prop := faultJoinsRow.holds Tryd.pinned (OpenSpec.ofChange faultJoinsSpec)

/-- ITS FALSE NEIGHBOUR: 'it returns false'. Refute it at one input. -/
def faultJoinsWrong : ChangeSpec := { name := "faultJoins", fn := fun _ => fun
  | [d1, d2, d3] => { results := [.lit (.bool false)], args := [d1, d2, d3] }
  | _ => none }
def FaultJoinsWrongFalsely : Prop := faultJoinsRow.holds Tryd.pinned (OpenSpec.ofChange faultJoinsWrong)

/- THE SECOND FORM. 'bulk': how many values and letters a reading holds, each counted each time it is reached (what is shared counts as often as it is met; a slice's spare places count too). A statement '..UptoSaid' is the law's where the arguments, and the package variables that the reading takes, are together of bulk at most 1048576: NARROWER than '..Said'. Prove '..Said' where nothing that the law and all that it calls make is longer than what came in: it says more and counts as full. Else prove '..UptoSaid'. A law counts once. -/
mutual
def uptoBulk {H : Type} : DataW H → Nat
  | .lit (.string bytes) => bytes.length + 1
  | .lit _ => 1
  | .nil => 1
  | .ptr d => uptoBulk d + 1
  | .slice elems spare => uptoBulkAll elems + uptoBulkAll spare + 1
  | .agg parts => uptoBulkAll parts + 1
  | .iface _ d => uptoBulk d + 1
  | .map entries => uptoBulkEntries entries + 1
  | .held _ => 1
def uptoBulkAll {H : Type} : List (DataW H) → Nat
  | [] => 0
  | d :: r => uptoBulk d + uptoBulkAll r
def uptoBulkEntries {H : Type} : List (Lit × DataW H) → Nat
  | [] => 0
  | x :: r => uptoBulkEntry x + uptoBulkEntries r
def uptoBulkEntry {H : Type} : Lit × DataW H → Nat
  | (.string bytes, d) => bytes.length + uptoBulk d + 1
  | (_, d) => uptoBulk d + 1
 end
def uptoSmall : (H : Type) → List (DataW H) → Bool := fun _ ds => decide (uptoBulkAll ds ≤ 1048576)
def OpenSpec.upto (s : _root_.Go.ChangeSpec) : _root_.Go.OpenSpec := { _root_.Go.OpenSpec.ofChange s with cond := some uptoSmall }

/-- 'rowlocklaw01.FaultWeights', WHERE WHAT IT READS IS OF BULK AT MOST 1048576: true; the input reads as it did. -/
def faultWeightsUptoRow : OpenClaim := { program := "ytcfddlfeldidjaadoor", sum := "d06d12cd5e83b3cdd930da36d181be0b34ae7fab3f8993ab0d77e7ca50df6fea", func := "rowlock/rowlocklaw01.FaultWeights", spec := "faultWeights", inPlace := ["internal/reflectlite.ValueOf", "(internal/reflectlite.Value).Type", "(internal/reflectlite.Value).IsNil", "internal/reflectlite.TypeOf", "(internal/reflectlite.Value).Elem", "(internal/reflectlite.Value).Set"], unfollowed := true, recurses := true, named := ["errors.errorType"], apart := false, laid := [("errors.errorType", laid_errors_errorType)], narrowed := true }
def FaultWeightsUptoSaid : Prop := faultWeightsUptoRow.holds Tryd.pinned (OpenSpec.upto faultWeightsSpec)

/-- 'rowlocklaw01.FaultWorst', WHERE WHAT IT READS IS OF BULK AT MOST 1048576: true; the input reads as it did. -/
def faultWorstUptoRow : OpenClaim := { program := "ytcfddlfeldidjaadoor", sum := "d06d12cd5e83b3cdd930da36d181be0b34ae7fab3f8993ab0d77e7ca50df6fea", func := "rowlock/rowlocklaw01.FaultWorst", spec := "faultWorst", inPlace := ["internal/reflectlite.ValueOf", "(internal/reflectlite.Value).Type", "(internal/reflectlite.Value).IsNil", "internal/reflectlite.TypeOf", "(internal/reflectlite.Value).Elem", "(internal/reflectlite.Value).Set"], unfollowed := true, recurses := true, named := ["errors.errorType"], apart := false, laid := [("errors.errorType", laid_errors_errorType)], narrowed := true }
def FaultWorstUptoSaid : Prop := faultWorstUptoRow.holds Tryd.pinned (OpenSpec.upto faultWorstSpec)

/-- 'rowlocklaw01.FaultOthers', WHERE WHAT IT READS IS OF BULK AT MOST 1048576: true; the input reads as it did. -/
def faultOthersUptoRow : OpenClaim := { program := "ytcfddlfeldidjaadoor", sum := "d06d12cd5e83b3cdd930da36d181be0b34ae7fab3f8993ab0d77e7ca50df6fea", func := "rowlock/rowlocklaw01.FaultOthers", spec := "faultOthers", inPlace := ["internal/reflectlite.ValueOf", "(internal/reflectlite.Value).Type", "(internal/reflectlite.Value).IsNil", "internal/reflectlite.TypeOf", "(internal/reflectlite.Value).Elem", "(internal/reflectlite.Value).Set"], unfollowed := true, recurses := true, named := ["errors.errorType"], apart := false, laid := [("errors.errorType", laid_errors_errorType)], narrowed := true }
def FaultOthersUptoSaid : Prop := faultOthersUptoRow.holds Tryd.pinned (OpenSpec.upto faultOthersSpec)

/-- 'rowlocklaw01.FaultJoins', WHERE WHAT IT READS IS OF BULK AT MOST 1048576: true; the input reads as it did. -/
def faultJoinsUptoRow : OpenClaim := { program := "ytcfddlfeldidjaadoor", sum := "d06d12cd5e83b3cdd930da36d181be0b34ae7fab3f8993ab0d77e7ca50df6fea", func := "rowlock/rowlocklaw01.FaultJoins", spec := "faultJoins", inPlace := ["internal/reflectlite.ValueOf", "(internal/reflectlite.Value).Type", "(internal/reflectlite.Value).IsNil", "internal/reflectlite.TypeOf", "(internal/reflectlite.Value).Elem", "(internal/reflectlite.Value).Set"], unfollowed := true, recurses := true, named := ["errors.errorType"], apart := false, laid := [("errors.errorType", laid_errors_errorType)], narrowed := true }
def FaultJoinsUptoSaid : Prop := faultJoinsUptoRow.holds Tryd.pinned (OpenSpec.upto faultJoinsSpec)

end Rows
end Go.Proofs.YtcfddlfeldidjaaDoor

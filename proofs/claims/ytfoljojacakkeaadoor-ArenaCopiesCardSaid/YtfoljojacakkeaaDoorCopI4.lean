/- ArenaCopies' walk, from what its arguments' types tell. -/
import Derived.Test.YtfoljojacakkeaaDoorCopA4
namespace Go.Proofs.YtfoljojacakkeaaDoor
open Go.RowKit Go.ChangeShapes Go.WideShapes
theorem copiesa4_walk_i {H : Type} {enc : TypeId × Value → H} (slots last : Int) (_wfs : (Lit.int .i64 slots).wf = true) (_wfl : (Lit.int .i64 last).wf = true) (A : Option Addr) (n cap : Nat) (hc : n ≤ cap) (hm : cap ≤ maxLen) (g : Int) (hg : (Lit.int .u8 g).wf = true) (w : World) (h : Do4At enc w A n) (hL : Laid w) :
    Calls Tryd.prog 4 #[.int .i64 slots, .int .i64 last, .slice A n cap, .int .u8 g] w fun e w' => e = .returned (.bool true) ∧ Fr none_ w w' := by
  obtain ⟨L, hL'⟩ := dns_of h
  obtain ⟨h0, h1⟩ := wf_u8 hg
  obtain ⟨gv, rfl⟩ : ∃ gv : Nat, g = gv := ⟨g.toNat, by omega⟩
  exact copiesa4_walk slots last A n cap hc hm gv (by omega) L w hL' hL
end Go.Proofs.YtfoljojacakkeaaDoor

/- ArenaPlays' walk, from what its arguments' types tell. -/
import Derived.Test.YtfoljojacakkeaaDoorPlaysA4
namespace Go.Proofs.YtfoljojacakkeaaDoor
open Go.RowKit Go.ChangeShapes Go.WideShapes
theorem playsa4_walk_i {H : Type} {enc : TypeId × Value → H} (slots last : Int) (_wfs : (Lit.int .i64 slots).wf = true) (_wfl : (Lit.int .i64 last).wf = true) (A : Option Addr) (n cap : Nat) (hc : n ≤ cap) (hm : cap ≤ maxLen) (w : World) (h : Do4At enc w A n) (hL : Laid w) :
    Calls Tryd.prog 3 #[.int .i64 slots, .int .i64 last, .slice A n cap] w fun e w' => e = .returned (.bool true) ∧ Fr none_ w w' := by
  obtain ⟨L, hL'⟩ := dns_of h
  exact playsa4_walk slots last A n cap L w hL' (by omega) hL
end Go.Proofs.YtfoljojacakkeaaDoor

/- InnerAsks' walk from what its arguments' types tell. -/
import Derived.Test.YtfoljojacakkeaaDoorAsks8
import Derived.Test.YtfoljojacakkeaaDoorTypesV8
import Derived.Test.YtfoljojacakkeaaDoorIn8
namespace Go.Proofs.YtfoljojacakkeaaDoor
open Go.RowKit Go.BigFrame Go.ChangeShapes Go.WideShapes
set_option maxRecDepth 100000
set_option linter.unusedVariables false

theorem any_of {H : Type} {enc : TypeId × Value → H} {w : World} {x0 x1 : ByteArray} {x2 : Bool} {x3 : Int} {x4 : Value} {x5 : Bool} {x6 x7 : Int} {x8 : ByteArray} (h0 : x0.size ≤ reachBytes) (h1 : x1.size ≤ reachBytes) (h4 : Conf enc Tryd.prog w (.slice 34) x4) (h8 : x8.size ≤ reachBytes) :
    ∃ (A : Option Addr) (c : Nat) (L : List Et), x4 = .slice A L.length c ∧ VwAny w ⟨x0, x1, x2, x3, L, x5, x6, x7, x8⟩ A c := by
  obtain ⟨A, n, c, L, rfl, h1', h2', -, hL⟩ := ents_conf h4
  obtain rfl := hL.1
  refine ⟨A, c, L, rfl, ⟨hL.reads, h1', h2', szOk_of h0, szOk_of h1, szOk_of h8, fun p hp => ?_⟩⟩
  have hp' : p ∈ L := hp
  obtain ⟨k, hk⟩ := List.getElem?_of_mem hp'
  obtain ⟨b, off, _, _, hc⟩ := hL.2 (by have := (List.getElem?_eq_some_iff.1 hk).1; omega)
  exact szOk_of (hc k p hk).1.1
theorem asks8_walk_i {H : Type} {enc : TypeId × Value → H} (x0 x1 : ByteArray) (x2 : Bool) (x3 : Int) (x4 : Value) (x5 : Bool) (x6 x7 : Int) (x8 : ByteArray) (key : ByteArray) (page : Int) (w : World) (h0 : x0.size ≤ reachBytes) (h1 : x1.size ≤ reachBytes) (h4 : Conf enc Tryd.prog w (.slice 34) x4) (h8 : x8.size ≤ reachBytes) (hk : key.size ≤ reachBytes) (hL : Laid w) :
    Calls Tryd.prog 5 #[.agg #[.string x0, .string x1, .bool x2, .int .i64 x3, x4, .bool x5, .int .i64 x6, .int .i64 x7, .string x8], .string key, .int .i64 page] w fun e w' => e = .returned (.bool true) ∧ Fr none_ w w' := by
  obtain ⟨A, c, L, rfl, hV⟩ := any_of (x2 := x2) (x3 := x3) (x5 := x5) (x6 := x6) (x7 := x7) h0 h1 h4 h8
  exact asks8_walk ⟨x0, x1, x2, x3, L, x5, x6, x7, x8⟩ A c key page w hV (szOk_of hk) hL
end Go.Proofs.YtfoljojacakkeaaDoor

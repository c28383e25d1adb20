/- A region that draws its order, whose operations read and whose callees may make memory but turn none that was there: one walk in the text's order. (Over the kit's law on quiet regions, at another class of worlds.) -/
import Derived.Test.YtpjbncbmdfmlpaaBase
import Derived.Deep.QuietTactic
import Derived.BigQuiet
namespace Go.Proofs.Ytpjbncbmdfmlpaa
open Go

/-- A world in which all that was there is as it was. -/
structure Wx (w : World) where
  v : World
  h : Fr none_ w v
instance Wx.some_ (w : World) : Nonempty (Wx w) := ⟨⟨w, Fr.refl _ _⟩⟩
def Wx.to {w : World} (x : Wx w) : World := x.v
theorem Wx.fr {w : World} (x : Wx w) : Fr none_ w x.to := x.h
theorem Wx.mk_to {w v : World} (h : Fr none_ w v) : (Wx.mk v h).to = v := rfl
theorem Wx.cell {w : World} (x : Wx w) {b o : Nat} {v : Value} (h : w.cell? ⟨b, o, none⟩ = some v) : x.to.cell? ⟨b, o, none⟩ = some v :=
  (World.cell?_of_block (x.h.block b (World.block_lt_of_cell? w _ h) id)).trans h
section
variable {P : Program} {w : World}
theorem wp_region_quiet_x {id : Nat} {Q : Exit → Act → World → Prop} {a : Act} {l : List Oper} (hm : P.follows .mixedOrders = true) (hB : Region.lexB .any l.toArray = true)
    (h : wpQuiet P l.toArray (fun w' => ∃ x : Wx w, w' = x.to) (fun a' => ∀ w', (∃ x : Wx w, w' = x.to) → Q .normal a' w') l a) : (Code.region id l.toArray true).wp P Q a w :=
  wp_region_quiet (C := fun w' => ∃ x : Wx w, w' = x.to) hm hB ⟨⟨_, (Fr.refl none_ w).drew⟩, rfl⟩ (by simpa using h)
theorem Calls.quiet_x {f : FuncId} {args : Array Value} {x : Wx w} {v : Value}
    (h : Calls P f args x.to fun e w' => e = .returned v ∧ Fr none_ x.to w') : Calls P f args x.to fun e w'' => e = .returned v ∧ ∃ y : Wx w, w'' = y.to :=
  h.mono fun _ w' ⟨he, hf⟩ => ⟨he, ⟨w', x.h.then_none hf⟩, rfl⟩
end
end Go.Proofs.Ytpjbncbmdfmlpaa

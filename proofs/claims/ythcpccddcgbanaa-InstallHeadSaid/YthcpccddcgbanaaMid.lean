/- Runs of cells written one behind the other. -/
import Derived.Test.YthcpccddcgbanaaBase
import Derived.Deep.MidRow
namespace Go.Proofs.Ythcpccddcgbanaa
open Go.RowKit
set_option linter.unusedVariables false

/-- Cells written one behind the other. -/
def setA (cs : Array Value) (o : Nat) : List Value → Array Value
  | [] => cs
  | v :: r => setA (cs.setIfInBounds o v) (o + 1) r
theorem setA_size : ∀ (vs : List Value) (cs : Array Value) (o : Nat), (setA cs o vs).size = cs.size
  | [], cs, o => rfl
  | v :: r, cs, o => by rw [setA, setA_size r]; simp
theorem setA_out : ∀ (vs : List Value) (cs : Array Value) (o k : Nat), (k < o ∨ o + vs.length ≤ k) → (setA cs o vs)[k]? = cs[k]?
  | [], cs, o, k, h => rfl
  | v :: r, cs, o, k, h => by
    rw [setA, setA_out r _ _ _ (by simp at h; omega), Array.getElem?_setIfInBounds_ne (by simp at h; omega)]
theorem setA_in : ∀ (vs : List Value) (cs : Array Value) (o j : Nat) (v : Value), vs[j]? = some v → o + j < cs.size → (setA cs o vs)[o + j]? = some v
  | [], cs, o, j, v, h, _ => by simp at h
  | u :: r, cs, o, 0, v, h, hl => by
    obtain rfl : u = v := by simpa using h
    rw [setA, setA_out r _ _ _ (by omega)]
    have hl' : o < cs.size := by omega
    show (cs.setIfInBounds o u)[o]? = some u
    simp [hl']
  | u :: r, cs, o, j + 1, v, h, hl => by
    have := setA_in r (cs.setIfInBounds o u) (o + 1) j v (by simpa using h) (by simp; omega)
    rw [setA, show o + (j + 1) = o + 1 + j by omega]
    exact this
theorem Blk.setCells {g : Nat} {t : TypeId} : ∀ (vs : List Value) (o : Nat) (cs : Array Value) (w : World), Blk w g t cs → Blk (w.setCells g o vs) g t (setA cs o vs)
  | [], o, cs, w, h => h
  | v :: r, o, cs, w, h => Blk.setCells r (o + 1) _ _ (h.set_ o v)
theorem Fr.setCells {g : Nat} {S : Nat → Prop} {a : World} : ∀ (vs : List Value) (o : Nat) (w : World), Fr S a w → (S g ∨ a.heap.size ≤ g) → Fr S a (w.setCells g o vs)
  | [], o, w, h, _ => h
  | v :: r, o, w, h, hs => Fr.setCells r (o + 1) _ (h.setCell (p := ⟨g, o, none⟩) hs v) hs
theorem new_there (w : World) (t : TypeId) (cs : Array Value) : (w.alloc (.cells cs t)).there w.heap.size 0 cs.size := by
  intro j hj
  have hb := Blk.new w t cs
  refine ⟨?_, hb.frozen _⟩
  rw [hb.cell, Nat.zero_add, Array.getElem?_eq_getElem hj]
  rfl
theorem new_copy (w : World) (t : TypeId) (zs : Array Value) (vs : List Value) (hz : zs.size = vs.length) : Blk ((w.alloc (.cells zs t)).setCells w.heap.size 0 vs) w.heap.size t vs.toArray ∧ Fr none_ w ((w.alloc (.cells zs t)).setCells w.heap.size 0 vs) := by
  refine ⟨?_, Fr.setCells _ _ _ ((Fr.refl none_ w).alloc _) (.inr (Nat.le_refl _))⟩
  have h := Blk.setCells vs 0 _ _ (Blk.new w t zs)
  have e : setA zs 0 vs = vs.toArray := by
    apply Array.ext_getElem?
    intro k
    rcases Nat.lt_or_ge k vs.length with h1 | h1
    · have := setA_in vs zs 0 k vs[k] (List.getElem?_eq_getElem h1) (by omega)
      rw [Nat.zero_add] at this
      rw [this, List.getElem?_toArray, List.getElem?_eq_getElem h1]
    · rw [Array.getElem?_eq_none (by rw [setA_size]; omega), Array.getElem?_eq_none (by simpa using h1)]
  rwa [e] at h
end Go.Proofs.Ythcpccddcgbanaa

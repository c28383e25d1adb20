/- A whole struct stored over a block. -/
import Derived.Test.YtfoljojacakkeaaDoorSplit8
namespace Go.Proofs.YtfoljojacakkeaaDoor
open Go.RowKit
set_option linter.unusedVariables false
theorem Blk.there0 {w : World} {g n : Nat} {t : TypeId} {cs : Array Value} (h : Blk w g t cs) (hn : cs.size = n) : w.there g 0 n := by
  subst hn
  intro j hj
  refine ⟨?_, h.frozen _⟩
  rw [h.cell, Nat.zero_add, Array.getElem?_eq_getElem hj]
  rfl
theorem Blk.over {w : World} {g : Nat} {t : TypeId} {zs : Array Value} (h : Blk w g t zs) (vs : List Value) (hz : zs.size = vs.length) : Blk (w.setCells g 0 vs) g t vs.toArray ∧ Fr (only g) w (w.setCells g 0 vs) := by
  refine ⟨?_, Fr.setCells _ _ _ (Fr.refl _ _) (.inl rfl)⟩
  have h := Blk.setCells vs 0 _ _ h
  have e : setA zs 0 vs = vs.toArray := by
    apply Array.ext_getElem?
    intro k
    rcases Nat.lt_or_ge k vs.length with h1 | h1
    · have := setA_in vs zs 0 k vs[k] (List.getElem?_eq_getElem h1) (by omega)
      rw [Nat.zero_add] at this
      rw [this, List.getElem?_toArray, List.getElem?_eq_getElem h1]
    · rw [Array.getElem?_eq_none (by rw [setA_size]; omega), Array.getElem?_eq_none (by simpa using h1)]
  rwa [e] at h
section
variable {P : Program} {md : Region.Mode} {ops : Array Oper} {Q : Exit → Act → World → Prop} {S : World → Prop}
/-- The one operation that is ready, guarded or not. -/
theorem wpAnyU_oneG {m i : Nat} {oi : Oper} {fuel : Nat} {listed : Array Bool} {a : Act} {w : World} (hi : ops[i]? = some oi) (hw : Region.wanted oi (yielded ops a.tmps) = true) (hr : Region.ready md ops listed = [i])
    (h : Oper.wp P oi a w (fun a' w' => (m ≤ i ∨ S w') ∧ wpAnyU P md ops Q S m fuel (listed.setIfInBounds i true) a' w') Q) : wpAnyU P md ops Q S m (fuel + 1) listed a w := by
  refine wpAnyU_all hr (by simp) (fun j hj => ?_)
  obtain rfl : j = i := by simpa using hj
  unfold wpOp
  simp only [hi, hw, if_true]
  exact .inl h
end
theorem childM_drop (V : Vw) (key : ByteArray) : childM (dropH V) key = childM V key := rfl
theorem top_none {V : Vw} (h : Sound V) {key : ByteArray} (hn : childM V key = none) (k : ByteArray) (l r : Int) : childM (topV V k l r) key = none := childM_out (V := topV V k l r) (h.child_none hn)
theorem halves_ents {V : Vw} {n : Nat} {k k' : ByteArray} {r : Int} : (leftV V n k r).ents ++ (rightV V n k').ents = V.ents := List.take_append_drop _ _
/-- Three structs of one type, laid and written whole. -/
abbrev w3z (w : World) (t : TypeId) (z : Array Value) : World := ((w.alloc (.cells z t)).alloc (.cells z t)).alloc (.cells z t)
section
variable (w : World) (t : TypeId) (z : Array Value) (a b c : List Value)
theorem w3z_1 : Blk (w3z w t z) w.heap.size t z := ((Blk.new w t z).alloc _).alloc _
theorem w3z_2 : Blk (w3z w t z) (w.heap.size + 1) t z := (Blk.new_at t z (by simp)).alloc _
theorem w3z_3 : Blk (w3z w t z) (w.heap.size + 1 + 1) t z := Blk.new_at t z (by simp)
theorem three_there1 {n : Nat} (hz : z.size = n) : (w3z w t z).there w.heap.size 0 n := (w3z_1 w t z).there0 hz
theorem three_there2 {n : Nat} (hz : z.size = n) (ha : z.size = a.length) : ((w3z w t z).setCells w.heap.size 0 a).there (w.heap.size + 1) 0 n :=
  ((w3z_2 w t z).fr ((w3z_1 w t z).over a ha).2 (only_ne (by omega))).there0 hz
theorem three_there3 {n : Nat} (hz : z.size = n) (ha : z.size = a.length) (hb : z.size = b.length) : (((w3z w t z).setCells w.heap.size 0 a).setCells (w.heap.size + 1) 0 b).there (w.heap.size + 1 + 1) 0 n :=
  (((w3z_3 w t z).fr ((w3z_1 w t z).over a ha).2 (only_ne (by omega))).fr (((w3z_2 w t z).fr ((w3z_1 w t z).over a ha).2 (only_ne (by omega))).over b hb).2 (only_ne (by omega))).there0 hz
abbrev w3s : World := (((w3z w t z).setCells w.heap.size 0 a).setCells (w.heap.size + 1) 0 b).setCells (w.heap.size + 1 + 1) 0 c
structure Three (w w' : World) (t : TypeId) (a b c : List Value) : Prop where
  a : Blk w' w.heap.size t a.toArray
  b : Blk w' (w.heap.size + 1) t b.toArray
  c : Blk w' (w.heap.size + 1 + 1) t c.toArray
  f : Fr none_ w w'
theorem three_new (ha : z.size = a.length) (hb : z.size = b.length) (hc : z.size = c.length) : Three w (w3s w t z a b c) t a b c := by
  have h1 := (w3z_1 w t z).over a ha
  have h2 := ((w3z_2 w t z).fr h1.2 (only_ne (by omega))).over b hb
  have h3 := (((w3z_3 w t z).fr h1.2 (only_ne (by omega))).fr h2.2 (only_ne (by omega))).over c hc
  exact ⟨(h1.1.fr h2.2 (only_ne (by omega))).fr h3.2 (only_ne (by omega)), h2.1.fr h3.2 (only_ne (by omega)), h3.1,
    ((((((Fr.refl none_ w).alloc _).alloc _).alloc _).then_only h1.2 (.inr (Nat.le_refl _))).then_only h2.2 (.inr (by omega))).then_only h3.2 (.inr (by omega))⟩
end
theorem Blk.range {w : World} {g : Nat} {t : TypeId} {l : List Value} (h : Blk w g t l.toArray) : w.rangeAt g 0 l := fun j v hv => by
  rw [Nat.zero_add]
  exact h.cell' (by simpa using hv)
end Go.Proofs.YtfoljojacakkeaaDoor

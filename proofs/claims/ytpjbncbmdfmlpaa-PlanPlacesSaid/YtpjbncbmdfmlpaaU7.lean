/- For regions that draw: operations that are ready, guarded or not; blocks written whole. -/
import Derived.Test.YtpjbncbmdfmlpaaHeldU
import Derived.Test.YtpjbncbmdfmlpaaMid
namespace Go.Proofs.Ytpjbncbmdfmlpaa
open Go.RowKit
set_option linter.unusedVariables false
theorem Blk.there7 {w : World} {g n : Nat} {t : TypeId} {cs : Array Value} (h : Blk w g t cs) (hn : cs.size = n) : w.there g 0 n := by
  subst hn
  intro j hj
  refine ⟨?_, h.frozen _⟩
  rw [h.cell, Nat.zero_add, Array.getElem?_eq_getElem hj]
  rfl
theorem Blk.new7 {w : World} {b : Nat} (t : TypeId) (cs : Array Value) (h : b = w.heap.size) : Blk (w.alloc (.cells cs t)) b t cs := by
  subst h
  exact Blk.new w t cs
theorem Blk.over7 {w : World} {g : Nat} {t : TypeId} {zs : Array Value} (h : Blk w g t zs) (vs : List Value) (hz : zs.size = vs.length) : Blk (w.setCells g 0 vs) g t vs.toArray ∧ Fr (only g) w (w.setCells g 0 vs) := by
  refine ⟨?_, Fr.setCells _ _ _ (Fr.refl _ _) (.inl rfl)⟩
  have h := Blk.setCells vs 0 _ _ h
  have e : setA zs 0 vs = vs.toArray := by
    apply Array.ext_getElem?
    intro k
    rcases Nat.lt_or_ge k vs.length with h1 | h1
    · have := setA_in vs zs 0 k vs[k] (List.getElem?_eq_getElem h1) (by omega)
      rw [Nat.zero_add] at this
      rw [this, List.getElem?_toArray, List.getElem?_eq_getElem h1]
    · rw [Array.getElem?_eq_none (by rw [setA_size]; omega), Array.getElem?_eq_none (by simpa using h1)]
  rwa [e] at h
theorem Blk.range7 {w : World} {g : Nat} {t : TypeId} {l : List Value} (h : Blk w g t l.toArray) : w.rangeAt g 0 l := fun j v hv => by
  rw [Nat.zero_add]
  exact h.cell' (by simpa using hv)
section
variable {P : Program} {md : Region.Mode} {ops : Array Oper} {Q : Exit → Act → World → Prop} {S : World → Prop}
theorem wpAnyU_one7 {m i : Nat} {oi : Oper} {fuel : Nat} {listed : Array Bool} {a : Act} {w : World} (hi : ops[i]? = some oi) (hw : Region.wanted oi (yielded ops a.tmps) = true) (hr : Region.ready md ops listed = [i])
    (h : Oper.wp P oi a w (fun a' w' => (m ≤ i ∨ S w') ∧ wpAnyU P md ops Q S m fuel (listed.setIfInBounds i true) a' w') Q) : wpAnyU P md ops Q S m (fuel + 1) listed a w := by
  refine wpAnyU_all hr (by simp) (fun j hj => ?_)
  obtain rfl : j = i := by simpa using hj
  unfold wpOp
  simp only [hi, hw, if_true]
  exact .inl h
theorem wpAnyU_two7 {m i j : Nat} {oi oj : Oper} {fuel : Nat} {listed : Array Bool} {a : Act} {w : World} (hi : ops[i]? = some oi) (hj : ops[j]? = some oj) (wi : Region.wanted oi (yielded ops a.tmps) = true) (wj : Region.wanted oj (yielded ops a.tmps) = true) (hr : Region.ready md ops listed = [i, j])
    (h1 : Oper.wp P oi a w (fun a' w' => (m ≤ i ∨ S w') ∧ wpAnyU P md ops Q S m fuel (listed.setIfInBounds i true) a' w') Q)
    (h2 : Oper.wp P oj a w (fun a' w' => (m ≤ j ∨ S w') ∧ wpAnyU P md ops Q S m fuel (listed.setIfInBounds j true) a' w') Q) : wpAnyU P md ops Q S m (fuel + 1) listed a w := by
  refine wpAnyU_all hr (by simp) (fun k hk => ?_)
  have hk' : k = i ∨ k = j := by simpa using hk
  rcases hk' with rfl | rfl
  · unfold wpOp
    simp only [hi, wi, if_true]
    exact .inl h1
  · unfold wpOp
    simp only [hj, wj, if_true]
    exact .inl h2
end
end Go.Proofs.Ytpjbncbmdfmlpaa

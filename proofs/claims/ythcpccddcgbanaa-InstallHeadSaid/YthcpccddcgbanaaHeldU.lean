/- A region that draws: reads are taken first under S, where S need not hold behind the operations from m on (each of which waits for the reads). (As XHeldT, with a tail of several operations.) -/
import Derived.Test.YthcpccddcgbanaaHeldT
namespace Go.Proofs.Ythcpccddcgbanaa
open Go

section
variable {P : Program} {md : Region.Mode} {ops : Array Oper} {Q : Exit → Act → World → Prop} {S : World → Prop}
/-- The two operations that are ready. -/
theorem wpAnyT_two {m i j : Nat} {oi oj : Oper} {fuel : Nat} {listed : Array Bool} {a : Act} {w : World} (hi : ops[i]? = some oi) (hj : ops[j]? = some oj) (gi : oi.guard = none) (gj : oj.guard = none) (hr : Region.ready md ops listed = [i, j])
    (h1 : Oper.wp P oi a w (fun a' w' => (i = m ∨ S w') ∧ wpAnyT P md ops Q S m fuel (listed.setIfInBounds i true) a' w') Q)
    (h2 : Oper.wp P oj a w (fun a' w' => (j = m ∨ S w') ∧ wpAnyT P md ops Q S m fuel (listed.setIfInBounds j true) a' w') Q) : wpAnyT P md ops Q S m (fuel + 1) listed a w := by
  refine wpAnyT_all hr (by simp) (fun k hk => ?_)
  have hk' : k = i ∨ k = j := by simpa using hk
  rcases hk' with rfl | rfl
  · unfold wpOp
    have hw : Region.wanted oi (yielded ops a.tmps) = true := by simp [Region.wanted, gi]
    simp only [hi, hw, if_true]
    exact .inl h1
  · unfold wpOp
    have hw : Region.wanted oj (yielded ops a.tmps) = true := by simp [Region.wanted, gj]
    simp only [hj, hw, if_true]
    exact .inl h2
def wpAnyU (P : Program) (md : Region.Mode) (ops : Array Oper) (Q : Exit → Act → World → Prop) (S : World → Prop) (m : Nat) : Nat → Array Bool → Act → World → Prop
  | 0, listed, a, w => Region.ready md ops listed = [] ∧ Q .normal a w
  | fuel + 1, listed, a, w =>
    (Region.ready md ops listed = [] → Q .normal a w) ∧
    ∀ i ∈ Region.ready md ops listed, wpOp P ops Q i (fun a' w' => (m ≤ i ∨ S w') ∧ wpAnyU P md ops Q S m fuel (listed.setIfInBounds i true) a' w') a w
theorem wpAny_of_U {m : Nat} : ∀ (fuel : Nat) (listed : Array Bool) (a : Act) (w : World), wpAnyU P md ops Q S m fuel listed a w → wpAny P md ops Q fuel listed a w
  | 0, _, _, _, h => h
  | fuel + 1, _, _, _, h => ⟨h.1, fun i hi => wpOp_mono (fun a' w' h' => wpAny_of_U fuel _ a' w' h'.2) (h.2 i hi)⟩
/-- As wpAnyU_first, where m waits for i by whatever way. -/
theorem wpAnyU_first2 {m i f : Nat} {oi : Oper} {v : Value} (hi : ops[i]? = some oi) (hsel : ∀ (j : Nat) (o : Oper) cs b, ops[j]? = some o → o.op ≠ .select cs b)
    (hQ : ∀ c a w, Q (.panic c) (a.put oi.dst v) w → Q (.panic c) a w) (hm : ∀ j, j < ops.size → m ≤ j → j ≠ i → waitsB md ops f j i = true) :
    ∀ (fuel : Nat) (listed : Array Bool) (a : Act) (w : World), Closed md ops listed →
      (∀ j oj, ops[j]? = some oj → j ≠ i → listed.getD j true = false → (∀ e ∈ oj.after, Region.binds md e = true → e.on ≠ i) → oi.apart ops oj = true) →
      i ∈ Region.ready md ops listed → YieldsIf P ops S oi v a → S w →
      wpAnyU P md ops Q S m fuel (listed.setIfInBounds i true) (a.put oi.dst v) w → wpAnyU P md ops Q S m (fuel + 1) listed a w := by
  intro fuel
  induction fuel with
  | zero =>
    intro listed a w hc _ hr hy hS H
    refine ⟨fun h => (by rw [h] at hr; cases hr), fun j hj => ?_⟩
    by_cases hji : j = i
    · subst hji; exact hy.wpOp hi hS ⟨.inr hS, H⟩
    · have := ready_mono hj hji
      rw [H.1] at this
      cases this
  | succ fuel ih =>
    intro listed a w hc hfree hr hy hS H
    refine ⟨fun h => (by rw [h] at hr; cases hr), fun j hj => ?_⟩
    by_cases hji : j = i
    · subst hji; exact hy.wpOp hi hS ⟨.inr hS, H⟩
    · have h1 := H.2 j (ready_mono hj hji)
      obtain ⟨hjun, oj, hoj, hall⟩ := mem_ready.1 hj
      have hnot : ∀ e ∈ oj.after, Region.binds md e = true → e.on ≠ i := fun e he hb heq => by
        have h1 := hall e he hb
        have h0 := (mem_ready.1 hr).1
        rw [heq] at h1
        rcases Nat.lt_or_ge i listed.size with h' | h'
        · simp [h'] at h0 h1; rw [h0] at h1; cases h1
        · simp [Array.getElem?_eq_none h'] at h1
      have hjm : ¬ m ≤ j := fun hmj => ready_waits hc hj (hm j (Array.getElem?_eq_some_iff.1 hoj).1 hmj hji) hr
      have h2 := wpOp_putIf hoj (hfree j oj hoj hji hjun hnot) (fun cs b => hsel i oi cs b hi) (fun cs b => hsel j oj cs b hoj) hQ hy h1
      have hfree' : ∀ k ok, ops[k]? = some ok → k ≠ i → (listed.setIfInBounds j true).getD k true = false →
          (∀ e ∈ ok.after, Region.binds md e = true → e.on ≠ i) → oi.apart ops ok = true := fun k ok hk hki hun hno => by
        refine hfree k ok hk hki ?_ hno
        by_cases hjk : j = k
        · subst hjk; exact hjun
        · rw [getD_set_ne true hjk] at hun; exact hun
      refine wpOp_mono (fun a' w' h3 => ?_) h2
      have hs : S w' := h3.2.1.resolve_left hjm
      refine ⟨.inr hs, ih (listed.setIfInBounds j true) a' w' (hc.set hj) hfree' (ready_mono hr (Ne.symm hji)) h3.1 hs ?_⟩
      rw [Array.setIfInBounds_comm _ _ hji]
      exact h3.2.2
theorem wpAnyU_take2 {m i : Nat} {oi : Oper} {v : Value} {fuel : Nat} {listed : Array Bool} {a : Act} {w : World} (hi : ops[i]? = some oi)
    (hs : Region.noSelect ops = true) (hf : Region.free md ops listed i = true) (hr : (Region.ready md ops listed).contains i = true)
    (hm : ((List.range ops.size).all (fun j => !decide (m ≤ j) || decide (j = i) || waitsB md ops ops.size j i) && closedB md ops listed) = true)
    (hQ : ∀ c a w, Q (.panic c) (a.put oi.dst v) w → Q (.panic c) a w) (hy : YieldsIf P ops S oi v a) (hS : S w)
    (h : wpAnyU P md ops Q S m fuel (listed.setIfInBounds i true) (a.put oi.dst v) w) : wpAnyU P md ops Q S m (fuel + 1) listed a w := by
  rw [Bool.and_eq_true] at hm
  exact wpAnyU_first2 hi (Region.noSelect_spec hs) hQ (fun j hj hmj hji => by have := List.all_eq_true.1 hm.1 j (List.mem_range.2 hj); simpa [hmj, hji] using this) fuel listed a w (closed_of hm.2) (Region.free_spec hi hf) (by simpa using hr) hy hS h
theorem wpAnyU_all {m : Nat} {rs : List Nat} {fuel : Nat} {listed : Array Bool} {a : Act} {w : World} (hr : Region.ready md ops listed = rs) (hne : rs ≠ [])
    (h : ∀ i ∈ rs, wpOp P ops Q i (fun a' w' => (m ≤ i ∨ S w') ∧ wpAnyU P md ops Q S m fuel (listed.setIfInBounds i true) a' w') a w) : wpAnyU P md ops Q S m (fuel + 1) listed a w :=
  ⟨fun h0 => absurd (hr ▸ h0) hne, hr ▸ h⟩
/-- The one operation that is ready. -/
theorem wpAnyU_one {m i : Nat} {oi : Oper} {fuel : Nat} {listed : Array Bool} {a : Act} {w : World} (hi : ops[i]? = some oi) (hg : oi.guard = none) (hr : Region.ready md ops listed = [i])
    (h : Oper.wp P oi a w (fun a' w' => (m ≤ i ∨ S w') ∧ wpAnyU P md ops Q S m fuel (listed.setIfInBounds i true) a' w') Q) : wpAnyU P md ops Q S m (fuel + 1) listed a w := by
  refine wpAnyU_all hr (by simp) (fun j hj => ?_)
  obtain rfl : j = i := by simpa using hj
  unfold wpOp
  have hw : Region.wanted oi (yielded ops a.tmps) = true := by simp [Region.wanted, hg]
  simp only [hi, hw, if_true]
  exact .inl h
/-- The two operations that are ready (with a tail). -/
theorem wpAnyU_two {m i j : Nat} {oi oj : Oper} {fuel : Nat} {listed : Array Bool} {a : Act} {w : World} (hi : ops[i]? = some oi) (hj : ops[j]? = some oj) (gi : oi.guard = none) (gj : oj.guard = none) (hr : Region.ready md ops listed = [i, j])
    (h1 : Oper.wp P oi a w (fun a' w' => (m ≤ i ∨ S w') ∧ wpAnyU P md ops Q S m fuel (listed.setIfInBounds i true) a' w') Q)
    (h2 : Oper.wp P oj a w (fun a' w' => (m ≤ j ∨ S w') ∧ wpAnyU P md ops Q S m fuel (listed.setIfInBounds j true) a' w') Q) : wpAnyU P md ops Q S m (fuel + 1) listed a w := by
  refine wpAnyU_all hr (by simp) (fun k hk => ?_)
  have hk' : k = i ∨ k = j := by simpa using hk
  rcases hk' with rfl | rfl
  · unfold wpOp
    have hw : Region.wanted oi (yielded ops a.tmps) = true := by simp [Region.wanted, gi]
    simp only [hi, hw, if_true]
    exact .inl h1
  · unfold wpOp
    have hw : Region.wanted oj (yielded ops a.tmps) = true := by simp [Region.wanted, gj]
    simp only [hj, hw, if_true]
    exact .inl h2
/-- .. for a step law. -/
theorem wpAnyU_step {m i : Nat} {oi : Oper} {fuel : Nat} {listed : Array Bool} {a : Act} {w : World} (hi : ops[i]? = some oi) (hg : oi.guard = none) (hr : Region.ready md ops listed = [i])
    (h : if Region.wanted oi (yielded ops a.tmps) = true then Oper.wp P oi a w (fun a' w' => (m ≤ i ∨ S w') ∧ wpAnyU P md ops Q S m fuel (listed.setIfInBounds i true) a' w') Q else True) : wpAnyU P md ops Q S m (fuel + 1) listed a w := by
  refine wpAnyU_one hi hg hr ?_
  have hw : Region.wanted oi (yielded ops a.tmps) = true := by simp [Region.wanted, hg]
  rwa [if_pos hw] at h
theorem wpAnyU_done {m : Nat} {listed : Array Bool} {a : Act} {w : World} (hr : Region.ready md ops listed = []) (h : Q .normal a w) : ∀ fuel, wpAnyU P md ops Q S m fuel listed a w
  | 0 => ⟨hr, h⟩
  | _ + 1 => ⟨fun _ => h, by rw [hr]; simp⟩
theorem wp_region_U {id m : Nat} {a : Act} {w : World} (hm : P.follows .mixedOrders = true)
    (h : wpAnyU P .any ops Q S m ops.size (Array.replicate ops.size false) a w.drew) : (Code.region id ops true).wp P Q a w :=
  wp_region_any hm (wpAny_of_U _ _ _ _ h)
end
end Go.Proofs.Ythcpccddcgbanaa

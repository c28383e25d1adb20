/- Texts of one proof, merged: Mid, HeldU, Ch. -/
import Derived.Deep.MidRow
import Derived.Test.YtfihfjbakfadkaaGreatDoorMnA
import Derived.Test.YtfihfjbakfadkaaGreatDoorMnB
namespace Go.Proofs.YtfihfjbakfadkaaGreatDoor
open Go.RowKit
set_option linter.unusedVariables false

/-- Cells written one behind the other. -/
def setA (cs : Array Value) (o : Nat) : List Value → Array Value
  | [] => cs
  | v :: r => setA (cs.setIfInBounds o v) (o + 1) r
theorem setA_size : ∀ (vs : List Value) (cs : Array Value) (o : Nat), (setA cs o vs).size = cs.size
  | [], cs, o => rfl
  | v :: r, cs, o => by rw [setA, setA_size r]; simp
theorem setA_out : ∀ (vs : List Value) (cs : Array Value) (o k : Nat), (k < o ∨ o + vs.length ≤ k) → (setA cs o vs)[k]? = cs[k]?
  | [], cs, o, k, h => rfl
  | v :: r, cs, o, k, h => by
    rw [setA, setA_out r _ _ _ (by simp at h; omega), Array.getElem?_setIfInBounds_ne (by simp at h; omega)]
theorem setA_in : ∀ (vs : List Value) (cs : Array Value) (o j : Nat) (v : Value), vs[j]? = some v → o + j < cs.size → (setA cs o vs)[o + j]? = some v
  | [], cs, o, j, v, h, _ => by simp at h
  | u :: r, cs, o, 0, v, h, hl => by
    obtain rfl : u = v := by simpa using h
    rw [setA, setA_out r _ _ _ (by omega)]
    have hl' : o < cs.size := by omega
    show (cs.setIfInBounds o u)[o]? = some u
    simp [hl']
  | u :: r, cs, o, j + 1, v, h, hl => by
    have := setA_in r (cs.setIfInBounds o u) (o + 1) j v (by simpa using h) (by simp; omega)
    rw [setA, show o + (j + 1) = o + 1 + j by omega]
    exact this
theorem Blk.setCells {g : Nat} {t : TypeId} : ∀ (vs : List Value) (o : Nat) (cs : Array Value) (w : World), Blk w g t cs → Blk (w.setCells g o vs) g t (setA cs o vs)
  | [], o, cs, w, h => h
  | v :: r, o, cs, w, h => Blk.setCells r (o + 1) _ _ (h.set_ o v)
theorem Fr.setCells {g : Nat} {S : Nat → Prop} {a : World} : ∀ (vs : List Value) (o : Nat) (w : World), Fr S a w → (S g ∨ a.heap.size ≤ g) → Fr S a (w.setCells g o vs)
  | [], o, w, h, _ => h
  | v :: r, o, w, h, hs => Fr.setCells r (o + 1) _ (h.setCell (p := ⟨g, o, none⟩) hs v) hs
theorem new_there (w : World) (t : TypeId) (cs : Array Value) : (w.alloc (.cells cs t)).there w.heap.size 0 cs.size := by
  intro j hj
  have hb := Blk.new w t cs
  refine ⟨?_, hb.frozen _⟩
  rw [hb.cell, Nat.zero_add, Array.getElem?_eq_getElem hj]
  rfl
theorem new_copy (w : World) (t : TypeId) (zs : Array Value) (vs : List Value) (hz : zs.size = vs.length) : Blk ((w.alloc (.cells zs t)).setCells w.heap.size 0 vs) w.heap.size t vs.toArray ∧ Fr none_ w ((w.alloc (.cells zs t)).setCells w.heap.size 0 vs) := by
  refine ⟨?_, Fr.setCells _ _ _ ((Fr.refl none_ w).alloc _) (.inr (Nat.le_refl _))⟩
  have h := Blk.setCells vs 0 _ _ (Blk.new w t zs)
  have e : setA zs 0 vs = vs.toArray := by
    apply Array.ext_getElem?
    intro k
    rcases Nat.lt_or_ge k vs.length with h1 | h1
    · have := setA_in vs zs 0 k vs[k] (List.getElem?_eq_getElem h1) (by omega)
      rw [Nat.zero_add] at this
      rw [this, List.getElem?_toArray, List.getElem?_eq_getElem h1]
    · rw [Array.getElem?_eq_none (by rw [setA_size]; omega), Array.getElem?_eq_none (by simpa using h1)]
  rwa [e] at h
end Go.Proofs.YtfihfjbakfadkaaGreatDoor
namespace Go.Proofs.YtfihfjbakfadkaaGreatDoor
open Go

section
variable {P : Program} {md : Region.Mode} {ops : Array Oper} {Q : Exit → Act → World → Prop} {S : World → Prop}
/-- The two operations that are ready. -/
theorem wpAnyT_two {m i j : Nat} {oi oj : Oper} {fuel : Nat} {listed : Array Bool} {a : Act} {w : World} (hi : ops[i]? = some oi) (hj : ops[j]? = some oj) (gi : oi.guard = none) (gj : oj.guard = none) (hr : Region.ready md ops listed = [i, j])
    (h1 : Oper.wp P oi a w (fun a' w' => (i = m ∨ S w') ∧ wpAnyT P md ops Q S m fuel (listed.setIfInBounds i true) a' w') Q)
    (h2 : Oper.wp P oj a w (fun a' w' => (j = m ∨ S w') ∧ wpAnyT P md ops Q S m fuel (listed.setIfInBounds j true) a' w') Q) : wpAnyT P md ops Q S m (fuel + 1) listed a w := by
  refine wpAnyT_all hr (by simp) (fun k hk => ?_)
  have hk' : k = i ∨ k = j := by simpa using hk
  rcases hk' with rfl | rfl
  · unfold wpOp
    have hw : Region.wanted oi (yielded ops a.tmps) = true := by simp [Region.wanted, gi]
    simp only [hi, hw, if_true]
    exact .inl h1
  · unfold wpOp
    have hw : Region.wanted oj (yielded ops a.tmps) = true := by simp [Region.wanted, gj]
    simp only [hj, hw, if_true]
    exact .inl h2
def wpAnyU (P : Program) (md : Region.Mode) (ops : Array Oper) (Q : Exit → Act → World → Prop) (S : World → Prop) (m : Nat) : Nat → Array Bool → Act → World → Prop
  | 0, listed, a, w => Region.ready md ops listed = [] ∧ Q .normal a w
  | fuel + 1, listed, a, w =>
    (Region.ready md ops listed = [] → Q .normal a w) ∧
    ∀ i ∈ Region.ready md ops listed, wpOp P ops Q i (fun a' w' => (m ≤ i ∨ S w') ∧ wpAnyU P md ops Q S m fuel (listed.setIfInBounds i true) a' w') a w
theorem wpAny_of_U {m : Nat} : ∀ (fuel : Nat) (listed : Array Bool) (a : Act) (w : World), wpAnyU P md ops Q S m fuel listed a w → wpAny P md ops Q fuel listed a w
  | 0, _, _, _, h => h
  | fuel + 1, _, _, _, h => ⟨h.1, fun i hi => wpOp_mono (fun a' w' h' => wpAny_of_U fuel _ a' w' h'.2) (h.2 i hi)⟩
/-- As wpAnyU_first, where m waits for i by whatever way. -/
theorem wpAnyU_first2 {m i f : Nat} {oi : Oper} {v : Value} (hi : ops[i]? = some oi) (hsel : ∀ (j : Nat) (o : Oper) cs b, ops[j]? = some o → o.op ≠ .select cs b)
    (hQ : ∀ c a w, Q (.panic c) (a.put oi.dst v) w → Q (.panic c) a w) (hm : ∀ j, j < ops.size → m ≤ j → j ≠ i → waitsB md ops f j i = true) :
    ∀ (fuel : Nat) (listed : Array Bool) (a : Act) (w : World), Closed md ops listed →
      (∀ j oj, ops[j]? = some oj → j ≠ i → listed.getD j true = false → (∀ e ∈ oj.after, Region.binds md e = true → e.on ≠ i) → oi.apart ops oj = true) →
      i ∈ Region.ready md ops listed → YieldsIf P ops S oi v a → S w →
      wpAnyU P md ops Q S m fuel (listed.setIfInBounds i true) (a.put oi.dst v) w → wpAnyU P md ops Q S m (fuel + 1) listed a w := by
  intro fuel
  induction fuel with
  | zero =>
    intro listed a w hc _ hr hy hS H
    refine ⟨fun h => (by rw [h] at hr; cases hr), fun j hj => ?_⟩
    by_cases hji : j = i
    · subst hji; exact hy.wpOp hi hS ⟨.inr hS, H⟩
    · have := ready_mono hj hji
      rw [H.1] at this
      cases this
  | succ fuel ih =>
    intro listed a w hc hfree hr hy hS H
    refine ⟨fun h => (by rw [h] at hr; cases hr), fun j hj => ?_⟩
    by_cases hji : j = i
    · subst hji; exact hy.wpOp hi hS ⟨.inr hS, H⟩
    · have h1 := H.2 j (ready_mono hj hji)
      obtain ⟨hjun, oj, hoj, hall⟩ := mem_ready.1 hj
      have hnot : ∀ e ∈ oj.after, Region.binds md e = true → e.on ≠ i := fun e he hb heq => by
        have h1 := hall e he hb
        have h0 := (mem_ready.1 hr).1
        rw [heq] at h1
        rcases Nat.lt_or_ge i listed.size with h' | h'
        · simp [h'] at h0 h1; rw [h0] at h1; cases h1
        · simp [Array.getElem?_eq_none h'] at h1
      have hjm : ¬ m ≤ j := fun hmj => ready_waits hc hj (hm j (Array.getElem?_eq_some_iff.1 hoj).1 hmj hji) hr
      have h2 := wpOp_putIf hoj (hfree j oj hoj hji hjun hnot) (fun cs b => hsel i oi cs b hi) (fun cs b => hsel j oj cs b hoj) hQ hy h1
      have hfree' : ∀ k ok, ops[k]? = some ok → k ≠ i → (listed.setIfInBounds j true).getD k true = false →
          (∀ e ∈ ok.after, Region.binds md e = true → e.on ≠ i) → oi.apart ops ok = true := fun k ok hk hki hun hno => by
        refine hfree k ok hk hki ?_ hno
        by_cases hjk : j = k
        · subst hjk; exact hjun
        · rw [getD_set_ne true hjk] at hun; exact hun
      refine wpOp_mono (fun a' w' h3 => ?_) h2
      have hs : S w' := h3.2.1.resolve_left hjm
      refine ⟨.inr hs, ih (listed.setIfInBounds j true) a' w' (hc.set hj) hfree' (ready_mono hr (Ne.symm hji)) h3.1 hs ?_⟩
      rw [Array.setIfInBounds_comm _ _ hji]
      exact h3.2.2
theorem wpAnyU_take2 {m i : Nat} {oi : Oper} {v : Value} {fuel : Nat} {listed : Array Bool} {a : Act} {w : World} (hi : ops[i]? = some oi)
    (hs : Region.noSelect ops = true) (hf : Region.free md ops listed i = true) (hr : (Region.ready md ops listed).contains i = true)
    (hm : ((List.range ops.size).all (fun j => !decide (m ≤ j) || decide (j = i) || waitsB md ops ops.size j i) && closedB md ops listed) = true)
    (hQ : ∀ c a w, Q (.panic c) (a.put oi.dst v) w → Q (.panic c) a w) (hy : YieldsIf P ops S oi v a) (hS : S w)
    (h : wpAnyU P md ops Q S m fuel (listed.setIfInBounds i true) (a.put oi.dst v) w) : wpAnyU P md ops Q S m (fuel + 1) listed a w := by
  rw [Bool.and_eq_true] at hm
  exact wpAnyU_first2 hi (Region.noSelect_spec hs) hQ (fun j hj hmj hji => by have := List.all_eq_true.1 hm.1 j (List.mem_range.2 hj); simpa [hmj, hji] using this) fuel listed a w (closed_of hm.2) (Region.free_spec hi hf) (by simpa using hr) hy hS h
theorem wpAnyU_all {m : Nat} {rs : List Nat} {fuel : Nat} {listed : Array Bool} {a : Act} {w : World} (hr : Region.ready md ops listed = rs) (hne : rs ≠ [])
    (h : ∀ i ∈ rs, wpOp P ops Q i (fun a' w' => (m ≤ i ∨ S w') ∧ wpAnyU P md ops Q S m fuel (listed.setIfInBounds i true) a' w') a w) : wpAnyU P md ops Q S m (fuel + 1) listed a w :=
  ⟨fun h0 => absurd (hr ▸ h0) hne, hr ▸ h⟩
/-- The one operation that is ready. -/
theorem wpAnyU_one {m i : Nat} {oi : Oper} {fuel : Nat} {listed : Array Bool} {a : Act} {w : World} (hi : ops[i]? = some oi) (hg : oi.guard = none) (hr : Region.ready md ops listed = [i])
    (h : Oper.wp P oi a w (fun a' w' => (m ≤ i ∨ S w') ∧ wpAnyU P md ops Q S m fuel (listed.setIfInBounds i true) a' w') Q) : wpAnyU P md ops Q S m (fuel + 1) listed a w := by
  refine wpAnyU_all hr (by simp) (fun j hj => ?_)
  obtain rfl : j = i := by simpa using hj
  unfold wpOp
  have hw : Region.wanted oi (yielded ops a.tmps) = true := by simp [Region.wanted, hg]
  simp only [hi, hw, if_true]
  exact .inl h
/-- The two operations that are ready (with a tail). -/
theorem wpAnyU_two {m i j : Nat} {oi oj : Oper} {fuel : Nat} {listed : Array Bool} {a : Act} {w : World} (hi : ops[i]? = some oi) (hj : ops[j]? = some oj) (gi : oi.guard = none) (gj : oj.guard = none) (hr : Region.ready md ops listed = [i, j])
    (h1 : Oper.wp P oi a w (fun a' w' => (m ≤ i ∨ S w') ∧ wpAnyU P md ops Q S m fuel (listed.setIfInBounds i true) a' w') Q)
    (h2 : Oper.wp P oj a w (fun a' w' => (m ≤ j ∨ S w') ∧ wpAnyU P md ops Q S m fuel (listed.setIfInBounds j true) a' w') Q) : wpAnyU P md ops Q S m (fuel + 1) listed a w := by
  refine wpAnyU_all hr (by simp) (fun k hk => ?_)
  have hk' : k = i ∨ k = j := by simpa using hk
  rcases hk' with rfl | rfl
  · unfold wpOp
    have hw : Region.wanted oi (yielded ops a.tmps) = true := by simp [Region.wanted, gi]
    simp only [hi, hw, if_true]
    exact .inl h1
  · unfold wpOp
    have hw : Region.wanted oj (yielded ops a.tmps) = true := by simp [Region.wanted, gj]
    simp only [hj, hw, if_true]
    exact .inl h2
theorem wpAnyU_done {m : Nat} {listed : Array Bool} {a : Act} {w : World} (hr : Region.ready md ops listed = []) (h : Q .normal a w) : ∀ fuel, wpAnyU P md ops Q S m fuel listed a w
  | 0 => ⟨hr, h⟩
  | _ + 1 => ⟨fun _ => h, by rw [hr]; simp⟩
theorem wp_region_U {id m : Nat} {a : Act} {w : World} (hm : P.follows .mixedOrders = true)
    (h : wpAnyU P .any ops Q S m ops.size (Array.replicate ops.size false) a w.drew) : (Code.region id ops true).wp P Q a w :=
  wp_region_any hm (wpAny_of_U _ _ _ _ h)
end
end Go.Proofs.YtfihfjbakfadkaaGreatDoor
namespace Go.Proofs.YtfihfjbakfadkaaGreatDoor
open Go.RowKit
set_option maxRecDepth 100000
set_option linter.unusedVariables false

/-- A record in a list: what its slices are. -/
structure Ch where
  R : Rc
  A : Option Addr
  c : Nat
  B : Option Addr
  d : Nat
abbrev recL (C : Ch) : List Value := [.int .i64 C.R.kind, .string C.R.low, .string C.R.high, .bool C.R.unb, .int .i64 C.R.right, .slice C.A C.R.rows.length C.c, .slice C.B C.R.ents.length C.d, .string C.R.key, .string C.R.val, .int .i64 C.R.page, .int .i64 C.R.hpage, .int .i64 C.R.hleft, .string C.R.hkey, .int .i64 C.R.nslot, .int .i64 C.R.ngen]
structure ChOk (w : World) (C : Ch) : Prop where
  rd : RecReads w C.R C.A C.B
  low : SzOk C.R.low
  high : SzOk C.R.high
  key : SzOk C.R.key
  hkey : SzOk C.R.hkey
  ents : EtsOk C.R.ents
  cap : C.R.ents.length ≤ C.d
  capm : C.d ≤ maxLen
theorem ChOk.keep {w w' : World} {C : Ch} (h : ChOk w C) (hf : Fr none_ w w') : ChOk w' C := ⟨h.rd.keep hf, h.low, h.high, h.key, h.hkey, h.ents, h.cap, h.capm⟩
def ChReads (w : World) (A : Option Addr) (n : Nat) (L : List Ch) : Prop :=
  L.length = n ∧ (0 < n → ∃ b off, A = some ⟨b, off, none⟩ ∧ b < w.heap.size ∧ ∀ (k : Nat) (C : Ch), L[k]? = some C → w.rangeAt b (off + k * 15) (recL C) ∧ ChOk w C)
theorem ChReads.keep {w w' : World} {A : Option Addr} {n : Nat} {L : List Ch} (h : ChReads w A n L) (hf : Fr none_ w w') : ChReads w' A n L :=
  ⟨h.1, fun hn => by
    obtain ⟨b, off, hA, hb, hc⟩ := h.2 hn
    exact ⟨b, off, hA, by have := hf.size; omega, fun k C hC => ⟨fun j v hv => cellFr ((hc k C hC).1 j v hv) hf, (hc k C hC).2.keep hf⟩⟩⟩
theorem ChReads.at_ {w : World} {A : Option Addr} {n : Nat} {L : List Ch} (h : ChReads w A n L) {k : Nat} {C : Ch} (hC : L[k]? = some C) : ∃ b off, A = some ⟨b, off, none⟩ ∧ b < w.heap.size ∧ w.rangeAt b (off + k * 15) (recL C) ∧ ChOk w C := by
  obtain ⟨b, off, hA, hb, hc⟩ := h.2 (by have := (List.getElem?_eq_some_iff.1 hC).1; have := h.1; omega)
  exact ⟨b, off, hA, hb, hc k C hC⟩
abbrev recZ8 : Array Value := #[.int .i64 0, .string ⟨#[]⟩, .string ⟨#[]⟩, .bool false, .int .i64 0, .slice none 0 0, .slice none 0 0, .string ⟨#[]⟩, .string ⟨#[]⟩, .int .i64 0, .int .i64 0, .int .i64 0, .string ⟨#[]⟩, .int .i64 0, .int .i64 0]
theorem rec_one (C : Ch) : (recL C).toArray.all (·.oneCell') = true := by simp [Value.oneCell']
theorem rec_size8 : (Tryz.prog.info? 33).map (·.size) = some 15 := by kernel_rfl

/-- A view's box is none of its entries' rows. -/
theorem VwIn.far {w w' : World} {V V0 : Vw} {A : Option Addr} {c X : Nat} {ve : Value} (h : VwIn w V A c) (hX : Blk w X 38 (vwA V0 ve)) (hf : Fr (only X) w w') : VwIn w' V A c := by
  refine ⟨?_, h.cap, h.capm, h.ok⟩
  rcases Nat.eq_zero_or_pos V.ents.length with h0 | h0
  · exact ⟨h.rd.1, fun hn => absurd hn (by omega)⟩
  · obtain ⟨p, hp⟩ : ∃ p, V.ents[0]? = some p := ⟨_, List.getElem?_eq_getElem h0⟩
    obtain ⟨b, off, rfl, hb, c0, c1⟩ := et_at h.rd hp
    refine h.rd.fr hf (fun ad e => ?_)
    cases e
    intro e
    have e' : b = X := e
    subst e'
    rw [hX.cell] at c0 c1
    simp only [Nat.zero_mul, Nat.add_zero] at c0 c1
    match off, c0, c1 with
    | 0, c0, c1 => simp at c1
    | 1, c0, c1 => simp at c1
    | 2, c0, c1 => simp at c0
    | 3, c0, c1 => simp at c0
    | 4, c0, c1 =>
      have e : ve = .string p.1 := by simpa using c0
      simp at c1
    | 5, c0, c1 => simp at c0
    | 6, c0, c1 => simp at c0
    | 7, c0, c1 => simp at c0
    | 8, c0, c1 => simp at c1
    | k + 9, c0, c1 => simp at c0
def baseV (R : Rc) : Vw := ⟨R.low, R.high, R.unb, R.right, R.ents, false, 0, 0, nilS⟩
open Classical in
/-- What a chain is: the last record is the base, the others stand above it. -/
noncomputable def foldU : List Rc → Option Vw
  | [] => none
  | [b] => if b.kind = 7 ∧ Sound (baseV b) then some (baseV b) else none
  | r :: s :: t => (foldU (s :: t)).bind fun V => upM V r
theorem foldU_cons (r : Rc) {l : List Rc} (h : l ≠ []) : foldU (r :: l) = (foldU l).bind fun V => upM V r := by
  cases l with
  | nil => exact absurd rfl h
  | cons s t => rfl
theorem foldU_none {l : List Rc} {j : Nat} (hj : j < l.length) (h : foldU (l.drop j) = none) : ∀ k, k ≤ j → foldU (l.drop k) = none := by
  have step : ∀ d k, k + d = j → foldU (l.drop k) = none := by
    intro d
    induction d with
    | zero =>
      intro k e
      have e' : k = j := by omega
      rw [e']
      exact h
    | succ d ih =>
      intro k e
      have := ih (k + 1) (by omega)
      rw [List.drop_eq_getElem_cons (by omega : k < l.length), foldU_cons _ (by intro e; have := congrArg List.length e; simp at this; omega), this]
      rfl
  intro k hk
  exact step (j - k) k (by omega)
theorem foldU_last {l : List Rc} {m : Nat} {D : Rc} (hm : l.length = m + 1) (hD : l[m]? = some D) : l.drop m = [D] := by
  rw [List.drop_eq_getElem_cons (by omega), List.drop_eq_nil_of_le (by omega)]
  have := (List.getElem?_eq_some_iff.1 hD).2
  rw [this]
theorem foldU_one (D : Rc) (h : D.kind = 7) (hs : Sound (baseV D)) : foldU [D] = some (baseV D) := if_pos ⟨h, hs⟩
theorem foldU_one_no (D : Rc) (h : ¬ (D.kind = 7 ∧ Sound (baseV D))) : foldU [D] = none := if_neg h
def KindOk (R : Rc) : Prop := 7 ≤ R.kind ∧ R.kind ≤ 11
/-- What is held has an entry. -/
def HeldOk (V : Vw) : Prop := V.held = true → plN V.ents V.hk < V.ents.length
theorem up_held {V V' : Vw} {R : Rc} (h : upM V R = some V') (hh : HeldOk V) : HeldOk V' := by
  unfold upM at h
  intro hv
  split at h
  · split at h
    · cases h
    · rename_i h8 _
      cases h
      have e : V.held = true := hv
      rw [h8.2] at e
      cases e
  · split at h
    · split at h
      · cases h
      · rename_i h9 _
        cases h
        have e : V.held = true := hv
        rw [h9.2] at e
        cases e
    · split at h
      · split at h
        · cases h
        · rename_i hn
          cases h
          have : atB V.ents R.hkey = true := by
            cases e : atB V.ents R.hkey with
            | true => rfl
            | false => exact absurd (.inl e) hn
          exact atB_lt this
      · split at h
        · cases h; cases hv
        · cases h
theorem up_len {V V' : Vw} {R : Rc} (h : upM V R = some V') : V'.ents.length ≤ V.ents.length + 1 := by
  unfold upM at h
  split at h
  · split at h
    · cases h
    · cases h
      show (putL _ _ _).length ≤ _
      rw [putL_len _ (plN_le _ _)]
      omega
  · split at h
    · split at h
      · cases h
      · cases h; show (List.take _ _).length ≤ _; simp; omega
    · split at h
      · split at h
        · cases h
        · cases h; show V.ents.length ≤ _; omega
      · split at h
        · cases h; show (List.take _ _ ++ List.drop _ _).length ≤ _; simp; omega
        · cases h
theorem base_held (R : Rc) : HeldOk (baseV R) := fun h => by cases h
end Go.Proofs.YtfihfjbakfadkaaGreatDoor

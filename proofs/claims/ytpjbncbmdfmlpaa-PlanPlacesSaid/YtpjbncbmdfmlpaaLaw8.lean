/- Plain laws of inner views: what a fold keeps; children. -/
import Derived.Test.YtpjbncbmdfmlpaaFold
import Derived.Test.YtpjbncbmdfmlpaaChild
namespace Go.Proofs.Ytpjbncbmdfmlpaa
open Go.RowKit
set_option linter.unusedVariables false

def Ris (L : List Et) : Prop := ∀ (i : Nat) (p q : Et), L[i]? = some p → L[i + 1]? = some q → ltS p.1 q.1 = true
theorem lt_of_some {α : Type} {L : List α} {i : Nat} {p : α} (h : L[i]? = some p) : i < L.length := (List.getElem?_eq_some_iff.1 h).1
theorem some_of_lt {α : Type} {L : List α} {i : Nat} (h : i < L.length) : ∃ p, L[i]? = some p := ⟨_, List.getElem?_eq_getElem h⟩
theorem Ris.lt {L : List Et} (h : Ris L) : ∀ {i j : Nat} {p q : Et}, i < j → L[i]? = some p → L[j]? = some q → ltS p.1 q.1 = true := by
  intro i j p q hij hp hq
  induction j generalizing q with
  | zero => omega
  | succ j ih =>
    obtain ⟨r, hr⟩ := some_of_lt (L := L) (i := j) (by have := lt_of_some hq; omega)
    have h2 := h j r q hr hq
    rcases Nat.lt_or_ge i j with h1 | h1
    · exact ltS_trans (ih h1 hr) h2
    · obtain rfl : i = j := by omega
      rw [hp] at hr
      cases hr
      exact h2
theorem plN_uniq {L : List Et} {key : ByteArray} {n : Nat} (h1 : ∀ (i : Nat) (p : Et), i < n → L[i]? = some p → ltS p.1 key = true) (h2 : n = L.length ∨ ∃ p, L[n]? = some p ∧ ltS p.1 key = false) : plN L key = n := by
  rcases Nat.lt_trichotomy (plN L key) n with h | h | h
  · obtain ⟨p, hp⟩ := some_of_lt (L := L) (i := plN L key) (by
      rcases h2 with e | ⟨p, hp, _⟩
      · omega
      · have := lt_of_some hp; omega)
    have a := h1 _ _ h hp
    rw [plN_at hp] at a
    cases a
  · exact h
  · rcases h2 with e | ⟨p, hp, hn⟩
    · have := plN_le L key; omega
    · have := plN_in h hp
      rw [hn] at this
      cases this
theorem atB_ex {L : List Et} {key : ByteArray} (h : atB L key = true) : ∃ p, L[plN L key]? = some p ∧ p.1 = key := by
  obtain ⟨p, hp⟩ := some_of_lt (atB_lt h)
  rw [atB_some hp] at h
  exact ⟨p, hp, sEq_iff.1 h⟩
theorem Ris.at {L : List Et} (h : Ris L) {i : Nat} {p : Et} (hp : L[i]? = some p) : plN L p.1 = i ∧ atB L p.1 = true := by
  have e : plN L p.1 = i := plN_uniq (fun j q hj hq => h.lt hj hq hp) (.inr ⟨p, hp, ltS_irrefl _⟩)
  exact ⟨e, by rw [atB_some (p := p) (by rw [e]; exact hp)]; exact sEq_self _⟩
/-- No entry of just that key: all from its place on are behind it. -/
theorem Ris.behind {L : List Et} (h : Ris L) {key : ByteArray} (hn : atB L key = false) {j : Nat} {q : Et} (hj : plN L key ≤ j) (hq : L[j]? = some q) : ltS key q.1 = true := by
  obtain ⟨p, hp⟩ := some_of_lt (L := L) (i := plN L key) (by have := lt_of_some hq; omega)
  have h1 := plN_at hp
  have h2 : p.1 ≠ key := fun e => by
    rw [atB_some hp, sEq_iff.2 e] at hn
    cases hn
  have h3 : ltS key p.1 = true := by
    rcases ltS_total p.1 key with h | h | h
    · rw [h1] at h; cases h
    · exact absurd h h2
    · exact h
  rcases Nat.lt_or_ge (plN L key) j with hl | hl
  · exact ltS_trans h3 (h.lt hl hp hq)
  · obtain rfl : plN L key = j := by omega
    rw [hp] at hq
    cases hq
    exact h3

theorem putL_get {L : List Et} {n : Nat} {p : Et} (hn : n ≤ L.length) (i : Nat) : (putL L n p)[i]? = if i < n then L[i]? else if i = n then some p else L[i - 1]? := by
  unfold putL
  by_cases h1 : i < n
  · rw [if_pos h1, List.append_assoc, List.getElem?_append_left (by simp; omega), List.getElem?_take, if_pos h1]
  · rw [if_neg h1]
    by_cases h2 : i = n
    · subst h2
      rw [if_pos rfl, List.append_assoc, List.getElem?_append_right (by simp; omega)]
      simp [Nat.min_eq_left hn]
    · rw [if_neg h2, List.getElem?_append_right (by simp; omega), List.getElem?_drop]
      congr 1
      simp
      omega
def cutL (L : List Et) (n : Nat) : List Et := L.take n ++ L.drop (n + 1)
theorem cutL_get {L : List Et} {n : Nat} (hn : n ≤ L.length) (i : Nat) : (cutL L n)[i]? = if i < n then L[i]? else L[i + 1]? := by
  unfold cutL
  by_cases h1 : i < n
  · rw [if_pos h1, List.getElem?_append_left (by simp; omega), List.getElem?_take, if_pos h1]
  · rw [if_neg h1, List.getElem?_append_right (by simp; omega), List.getElem?_drop]
    congr 1
    simp
    omega
theorem Ris.put {L : List Et} (h : Ris L) {key : ByteArray} {pg : Int} (hn : atB L key = false) : Ris (putL L (plN L key) (key, pg)) := by
  intro i p q hp hq
  have hle := plN_le L key
  rw [putL_get hle] at hp hq
  by_cases h1 : i + 1 < plN L key
  · rw [if_pos (by omega)] at hp
    rw [if_pos h1] at hq
    exact h i p q hp hq
  · rw [if_neg h1] at hq
    by_cases h2 : i + 1 = plN L key
    · rw [if_pos h2] at hq
      rw [if_pos (by omega)] at hp
      obtain rfl : (key, pg) = q := Option.some.inj hq
      have h4 : i < plN L key := by omega
      exact plN_in h4 hp
    · rw [if_neg h2] at hq
      rw [if_neg (by omega)] at hp
      have hle2 : plN L key ≤ i := by omega
      by_cases h3 : i = plN L key
      · rw [if_pos h3] at hp
        obtain rfl : (key, pg) = p := Option.some.inj hp
        exact h.behind hn (j := i + 1 - 1) (show plN L key ≤ i + 1 - 1 by rw [Nat.add_sub_cancel]; exact hle2) hq
      · rw [if_neg h3] at hp
        exact h (i - 1) p q hp (by rw [show i - 1 + 1 = i + 1 - 1 by omega]; exact hq)
theorem Ris.cut {L : List Et} (h : Ris L) {n : Nat} (hn : n ≤ L.length) : Ris (cutL L n) := by
  intro i p q hp hq
  rw [cutL_get hn] at hp hq
  by_cases h1 : i + 1 < n
  · rw [if_pos (by omega)] at hp
    rw [if_pos h1] at hq
    exact h i p q hp hq
  · rw [if_neg h1] at hq
    by_cases h2 : i < n
    · rw [if_pos h2] at hp
      exact h.lt (by omega) hp hq
    · rw [if_neg h2] at hp
      exact h (i + 1) p q hp hq
theorem Ris.take {L : List Et} (h : Ris L) (n : Nat) : Ris (L.take n) := by
  intro i p q hp hq
  rw [List.getElem?_take] at hp hq
  split at hp
  · split at hq
    · exact h i p q hp hq
    · cases hq
  · cases hp
theorem Ris.drop {L : List Et} (h : Ris L) (n : Nat) : Ris (L.drop n) := by
  intro i p q hp hq
  rw [List.getElem?_drop] at hp hq
  exact h (n + i) p q hp hq

theorem inS_iff {low high : ByteArray} {unb : Bool} {key : ByteArray} : inS low high unb key = true ↔ ltS key low = false ∧ (unb = true ∨ ltS key high = true) := by
  unfold inS
  cases ltS key low <;> cases unb <;> simp
theorem Sound.rise {V : Vw} (h : Sound V) : Ris V.ents := h.ris
theorem Sound.pos {V : Vw} (h : Sound V) : 0 < V.ents.length := by
  obtain ⟨p, hp, _⟩ := h.head
  exact lt_of_some hp

structure Good (V : Vw) : Prop where
  s : Sound V
  h : V.held = true → atB V.ents V.hk = true ∧ plN V.ents V.hk ≠ 0
theorem pl_low {V : Vw} (h : Sound V) {key : ByteArray} (hi : inS V.low V.high V.unb key = true) (hn : atB V.ents key = false) : plN V.ents key ≠ 0 := by
  intro e
  obtain ⟨p, hp, hl⟩ := h.head
  have := h.rise.behind hn (j := 0) (by omega) hp
  rw [hl] at this
  rw [(inS_iff.1 hi).1] at this
  cases this
theorem sound_put {V : Vw} (h : Sound V) {key : ByteArray} {pg : Int} (hi : inS V.low V.high V.unb key = true) (hn : atB V.ents key = false) : Sound { V with ents := putL V.ents (plN V.ents key) (key, pg) } := by
  have h0 := pl_low h hi hn
  refine ⟨?_, h.high, fun p hp => ?_, h.rise.put hn⟩
  · obtain ⟨p, hp, hl⟩ := h.head
    exact ⟨p, by show (putL _ _ _)[0]? = _; rw [putL_get (plN_le _ _), if_pos (by omega)]; exact hp, hl⟩
  · simp only [putL, List.mem_append, List.mem_cons, List.not_mem_nil, or_false] at hp
    rcases hp with (hp | rfl) | hp
    · exact h.inn p (List.mem_of_mem_take hp)
    · exact hi
    · exact h.inn p (List.mem_of_mem_drop hp)
theorem sound_cut {V : Vw} (h : Sound V) {n : Nat} (h0 : n ≠ 0) (hn : n ≤ V.ents.length) : Sound { V with ents := cutL V.ents n } := by
  refine ⟨?_, h.high, fun p hp => ?_, h.rise.cut hn⟩
  · obtain ⟨p, hp, hl⟩ := h.head
    exact ⟨p, by show (cutL _ _)[0]? = _; rw [cutL_get hn, if_pos (by omega)]; exact hp, hl⟩
  · simp only [cutL, List.mem_append] at hp
    rcases hp with hp | hp
    · exact h.inn p (List.mem_of_mem_take hp)
    · exact h.inn p (List.mem_of_mem_drop hp)
/-- The left part of a view. -/
theorem sound_left {V : Vw} (h : Sound V) {n : Nat} {q : Et} (h0 : n ≠ 0) (hq : V.ents[n]? = some q) : Sound { V with ents := V.ents.take n, high := q.1, unb := false } := by
  refine ⟨?_, fun e => by (cases e), fun p hp => ?_, h.rise.take n⟩
  · obtain ⟨p, hp, hl⟩ := h.head
    exact ⟨p, by show (List.take _ _)[0]? = _; rw [List.getElem?_take, if_pos (by omega)]; exact hp, hl⟩
  · obtain ⟨i, hi⟩ := List.mem_iff_getElem?.1 hp
    rw [List.getElem?_take] at hi
    split at hi
    · have := h.inn p (List.mem_of_getElem? hi)
      exact inS_iff.2 ⟨(inS_iff.1 this).1, .inr (h.rise.lt (by omega) hi hq)⟩
    · cases hi
theorem sound_right {V : Vw} (h : Sound V) {n : Nat} {q : Et} (hq : V.ents[n]? = some q) : Sound { V with low := q.1, ents := V.ents.drop n } := by
  refine ⟨⟨q, by show (List.drop _ _)[0]? = _; rw [List.getElem?_drop]; exact hq, rfl⟩, h.high, fun p hp => ?_, h.rise.drop n⟩
  obtain ⟨i, hi⟩ := List.mem_iff_getElem?.1 hp
  rw [List.getElem?_drop] at hi
  have := h.inn p (List.mem_of_getElem? hi)
  refine inS_iff.2 ⟨?_, (inS_iff.1 this).2⟩
  rcases Nat.eq_zero_or_pos i with e | e
  · subst e
    rw [Nat.add_zero, hq] at hi
    cases hi
    exact ltS_irrefl _
  · exact ltS_asymm (h.rise.lt (by omega) hq hi)

theorem up_good {V V' : Vw} {R : Rc} (h : upM V R = some V') (g : Good V) : Good V' := by
  unfold upM at h
  split at h
  · rename_i h8
    split at h
    · cases h
    · rename_i hn
      cases h
      have h1 : atB V.ents R.key = false := by
        cases e : atB V.ents R.key with
        | false => rfl
        | true => exact absurd (.inl e) hn
      have h2 : inS V.low V.high V.unb R.key = true := by
        cases e : inS V.low V.high V.unb R.key with
        | true => rfl
        | false => exact absurd (.inr e) hn
      exact ⟨sound_put g.s h2 h1, fun e => by
        have e : V.held = true := e
        rw [h8.2] at e
        cases e⟩
  · split at h
    · rename_i h9
      split at h
      · cases h
      · rename_i hn
        cases h
        have h1 : atB V.ents R.key = true := by
          cases e : atB V.ents R.key with
          | true => rfl
          | false => exact absurd (.inl e) hn
        have h2 : plN V.ents R.key ≠ 0 := fun e => hn (.inr e)
        obtain ⟨q, hq, e⟩ := atB_ex h1
        have := sound_left g.s h2 hq
        rw [e] at this
        exact ⟨⟨this.head, fun e => by (cases e), this.inn, this.ris⟩, fun e => by
          have e : V.held = true := e
          rw [h9.2] at e
          cases e⟩
    · split at h
      · split at h
        · cases h
        · rename_i hn
          cases h
          have h1 : atB V.ents R.hkey = true := by
            cases e : atB V.ents R.hkey with
            | true => rfl
            | false => exact absurd (.inl e) hn
          exact ⟨⟨g.s.head, g.s.high, g.s.inn, g.s.ris⟩, fun _ => ⟨h1, fun e => hn (.inr (.inl e))⟩⟩
      · split at h
        · rename_i h11
          cases h
          obtain ⟨h1, h2⟩ := g.h h11.2
          have := sound_cut g.s h2 (plN_le V.ents V.hk)
          exact ⟨⟨this.head, this.high, this.inn, this.ris⟩, fun e => by (cases e)⟩
        · cases h
theorem fold_good : ∀ {l : List Rc} {V : Vw}, foldU l = some V → Good V
  | [], V, h => by (cases h)
  | [b], V, h => by
    simp only [foldU] at h
    split at h
    · rename_i hs
      cases h
      exact ⟨hs.2, fun e => by (cases e)⟩
    · cases h
  | r :: s :: t, V, h => by
    rw [foldU_cons r (by simp)] at h
    obtain ⟨U, hU, hV⟩ := Option.bind_eq_some_iff.1 h
    exact up_good hV (fold_good hU)

theorem fold_len {b : Nat} : ∀ {l : List Rc} {V : Vw}, foldU l = some V → (∀ R ∈ l, R.ents.length ≤ b) → V.ents.length ≤ b + l.length
  | [], V, h, _ => by (cases h)
  | [r], V, h, hb => by
    simp only [foldU] at h
    split at h
    · cases h
      have := hb r (by simp)
      show r.ents.length ≤ _
      simp
      omega
    · cases h
  | r :: s :: t, V, h, hb => by
    rw [foldU_cons r (by simp)] at h
    obtain ⟨U, hU, hV⟩ := Option.bind_eq_some_iff.1 h
    have h1 := fold_len hU (fun R hR => hb R (List.mem_cons_of_mem _ hR))
    have h2 := up_len hV
    simp only [List.length_cons] at h1 ⊢
    omega

/-! ### Children -/
def ChildAt (L : List Et) (key : ByteArray) (i : Nat) (p : Et) : Prop := L[i]? = some p ∧ ltS key p.1 = false ∧ ∀ q, L[i + 1]? = some q → ltS key q.1 = true
theorem Ris.nd {L : List Et} (h : Ris L) {key : ByteArray} {i : Nat} {p : Et} (hc : ChildAt L key i p) : ndN L key = i + 1 := by
  obtain ⟨hp, h1, h2⟩ := hc
  by_cases e : p.1 = key
  · subst e
    obtain ⟨a, b⟩ := h.at hp
    unfold ndN
    rw [a, if_pos b]
  · have hlt : ltS p.1 key = true := by
      rcases ltS_total p.1 key with h | h | h
      · exact h
      · exact absurd h e
      · rw [h1] at h; cases h
    have hpl : plN L key = i + 1 := plN_uniq (fun j q hj hq => by
      rcases Nat.lt_or_ge j i with hl | hl
      · exact ltS_trans (h.lt hl hq hp) hlt
      · obtain rfl : j = i := by omega
        rw [hp] at hq
        cases hq
        exact hlt) (by
      rcases Nat.lt_or_ge (i + 1) L.length with hl | hl
      · obtain ⟨q, hq⟩ := some_of_lt hl
        exact .inr ⟨q, hq, ltS_asymm (h2 q hq)⟩
      · have := lt_of_some hp
        exact .inl (by omega))
    have hat : atB L key = false := by
      cases ea : atB L key with
      | false => rfl
      | true =>
        obtain ⟨q, hq, hk⟩ := atB_ex ea
        rw [hpl] at hq
        have := h2 q hq
        rw [hk, ltS_irrefl] at this
        cases this
    unfold ndN
    rw [hpl, hat]
    rfl
theorem Ris.child {L : List Et} (h : Ris L) {key : ByteArray} {i : Nat} {p : Et} (hn : ndN L key = i + 1) (hp : L[i]? = some p) : ChildAt L key i p := by
  unfold ndN at hn
  split at hn
  · rename_i ha
    obtain ⟨q, hq, e⟩ := atB_ex ha
    obtain rfl : plN L key = i := by omega
    rw [hq] at hp
    cases hp
    exact ⟨hq, by rw [e]; exact ltS_irrefl _, fun r hr => by rw [← e]; exact h _ _ _ hq hr⟩
  · rename_i ha
    have ha : atB L key = false := by simpa using ha
    exact ⟨hp, ltS_asymm (plN_in (by omega) hp), fun q hq => h.behind ha (by omega) hq⟩
theorem Sound.child {V : Vw} (h : Sound V) {key : ByteArray} (hi : inS V.low V.high V.unb key = true) : ∃ i p, ChildAt V.ents key i p ∧ childM V key = some p := by
  have h0 : ndN V.ents key ≠ 0 := by
    unfold ndN
    split
    · omega
    · rename_i ha
      have := pl_low h hi (by simpa using ha)
      omega
  obtain ⟨p, hp⟩ := some_of_lt (L := V.ents) (i := ndN V.ents key - 1) (by have := ndN_le V.ents key; omega)
  refine ⟨ndN V.ents key - 1, p, h.rise.child (by omega) hp, ?_⟩
  unfold childM
  rw [if_pos ⟨hi, h0⟩]
  exact hp
theorem Sound.child_is {V : Vw} (h : Sound V) {key : ByteArray} {i : Nat} {p : Et} (hi : inS V.low V.high V.unb key = true) (hc : ChildAt V.ents key i p) : childM V key = some p := by
  unfold childM
  rw [if_pos ⟨hi, by rw [h.rise.nd hc]; omega⟩, h.rise.nd hc]
  exact hc.1
theorem childM_out {V : Vw} {key : ByteArray} (h : inS V.low V.high V.unb key = false) : childM V key = none := by
  unfold childM
  rw [if_neg (by rw [h]; simp)]
theorem childM_in {V : Vw} {key : ByteArray} {p : Et} (h : childM V key = some p) : inS V.low V.high V.unb key = true := by
  cases e : inS V.low V.high V.unb key with
  | true => rfl
  | false => rw [childM_out e] at h; cases h
theorem Sound.child_none {V : Vw} (h : Sound V) {key : ByteArray} (hn : childM V key = none) : inS V.low V.high V.unb key = false := by
  cases e : inS V.low V.high V.unb key with
  | false => rfl
  | true =>
    obtain ⟨i, p, _, hp⟩ := h.child e
    rw [hn] at hp
    cases hp
theorem Sound.child_at {V : Vw} (h : Sound V) {key : ByteArray} {p : Et} (hc : childM V key = some p) : ∃ i, ChildAt V.ents key i p := by
  obtain ⟨i, q, h1, h2⟩ := h.child (childM_in hc)
  rw [hc] at h2
  cases h2
  exact ⟨i, h1⟩

theorem upM_put {V : Vw} {R : Rc} (h : R.kind = 8) (hh : V.held = false) (hn : ¬ (atB V.ents R.key = true ∨ inS V.low V.high V.unb R.key = false)) : upM V R = some { V with ents := putL V.ents (plN V.ents R.key) (R.key, R.page) } := by
  unfold upM
  rw [if_pos ⟨h, hh⟩, if_neg hn]
theorem upM_put_no {V : Vw} {R : Rc} (h : R.kind = 8) (hn : atB V.ents R.key = true ∨ V.held = true) : upM V R = none := by
  unfold upM
  by_cases hh : V.held = false
  · rw [if_pos ⟨h, hh⟩, if_pos]
    rcases hn with hn | hn
    · exact .inl hn
    · rw [hh] at hn; cases hn
  · rw [if_neg (fun e => hh e.2), if_neg (fun e => hh e.2), if_neg (fun e => hh e.2), if_neg (fun e => by have := e.1; rw [h] at this; revert this; decide)]
theorem upM_split {V : Vw} {R : Rc} (h : R.kind = 9) (hh : V.held = false) (hn : ¬ (atB V.ents R.key = false ∨ plN V.ents R.key = 0)) : upM V R = some { V with ents := V.ents.take (plN V.ents R.key), high := R.key, unb := false, right := R.page } := by
  unfold upM
  rw [if_neg (fun e => by have := e.1; rw [h] at this; revert this; decide), if_pos ⟨h, hh⟩, if_neg hn]
theorem upM_hold {V : Vw} {R : Rc} (h : R.kind = 10) (hh : V.held = false) (hn : ¬ (atB V.ents R.hkey = false ∨ plN V.ents R.hkey = 0 ∨ (V.ents[plN V.ents R.hkey]?.map (·.2)) ≠ some R.hpage ∨ (V.ents[plN V.ents R.hkey - 1]?.map (·.2)) ≠ some R.hleft)) :
    upM V R = some { V with held := true, hp := R.hpage, hl := R.hleft, hk := R.hkey } := by
  unfold upM
  rw [if_neg (fun e => by have := e.1; rw [h] at this; revert this; decide), if_neg (fun e => by have := e.1; rw [h] at this; revert this; decide), if_pos ⟨h, hh⟩, if_neg hn]
theorem upM_drop {V : Vw} {R : Rc} (h : R.kind = 11) (hh : V.held = true) :
    upM V R = some { V with ents := V.ents.take (plN V.ents V.hk) ++ V.ents.drop (plN V.ents V.hk + 1), held := false, hp := 0, hl := 0, hk := nilS } := by
  unfold upM
  rw [if_neg (fun e => by have := e.1; rw [h] at this; revert this; decide), if_neg (fun e => by have := e.1; rw [h] at this; revert this; decide), if_neg (fun e => by have := e.1; rw [h] at this; revert this; decide), if_pos ⟨h, hh⟩]
/-! ### The base of a view -/
def dropH (V : Vw) : Vw := { V with held := false, hp := 0, hl := 0, hk := nilS }
theorem base_fold {V : Vw} (h : Sound V) : foldU [baseR V] = some (dropH V) := by
  have e : baseV (baseR V) = dropH V := rfl
  rw [foldU_one _ rfl (by rw [e]; exact ⟨h.head, h.high, h.inn, h.ris⟩), e]

/-! ### InnerOne -/
theorem one_has {V : Vw} (h : Sound V) {key : ByteArray} {c : Et} (hc : childM V key = some c) : atB V.ents c.1 = true := by
  obtain ⟨i, h1⟩ := h.child_at hc
  exact (h.rise.at h1.1).2
theorem one_self {V : Vw} (h : Sound V) {key : ByteArray} {c : Et} (hc : childM V key = some c) (ha : atB V.ents key = true) : c.1 = key := by
  obtain ⟨i, h1⟩ := h.child_at hc
  have e := h.rise.nd h1
  unfold ndN at e
  rw [if_pos ha] at e
  obtain ⟨q, hq, hk⟩ := atB_ex ha
  obtain rfl : plN V.ents key = i := by omega
  rw [h1.1] at hq
  cases hq
  exact hk
def putC8 (key : ByteArray) (page : Int) : Rc := { Rc.zero with kind := 8, key := key, page := page }
theorem one_no {V : Vw} {key : ByteArray} {page : Int} (h : atB V.ents key = true ∨ V.held = true) : upM V (putC8 key page) = none := upM_put_no rfl h
theorem one_put {V : Vw} (h : Sound V) {key : ByteArray} {page : Int} {c : Et} (hc : childM V key = some c) (ha : atB V.ents key = false) (hh : V.held = false) :
    ∃ W, upM V (putC8 key page) = some W ∧ W.ents.length = V.ents.length + 1 ∧ childM W key = some (key, page) := by
  have hi := childM_in hc
  refine ⟨{ V with ents := putL V.ents (plN V.ents key) (key, page) }, ?_, putL_len _ (plN_le _ _), ?_⟩
  · exact upM_put (R := putC8 key page) rfl hh (by
      show ¬ (atB V.ents key = true ∨ inS V.low V.high V.unb key = false)
      rw [ha, hi]
      simp)
  · have hs := sound_put (pg := page) h hi ha
    refine hs.child_is (i := plN V.ents key) hi ⟨?_, ltS_irrefl _, fun q hq => ?_⟩
    · show (putL _ _ _)[_]? = _
      rw [putL_get (plN_le _ _), if_neg (by omega), if_pos rfl]
    · have hq : (putL V.ents (plN V.ents key) (key, page))[plN V.ents key + 1]? = some q := hq
      rw [putL_get (plN_le _ _), if_neg (by omega), if_neg (by omega)] at hq
      exact h.rise.behind ha (j := plN V.ents key + 1 - 1) (by omega) hq

/-! ### InnerDrops -/
def holdR (hp hl : Int) (hk : ByteArray) : Rc := { Rc.zero with kind := 10, hpage := hp, hleft := hl, hkey := hk }
def dropC8 : Rc := { Rc.zero with kind := 11 }
def heldV (V : Vw) (hp hl : Int) (hk : ByteArray) : Vw := { V with held := true, hp := hp, hl := hl, hk := hk }
def cutV (V : Vw) (i : Nat) : Vw := { V with ents := cutL V.ents i, held := false, hp := 0, hl := 0, hk := nilS }
theorem drops_hold {V : Vw} (h : Sound V) (hh : V.held = false) {i : Nat} {l q : Et} (hl : V.ents[i]? = some l) (hq : V.ents[i + 1]? = some q) :
    upM V (holdR q.2 l.2 q.1) = some (heldV V q.2 l.2 q.1) := by
  obtain ⟨h1, h2⟩ := h.rise.at hq
  exact upM_hold (R := holdR q.2 l.2 q.1) rfl hh (by
    show ¬ (atB V.ents q.1 = false ∨ plN V.ents q.1 = 0 ∨ (V.ents[plN V.ents q.1]?.map (·.2)) ≠ some q.2 ∨ (V.ents[plN V.ents q.1 - 1]?.map (·.2)) ≠ some l.2)
    rw [h1, h2, hq]
    simp [hl])
theorem drops_drop {V : Vw} (h : Sound V) {i : Nat} {l q : Et} (hl : V.ents[i]? = some l) (hq : V.ents[i + 1]? = some q) :
    upM (heldV V q.2 l.2 q.1) dropC8 = some (cutV V (i + 1)) := by
  obtain ⟨h1, h2⟩ := h.rise.at hq
  have := upM_drop (V := heldV V q.2 l.2 q.1) (R := dropC8) rfl rfl
  rw [this]
  show some { heldV V q.2 l.2 q.1 with ents := V.ents.take (plN V.ents q.1) ++ V.ents.drop (plN V.ents q.1 + 1), held := false, hp := 0, hl := 0, hk := nilS } = _
  rw [h1]
  rfl
theorem cutV_sound {V : Vw} (h : Sound V) {i : Nat} {q : Et} (hq : V.ents[i + 1]? = some q) : Sound (cutV V (i + 1)) := by
  have := sound_cut h (n := i + 1) (by omega) (by have := lt_of_some hq; omega)
  exact ⟨this.head, this.high, this.inn, this.ris⟩
theorem cutV_len {V : Vw} {i : Nat} {q : Et} (hq : V.ents[i + 1]? = some q) : (cutV V (i + 1)).ents.length + 1 = V.ents.length := by
  have := lt_of_some hq
  show (cutL _ _).length + 1 = _
  simp [cutL]
  omega
theorem drops_none {V : Vw} (h : Sound V) {key : ByteArray} (hn : childM V key = none) (i : Nat) : childM (cutV V i) key = none := childM_out (V := cutV V i) (h.child_none hn)
theorem drops_same {V : Vw} (h : Sound V) {key : ByteArray} {a : Et} (ha : childM V key = some a) {i : Nat} {l q : Et} (hl : V.ents[i]? = some l) (hq : V.ents[i + 1]? = some q) (he : a.1 = q.1) :
    childM (cutV V (i + 1)) key = some l := by
  obtain ⟨j, h1, h2, h3⟩ := h.child_at ha
  have hi := childM_in ha
  have hs := cutV_sound h hq
  have hlen := lt_of_some hq
  have hj : j = i + 1 := by
    have e1 := (h.rise.at h1).1
    have e2 := (h.rise.at hq).1
    rw [he] at e1
    omega
  subst hj
  obtain rfl : q = a := Option.some.inj (hq.symm.trans h1)
  refine hs.child_is (i := i) hi ⟨?_, ?_, fun r hr => ?_⟩
  · show (cutL _ _)[_]? = _
    rw [cutL_get (by omega), if_pos (by omega)]
    exact hl
  · have := h.rise i l q hl hq
    cases e : ltS key l.1 with
    | false => rfl
    | true => rw [ltS_trans e this] at h2; cases h2
  · have hr : (cutL V.ents (i + 1))[i + 1]? = some r := hr
    rw [cutL_get (by omega), if_neg (by omega)] at hr
    exact h3 r hr
theorem drops_other {V : Vw} (h : Sound V) {key : ByteArray} {a : Et} (ha : childM V key = some a) {i : Nat} {l q : Et} (hl : V.ents[i]? = some l) (hq : V.ents[i + 1]? = some q) (he : a.1 ≠ q.1) :
    childM (cutV V (i + 1)) key = some a := by
  obtain ⟨j, h1, h2, h3⟩ := h.child_at ha
  have hi := childM_in ha
  have hs := cutV_sound h hq
  have hlen := lt_of_some hq
  have hj : j ≠ i + 1 := by
    rintro rfl
    rw [h1] at hq
    cases hq
    exact he rfl
  rcases Nat.lt_or_ge j (i + 1) with hlt | hge
  · refine hs.child_is (i := j) hi ⟨?_, h2, fun r hr => ?_⟩
    · show (cutL _ _)[_]? = _
      rw [cutL_get (by omega), if_pos hlt]
      exact h1
    · have hr : (cutL V.ents (i + 1))[j + 1]? = some r := hr
      rw [cutL_get (by omega)] at hr
      split at hr
      · exact h3 r hr
      · obtain ⟨s, hs'⟩ := some_of_lt (L := V.ents) (i := j + 1) (by have := lt_of_some hr; omega)
        exact ltS_trans (h3 s hs') (h.rise _ _ _ hs' hr)
  · refine hs.child_is (i := j - 1) hi ⟨?_, h2, fun r hr => ?_⟩
    · show (cutL _ _)[_]? = _
      rw [cutL_get (by omega), if_neg (by omega), show j - 1 + 1 = j by omega]
      exact h1
    · have hr : (cutL V.ents (i + 1))[j - 1 + 1]? = some r := hr
      rw [cutL_get (by omega), if_neg (by omega), show j - 1 + 1 + 1 = j + 1 by omega] at hr
      exact h3 r hr

/-! ### InnerParts, InnerTwice -/
def leftV (V : Vw) (n : Nat) (k : ByteArray) (pg : Int) : Vw := { V with ents := V.ents.take n, high := k, unb := false, right := pg }
def rightV (V : Vw) (n : Nat) (k : ByteArray) : Vw := { V with low := k, ents := V.ents.drop n }
def splitR (k : ByteArray) (pg : Int) : Rc := { Rc.zero with kind := 9, key := k, page := pg }
theorem leftV_sound {V : Vw} (h : Sound V) {n : Nat} {q : Et} (h0 : n ≠ 0) (hq : V.ents[n]? = some q) (pg : Int) : Sound (leftV V n q.1 pg) := by
  have := sound_left h h0 hq
  exact ⟨this.head, fun e => by (cases e), this.inn, this.ris⟩
theorem rightV_sound {V : Vw} (h : Sound V) {n : Nat} {q : Et} (hq : V.ents[n]? = some q) : Sound (rightV V n q.1) := sound_right h hq
theorem parts_left {V : Vw} (h : Sound V) (hh : V.held = false) {n : Nat} {q : Et} (h0 : n ≠ 0) (hq : V.ents[n]? = some q) (pg : Int) : upM V (splitR q.1 pg) = some (leftV V n q.1 pg) := by
  obtain ⟨h1, h2⟩ := h.rise.at hq
  have := upM_split (V := V) (R := splitR q.1 pg) rfl hh (by
    show ¬ (atB V.ents q.1 = false ∨ plN V.ents q.1 = 0)
    rw [h1, h2]
    simp [h0])
  rw [this]
  show some { V with ents := V.ents.take (plN V.ents q.1), high := q.1, unb := false, right := pg } = _
  rw [h1]
  rfl
theorem parts_none {V : Vw} (h : Sound V) {n : Nat} {q : Et} (h0 : n ≠ 0) (hq : V.ents[n]? = some q) (pg : Int) {key : ByteArray} (hn : childM V key = none) :
    childM (leftV V n q.1 pg) key = none ∧ childM (rightV V n q.1) key = none := by
  have hi := h.child_none hn
  have hqi := inS_iff.1 (h.inn q (List.mem_of_getElem? hq))
  have hqo : ltS V.low q.1 = true := by
    obtain ⟨p, hp, e⟩ := h.head
    rw [← e]
    exact h.rise.lt (by omega) hp hq
  refine ⟨childM_out ?_, childM_out ?_⟩
  · cases e : inS (leftV V n q.1 pg).low (leftV V n q.1 pg).high (leftV V n q.1 pg).unb key with
    | false => rfl
    | true =>
      obtain ⟨a, b⟩ := inS_iff.1 e
      have a : ltS key V.low = false := a
      have b : ltS key q.1 = true := by
        rcases b with b | b
        · cases b
        · exact b
      rw [inS_iff.2 ⟨a, by
        rcases hqi.2 with c | c
        · exact .inl c
        · exact .inr (ltS_trans b c)⟩] at hi
      cases hi
  · cases e : inS (rightV V n q.1).low (rightV V n q.1).high (rightV V n q.1).unb key with
    | false => rfl
    | true =>
      obtain ⟨a, b⟩ := inS_iff.1 e
      have a : ltS key q.1 = false := a
      have c : ltS key V.low = false := by
        cases e2 : ltS key V.low with
        | false => rfl
        | true =>
          rw [ltS_trans e2 hqo] at a
          cases a
      have d : inS V.low V.high V.unb key = true := inS_iff.2 ⟨c, b⟩
      rw [d] at hi
      cases hi
theorem parts_some {V : Vw} (h : Sound V) {n : Nat} {q : Et} (h0 : n ≠ 0) (hq : V.ents[n]? = some q) (pg : Int) {key : ByteArray} {c : Et} (hc : childM V key = some c) :
    (ltS key q.1 = true ∧ childM (leftV V n q.1 pg) key = some c ∧ childM (rightV V n q.1) key = none) ∨ (ltS key q.1 = false ∧ childM (leftV V n q.1 pg) key = none ∧ childM (rightV V n q.1) key = some c) := by
  obtain ⟨i, h1, h2, h3⟩ := h.child_at hc
  have hi := inS_iff.1 (childM_in hc)
  cases e : ltS key q.1 with
  | true =>
    have hin : i < n := by
      rcases Nat.lt_or_ge i n with hl | hl
      · exact hl
      · rcases Nat.lt_or_ge n i with hl2 | hl2
        · rw [ltS_trans e (h.rise.lt hl2 hq h1)] at h2
          cases h2
        · obtain rfl : i = n := by omega
          rw [hq] at h1
          cases h1
          rw [e] at h2
          cases h2
    refine .inl ⟨rfl, (leftV_sound h h0 hq pg).child_is (i := i) (inS_iff.2 ⟨hi.1, .inr e⟩) ⟨?_, h2, fun r hr => ?_⟩, childM_out ?_⟩
    · show (List.take _ _)[_]? = _
      rw [List.getElem?_take, if_pos hin]
      exact h1
    · have hr : (List.take n V.ents)[i + 1]? = some r := hr
      rw [List.getElem?_take] at hr
      split at hr
      · exact h3 r hr
      · cases hr
    · show inS q.1 V.high V.unb key = false
      cases e2 : inS q.1 V.high V.unb key with
      | false => rfl
      | true => rw [(inS_iff.1 e2).1] at e; cases e
  | false =>
    have hin : n ≤ i := by
      rcases Nat.lt_or_ge i n with hl | hl
      · rcases Nat.lt_or_ge (i + 1) n with hl2 | hl2
        · obtain ⟨s, hs⟩ := some_of_lt (L := V.ents) (i := i + 1) (by have := lt_of_some hq; omega)
          rw [ltS_trans (h3 s hs) (h.rise.lt hl2 hs hq)] at e
          cases e
        · have e1 : i + 1 = n := by omega
          rw [h3 q (by rw [e1]; exact hq)] at e
          cases e
      · exact hl
    refine .inr ⟨rfl, childM_out ?_, (rightV_sound h hq).child_is (i := i - n) (inS_iff.2 ⟨e, hi.2⟩) ⟨?_, h2, fun r hr => ?_⟩⟩
    · show inS V.low q.1 false key = false
      cases e2 : inS V.low q.1 false key with
      | false => rfl
      | true =>
        rcases (inS_iff.1 e2).2 with b | b
        · cases b
        · rw [b] at e; cases e
    · show (List.drop _ _)[_]? = _
      rw [List.getElem?_drop, show n + (i - n) = i by omega]
      exact h1
    · have hr : (List.drop n V.ents)[i - n + 1]? = some r := hr
      rw [List.getElem?_drop, show n + (i - n + 1) = i + 1 by omega] at hr
      exact h3 r hr
def topV (V : Vw) (k : ByteArray) (left right : Int) : Vw := { V with ents := [(V.low, left), (k, right)] }
theorem topV_sound {V : Vw} (h : Sound V) {n : Nat} {q : Et} (h0 : n ≠ 0) (hq : V.ents[n]? = some q) (left right : Int) : Sound (topV V q.1 left right) := by
  obtain ⟨p, hp, e⟩ := h.head
  have hlo : ltS V.low q.1 = true := by rw [← e]; exact h.rise.lt (by omega) hp hq
  refine ⟨⟨(V.low, left), rfl, rfl⟩, h.high, fun r hr => ?_, fun i r s hr hs => ?_⟩
  · have hr : r ∈ [(V.low, left), (q.1, right)] := hr
    simp only [List.mem_cons, List.not_mem_nil, or_false] at hr
    rcases hr with rfl | rfl
    · have := h.inn p (List.mem_of_getElem? hp)
      rw [e] at this
      exact this
    · exact h.inn q (List.mem_of_getElem? hq)
  · have hr : [(V.low, left), (q.1, right)][i]? = some r := hr
    have hs : [(V.low, left), (q.1, right)][i + 1]? = some s := hs
    match i, hr, hs with
    | 0, hr, hs =>
      simp at hr hs
      subst hr
      subst hs
      exact hlo
    | i + 1, hr, hs => simp at hs
theorem topV_child {V : Vw} (h : Sound V) {n : Nat} {q : Et} (h0 : n ≠ 0) (hq : V.ents[n]? = some q) (left right : Int) {key : ByteArray} (hi : inS V.low V.high V.unb key = true) :
    childM (topV V q.1 left right) key = some (if ltS key q.1 = true then (V.low, left) else (q.1, right)) := by
  have hs := topV_sound h h0 hq left right
  cases e : ltS key q.1 with
  | true =>
    rw [if_pos rfl]
    refine hs.child_is (i := 0) hi ⟨rfl, (inS_iff.1 hi).1, fun r hr => ?_⟩
    have hr : [(V.low, left), (q.1, right)][0 + 1]? = some r := hr
    simp at hr
    subst hr
    exact e
  | false =>
    rw [if_neg (by decide)]
    refine hs.child_is (i := 1) hi ⟨rfl, e, fun r hr => ?_⟩
    have hr : [(V.low, left), (q.1, right)][1 + 1]? = some r := hr
    simp at hr
end Go.Proofs.Ytpjbncbmdfmlpaa

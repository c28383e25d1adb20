/- The arena and the document's arena side by side: the plain law. -/
import Derived.Test.YtfoljojacakkeaaDoorRe4
namespace Go.Proofs.YtfoljojacakkeaaDoor
open Go.RowKit
set_option linter.unusedVariables false

theorem slotTo_spec (L : List RaP) (n : Int) : ∀ k, (slotTo L n k = (0, false) ∧ ∀ (j : Nat) (q : RaP), j < k → L[j]? = some q → ¬ q.xs = n) ∨ ∃ (j : Nat) (p : RaP), j < k ∧ L[j]? = some p ∧ p.xs = n ∧ slotTo L n k = (p.xg, p.live) ∧ ∀ (j' : Nat) (q : RaP), j < j' → j' < k → L[j']? = some q → ¬ q.xs = n
  | 0 => .inl ⟨rfl, fun j q hj => by omega⟩
  | k + 1 => by
    cases hk : L[k]? with
    | none =>
      have e : slotTo L n (k + 1) = slotTo L n k := by simp [slotTo, hk]
      rw [e]
      rcases slotTo_spec L n k with ⟨h1, h2⟩ | ⟨j, p, a1, a2, a3, a4, a5⟩
      · refine .inl ⟨h1, fun j q hj hq => ?_⟩
        rcases Nat.lt_succ_iff_lt_or_eq.1 hj with h | rfl
        · exact h2 j q h hq
        · rw [hk] at hq; cases hq
      · refine .inr ⟨j, p, by omega, a2, a3, a4, fun j' q h1 h2 hq => ?_⟩
        rcases Nat.lt_succ_iff_lt_or_eq.1 h2 with h | rfl
        · exact a5 j' q h1 h hq
        · rw [hk] at hq; cases hq
    | some p =>
      by_cases hx : p.xs = n
      · exact .inr ⟨k, p, by omega, hk, hx, slot_hit hk hx, fun j' q h1 h2 => by omega⟩
      · rw [slot_miss hk hx]
        rcases slotTo_spec L n k with ⟨h1, h2⟩ | ⟨j, q, a1, a2, a3, a4, a5⟩
        · refine .inl ⟨h1, fun j q hj hq => ?_⟩
          rcases Nat.lt_succ_iff_lt_or_eq.1 hj with h | rfl
          · exact h2 j q h hq
          · obtain rfl := Option.some.inj (hk.symm.trans hq); exact hx
        · refine .inr ⟨j, q, by omega, a2, a3, a4, fun j' q' h1 h2 hq => ?_⟩
          rcases Nat.lt_succ_iff_lt_or_eq.1 h2 with h | rfl
          · exact a5 j' q' h1 h hq
          · obtain rfl := Option.some.inj (hk.symm.trans hq); exact hx
/-- The last put of a slot tells its state. -/
theorem slot_last {L : List RaP} {j : Nat} {p : RaP} (hp : L[j]? = some p) (hl : ∀ (j' : Nat) (q : RaP), j < j' → L[j']? = some q → ¬ q.xs = p.xs) : slotP L p.xs = (p.xg, p.live) := by
  have hj := (List.getElem?_eq_some_iff.1 hp).1
  rcases slotTo_spec L p.xs L.length with ⟨_, h2⟩ | ⟨i, q, a1, a2, a3, a4, a5⟩
  · exact absurd rfl (h2 j p hj hp)
  · rcases Nat.lt_trichotomy i j with h | rfl | h
    · exact absurd rfl (a5 j p h hj hp)
    · obtain rfl := Option.some.inj (hp.symm.trans a2)
      exact a4
    · exact absurd a3 (hl i q h a2)
theorem slot_at {L : List RaP} {n g : Int} (h : slotP L n = (g, true)) : ∃ (j : Nat) (p : RaP), L[j]? = some p ∧ p.xs = n ∧ p.xg = g ∧ p.live = true ∧ ∀ (j' : Nat) (q : RaP), j < j' → L[j']? = some q → ¬ q.xs = n := by
  rcases slotTo_spec L n L.length with ⟨h1, _⟩ | ⟨j, p, a1, a2, a3, a4, a5⟩
  · rw [slotP, h1] at h; cases h
  · rw [slotP, a4] at h
    injection h with e1 e2
    exact ⟨j, p, a2, a3, e1, e2, fun j' q h1 hq => a5 j' q h1 (List.getElem?_eq_some_iff.1 hq).1 hq⟩
theorem slotTo_app (L : List RaP) (p : RaP) (n : Int) : ∀ k, k ≤ L.length → slotTo (L ++ [p]) n k = slotTo L n k
  | 0, _ => rfl
  | k + 1, h => by
    have e : (L ++ [p])[k]? = L[k]? := List.getElem?_append_left (by omega)
    simp only [slotTo, e, slotTo_app L p n k (by omega)]
theorem slot_snoc (L : List RaP) (p : RaP) (n : Int) : slotP (L ++ [p]) n = if p.xs = n then (p.xg, p.live) else slotP L n := by
  have e : (L ++ [p])[L.length]? = some p := by simp
  have hl : (L ++ [p]).length = L.length + 1 := by simp
  rw [slotP, hl]
  split
  · rename_i h; exact slot_hit e h
  · rename_i h; rw [slot_miss e h, slotTo_app L p n _ (Nat.le_refl _)]
theorem slotTo_dead {L : List RaP} {i : Nat} {p : RaP} (hp : L[i]? = some p) {n : Int} (hn : ¬ p.xs = n) : ∀ k, slotTo (L.set i (deadP p)) n k = slotTo L n k
  | 0 => rfl
  | k + 1 => by
    have ih := slotTo_dead hp hn k
    by_cases hk : i = k
    · subst hk
      have e : (L.set i (deadP p))[i]? = some (deadP p) := by
        rw [List.getElem?_set_self (List.getElem?_eq_some_iff.1 hp).1]
      rw [slot_miss e (by exact hn), slot_miss hp hn, ih]
    · have e : (L.set i (deadP p))[k]? = L[k]? := List.getElem?_set_ne hk
      simp only [slotTo, e, ih]

/-- What the document's arena holds is well made. -/
structure Wf (L : List RaP) : Prop where
  cur : ∀ (j : Nat) (p : RaP), L[j]? = some p → p.live = true → slotP L p.xs = (p.xg, true)
  one : ∀ (j i : Nat) (p q : RaP), L[j]? = some p → L[i]? = some q → p.live = true → q.live = true → p.xs = q.xs → j = i
theorem Wf.nil : Wf [] := ⟨fun j p h => by simp at h, fun j i p q h => by simp at h⟩
/-- The two arenas' states agree. -/
structure SimA (ss : List Sl) (L : List RaP) : Prop where
  wf : Wf L
  slot : ∀ (i : Nat) (s : Sl), ss[i]? = some s → slotP L ((i : Int) + 1) = (s.gen, s.used)
  has : ∀ (i : Nat) (s : Sl), ss[i]? = some s → s.used = true → ∃ (j : Nat) (p : RaP), L[j]? = some p ∧ p.xs = (i : Int) + 1 ∧ p.live = true ∧ p.R = s.R
theorem SimA.nil {ss : List Sl} (h : ∀ (i : Nat) (s : Sl), ss[i]? = some s → s.gen = 0 ∧ s.used = false) : SimA ss [] :=
  ⟨Wf.nil, fun i s hs => by rw [(h i s hs).1, (h i s hs).2]; rfl, fun i s hs hu => by rw [(h i s hs).2] at hu; cases hu⟩
/-- A ref that lives in the one lives in the other, with the same record. -/
theorem SimA.find {ss : List Sl} {L : List RaP} (h : SimA ss L) {i : Nat} {s : Sl} (hs : ss[i]? = some s) (hu : s.used = true) : ∃ (j : Nat) (p : RaP), L[j]? = some p ∧ p.xs = (i : Int) + 1 ∧ p.xg = s.gen ∧ p.live = true ∧ p.R = s.R := by
  obtain ⟨j, p, h1, h2, h3, h4⟩ := h.has i s hs hu
  refine ⟨j, p, h1, h2, ?_, h3, h4⟩
  have a := h.wf.cur j p h1 h3
  rw [h2, h.slot i s hs] at a
  injection a with e _
  exact e.symm
theorem SimA.stale {ss : List Sl} {L : List RaP} (h : SimA ss L) {i : Nat} {s : Sl} (hs : ss[i]? = some s) {g : Int} (hn : ¬ (s.used = true ∧ s.gen = g)) (j : Nat) (q : RaP) (hq : L[j]? = some q) : ¬ (q.xs = (i : Int) + 1 ∧ q.xg = g ∧ q.live = true) := by
  rintro ⟨h1, h2, h3⟩
  have a := h.wf.cur j q hq h3
  rw [h1, h.slot i s hs] at a
  injection a with e1 e2
  exact hn ⟨e2, e1.trans h2⟩
theorem Wf.put {L : List RaP} (h : Wf L) {p : RaP} (hl : p.live = true) (hu : (slotP L p.xs).2 = false) : Wf (L ++ [p]) := by
  have hno : ∀ (j : Nat) (q : RaP), L[j]? = some q → q.live = true → ¬ q.xs = p.xs := fun j q hq hql e => by
    have a := h.cur j q hq hql
    rw [e] at a
    rw [a] at hu
    cases hu
  refine ⟨fun j q hq hql => ?_, fun j i q r hq hr h1 h2 e => ?_⟩
  · rw [slot_snoc]
    rcases Nat.lt_or_ge j L.length with hj | hj
    · rw [List.getElem?_append_left hj] at hq
      rw [if_neg (fun e => hno j q hq hql e.symm)]
      exact h.cur j q hq hql
    · rw [List.getElem?_append_right hj] at hq
      have hj0 : j - L.length = 0 := by
        have := (List.getElem?_eq_some_iff.1 hq).1
        simp at this; omega
      rw [hj0] at hq
      obtain rfl : p = q := by simpa using hq
      rw [if_pos rfl, hl]
  · have key : ∀ (j : Nat) (q : RaP), (L ++ [p])[j]? = some q → (j < L.length ∧ L[j]? = some q) ∨ (j = L.length ∧ q = p) := by
      intro j q hq
      rcases Nat.lt_or_ge j L.length with hj | hj
      · exact .inl ⟨hj, by rwa [List.getElem?_append_left hj] at hq⟩
      · have := (List.getElem?_eq_some_iff.1 hq).1
        simp at this
        obtain rfl : j = L.length := by omega
        exact .inr ⟨rfl, by simpa using hq.symm⟩
    rcases key j q hq with ⟨a1, a2⟩ | ⟨rfl, rfl⟩ <;> rcases key i r hr with ⟨b1, b2⟩ | ⟨rfl, rfl⟩
    · exact h.one j i q r a2 b2 h1 h2 e
    · exact absurd e (hno j q a2 h1)
    · exact absurd e.symm (hno i r b2 h2)
    · rfl
theorem SimA.put {ss : List Sl} {L : List RaP} (h : SimA ss L) {i : Nat} {s : Sl} (hs : ss[i]? = some s) (hu : s.used = false) {p t} (hx : p.xs = (i : Int) + 1) (hg : p.xg = Sl.gen t) (hl : p.live = true) (ht : t.used = true) (hr : p.R = t.R) : SimA (ss.set i t) (L ++ [p]) := by
  have hi := (List.getElem?_eq_some_iff.1 hs).1
  refine ⟨h.wf.put hl (by rw [hx, h.slot i s hs]; exact hu), fun k r hk => ?_, fun k r hk hru => ?_⟩
  · rw [slot_snoc, hx]
    rw [List.getElem?_set] at hk
    split at hk
    · subst_vars
      obtain rfl : t = r := by simpa [hi] using hk
      rw [if_pos rfl, hg, hl, ht]
    · rename_i hne
      rw [if_neg (by omega)]
      exact h.slot k r hk
  · rw [List.getElem?_set] at hk
    split at hk
    · subst_vars
      obtain rfl : t = r := by simpa [hi] using hk
      exact ⟨L.length, p, by simp, hx, hl, hr⟩
    · obtain ⟨j, q, a1, a2⟩ := h.has k r hk hru
      exact ⟨j, q, by rw [List.getElem?_append_left (List.getElem?_eq_some_iff.1 a1).1]; exact a1, a2⟩
theorem SimA.free {ss : List Sl} {L : List RaP} (h : SimA ss L) {i : Nat} {s : Sl} (hs : ss[i]? = some s) {j : Nat} {p : RaP} (hp : L[j]? = some p) (hx : p.xs = (i : Int) + 1) (hl : p.live = true) {t : Sl} (htg : t.gen = s.gen) (htu : t.used = false) : SimA (ss.set i t) (L.set j (deadP p)) := by
  have hi := (List.getElem?_eq_some_iff.1 hs).1
  have hj := (List.getElem?_eq_some_iff.1 hp).1
  have hc := h.wf.cur j p hp hl
  have hgs : p.xg = s.gen := by
    rw [hx, h.slot i s hs] at hc
    injection hc with e _
    exact e.symm
  have key : ∀ (k : Nat) (q : RaP), (L.set j (deadP p))[k]? = some q → q.live = true → L[k]? = some q ∧ ¬ q.xs = p.xs := by
    intro k q hq hql
    by_cases hk : j = k
    · subst hk
      rw [List.getElem?_set_self hj] at hq
      obtain rfl := Option.some.inj hq
      cases hql
    · rw [List.getElem?_set_ne hk] at hq
      exact ⟨hq, fun e => hk (h.wf.one j k p q hp hq hl hql e.symm)⟩
  have hdead : slotP (L.set j (deadP p)) p.xs = (p.xg, false) := by
    have e : (L.set j (deadP p))[j]? = some (deadP p) := List.getElem?_set_self hj
    refine slot_last (p := deadP p) e (fun k q hk hq => ?_)
    rw [List.getElem?_set_ne (by omega)] at hq
    obtain ⟨j2, p2, b1, b2, b3, b4, b5⟩ := slot_at hc
    obtain rfl := h.wf.one j j2 p p2 hp b1 hl b4 b2.symm
    exact b5 k q hk hq
  have hsame : ∀ n, ¬ p.xs = n → slotP (L.set j (deadP p)) n = slotP L n := fun n hn => by
    rw [slotP, List.length_set]
    exact slotTo_dead hp hn _
  refine ⟨⟨fun k q hq hql => ?_, fun k m q r hq hr h1 h2 e => ?_⟩, fun k r hk => ?_, fun k r hk hru => ?_⟩
  · obtain ⟨a1, a2⟩ := key k q hq hql
    rw [hsame _ (fun e => a2 e.symm)]
    exact h.wf.cur k q a1 hql
  · exact h.wf.one k m q r (key k q hq h1).1 (key m r hr h2).1 h1 h2 e
  · rw [List.getElem?_set] at hk
    split at hk
    · subst_vars
      obtain rfl : t = r := by simpa [hi] using hk
      rw [← hx, hdead, hgs, htg, htu]
    · rename_i hne
      rw [hsame _ (by rw [hx]; omega)]
      exact h.slot k r hk
  · rw [List.getElem?_set] at hk
    split at hk
    · subst_vars
      obtain rfl : t = r := by simpa [hi] using hk
      rw [htu] at hru; cases hru
    · rename_i hne
      obtain ⟨m, q, a1, a2, a3, a4⟩ := h.has k r hk hru
      refine ⟨m, q, ?_, a2, a3, a4⟩
      rw [List.getElem?_set_ne (fun e => ?_)]
      · exact a1
      · subst e
        obtain rfl := Option.some.inj (hp.symm.trans a1)
        rw [hx] at a2
        omega
theorem SimA.live {ss : List Sl} {L : List RaP} (h : SimA ss L) : ∀ k, k ≤ ss.length → rliveTo L k = liveTo ss k
  | 0, _ => rfl
  | k + 1, hk => by
    have ih := SimA.live h k (by omega)
    obtain ⟨s, hs⟩ : ∃ s, ss[k]? = some s := ⟨_, List.getElem?_eq_getElem (by omega)⟩
    have e := h.slot k s hs
    rw [rliveTo, liveTo, ih, hs, e]
theorem SimA.left {ss : List Sl} {L : List RaP} (h : SimA ss L) (last : Int) : ∀ k, k ≤ ss.length → rleftTo L last k = leftTo ss last k
  | 0, _ => rfl
  | k + 1, hk => by
    have ih := SimA.left h last k (by omega)
    obtain ⟨s, hs⟩ : ∃ s, ss[k]? = some s := ⟨_, List.getElem?_eq_getElem (by omega)⟩
    have e := h.slot k s hs
    rw [rleftTo, leftTo, ih, hs, e]
end Go.Proofs.YtfoljojacakkeaaDoor

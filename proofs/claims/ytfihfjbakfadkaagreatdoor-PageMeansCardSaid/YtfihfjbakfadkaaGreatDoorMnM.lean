/- Texts of one proof, merged: Law8, Rs8, Dec7, Upk7, Nm11, Few8, In8, Few7, Cs11, Md11, Qs7, Ux. -/
import Derived.Deep.QuietTactic
import Derived.BigQuiet
import Derived.Test.YtfihfjbakfadkaaGreatDoorMnD
import Derived.Test.YtfihfjbakfadkaaGreatDoorMnF
import Derived.Test.YtfihfjbakfadkaaGreatDoorMnI
import Derived.Test.YtfihfjbakfadkaaGreatDoorMnK
namespace Go.Proofs.YtfihfjbakfadkaaGreatDoor
open Go.RowKit
set_option linter.unusedVariables false

def Ris (L : List Et) : Prop := ∀ (i : Nat) (p q : Et), L[i]? = some p → L[i + 1]? = some q → ltS p.1 q.1 = true
theorem lt_of_some {α : Type} {L : List α} {i : Nat} {p : α} (h : L[i]? = some p) : i < L.length := (List.getElem?_eq_some_iff.1 h).1
theorem some_of_lt {α : Type} {L : List α} {i : Nat} (h : i < L.length) : ∃ p, L[i]? = some p := ⟨_, List.getElem?_eq_getElem h⟩
theorem Ris.lt {L : List Et} (h : Ris L) : ∀ {i j : Nat} {p q : Et}, i < j → L[i]? = some p → L[j]? = some q → ltS p.1 q.1 = true := by
  intro i j p q hij hp hq
  induction j generalizing q with
  | zero => omega
  | succ j ih =>
    obtain ⟨r, hr⟩ := some_of_lt (L := L) (i := j) (by have := lt_of_some hq; omega)
    have h2 := h j r q hr hq
    rcases Nat.lt_or_ge i j with h1 | h1
    · exact ltS_trans (ih h1 hr) h2
    · obtain rfl : i = j := by omega
      rw [hp] at hr
      cases hr
      exact h2
theorem plN_uniq {L : List Et} {key : ByteArray} {n : Nat} (h1 : ∀ (i : Nat) (p : Et), i < n → L[i]? = some p → ltS p.1 key = true) (h2 : n = L.length ∨ ∃ p, L[n]? = some p ∧ ltS p.1 key = false) : plN L key = n := by
  rcases Nat.lt_trichotomy (plN L key) n with h | h | h
  · obtain ⟨p, hp⟩ := some_of_lt (L := L) (i := plN L key) (by
      rcases h2 with e | ⟨p, hp, _⟩
      · omega
      · have := lt_of_some hp; omega)
    have a := h1 _ _ h hp
    rw [plN_at hp] at a
    cases a
  · exact h
  · rcases h2 with e | ⟨p, hp, hn⟩
    · have := plN_le L key; omega
    · have := plN_in h hp
      rw [hn] at this
      cases this
theorem atB_ex {L : List Et} {key : ByteArray} (h : atB L key = true) : ∃ p, L[plN L key]? = some p ∧ p.1 = key := by
  obtain ⟨p, hp⟩ := some_of_lt (atB_lt h)
  rw [atB_some hp] at h
  exact ⟨p, hp, sEq_iff.1 h⟩
theorem Ris.at {L : List Et} (h : Ris L) {i : Nat} {p : Et} (hp : L[i]? = some p) : plN L p.1 = i ∧ atB L p.1 = true := by
  have e : plN L p.1 = i := plN_uniq (fun j q hj hq => h.lt hj hq hp) (.inr ⟨p, hp, ltS_irrefl _⟩)
  exact ⟨e, by rw [atB_some (p := p) (by rw [e]; exact hp)]; exact sEq_self _⟩
/-- No entry of just that key: all from its place on are behind it. -/
theorem Ris.behind {L : List Et} (h : Ris L) {key : ByteArray} (hn : atB L key = false) {j : Nat} {q : Et} (hj : plN L key ≤ j) (hq : L[j]? = some q) : ltS key q.1 = true := by
  obtain ⟨p, hp⟩ := some_of_lt (L := L) (i := plN L key) (by have := lt_of_some hq; omega)
  have h1 := plN_at hp
  have h2 : p.1 ≠ key := fun e => by
    rw [atB_some hp, sEq_iff.2 e] at hn
    cases hn
  have h3 : ltS key p.1 = true := by
    rcases ltS_total p.1 key with h | h | h
    · rw [h1] at h; cases h
    · exact absurd h h2
    · exact h
  rcases Nat.lt_or_ge (plN L key) j with hl | hl
  · exact ltS_trans h3 (h.lt hl hp hq)
  · obtain rfl : plN L key = j := by omega
    rw [hp] at hq
    cases hq
    exact h3

theorem putL_get {L : List Et} {n : Nat} {p : Et} (hn : n ≤ L.length) (i : Nat) : (putL L n p)[i]? = if i < n then L[i]? else if i = n then some p else L[i - 1]? := by
  unfold putL
  by_cases h1 : i < n
  · rw [if_pos h1, List.append_assoc, List.getElem?_append_left (by simp; omega), List.getElem?_take, if_pos h1]
  · rw [if_neg h1]
    by_cases h2 : i = n
    · subst h2
      rw [if_pos rfl, List.append_assoc, List.getElem?_append_right (by simp; omega)]
      simp [Nat.min_eq_left hn]
    · rw [if_neg h2, List.getElem?_append_right (by simp; omega), List.getElem?_drop]
      congr 1
      simp
      omega
def cutL (L : List Et) (n : Nat) : List Et := L.take n ++ L.drop (n + 1)
theorem cutL_get {L : List Et} {n : Nat} (hn : n ≤ L.length) (i : Nat) : (cutL L n)[i]? = if i < n then L[i]? else L[i + 1]? := by
  unfold cutL
  by_cases h1 : i < n
  · rw [if_pos h1, List.getElem?_append_left (by simp; omega), List.getElem?_take, if_pos h1]
  · rw [if_neg h1, List.getElem?_append_right (by simp; omega), List.getElem?_drop]
    congr 1
    simp
    omega
theorem Ris.put {L : List Et} (h : Ris L) {key : ByteArray} {pg : Int} (hn : atB L key = false) : Ris (putL L (plN L key) (key, pg)) := by
  intro i p q hp hq
  have hle := plN_le L key
  rw [putL_get hle] at hp hq
  by_cases h1 : i + 1 < plN L key
  · rw [if_pos (by omega)] at hp
    rw [if_pos h1] at hq
    exact h i p q hp hq
  · rw [if_neg h1] at hq
    by_cases h2 : i + 1 = plN L key
    · rw [if_pos h2] at hq
      rw [if_pos (by omega)] at hp
      obtain rfl : (key, pg) = q := Option.some.inj hq
      have h4 : i < plN L key := by omega
      exact plN_in h4 hp
    · rw [if_neg h2] at hq
      rw [if_neg (by omega)] at hp
      have hle2 : plN L key ≤ i := by omega
      by_cases h3 : i = plN L key
      · rw [if_pos h3] at hp
        obtain rfl : (key, pg) = p := Option.some.inj hp
        exact h.behind hn (j := i + 1 - 1) (show plN L key ≤ i + 1 - 1 by rw [Nat.add_sub_cancel]; exact hle2) hq
      · rw [if_neg h3] at hp
        exact h (i - 1) p q hp (by rw [show i - 1 + 1 = i + 1 - 1 by omega]; exact hq)
theorem Ris.cut {L : List Et} (h : Ris L) {n : Nat} (hn : n ≤ L.length) : Ris (cutL L n) := by
  intro i p q hp hq
  rw [cutL_get hn] at hp hq
  by_cases h1 : i + 1 < n
  · rw [if_pos (by omega)] at hp
    rw [if_pos h1] at hq
    exact h i p q hp hq
  · rw [if_neg h1] at hq
    by_cases h2 : i < n
    · rw [if_pos h2] at hp
      exact h.lt (by omega) hp hq
    · rw [if_neg h2] at hp
      exact h (i + 1) p q hp hq
theorem Ris.take {L : List Et} (h : Ris L) (n : Nat) : Ris (L.take n) := by
  intro i p q hp hq
  rw [List.getElem?_take] at hp hq
  split at hp
  · split at hq
    · exact h i p q hp hq
    · cases hq
  · cases hp
theorem Ris.drop {L : List Et} (h : Ris L) (n : Nat) : Ris (L.drop n) := by
  intro i p q hp hq
  rw [List.getElem?_drop] at hp hq
  exact h (n + i) p q hp hq

theorem inS_iff {low high : ByteArray} {unb : Bool} {key : ByteArray} : inS low high unb key = true ↔ ltS key low = false ∧ (unb = true ∨ ltS key high = true) := by
  unfold inS
  cases ltS key low <;> cases unb <;> simp
theorem Sound.rise {V : Vw} (h : Sound V) : Ris V.ents := h.ris
theorem Sound.pos {V : Vw} (h : Sound V) : 0 < V.ents.length := by
  obtain ⟨p, hp, _⟩ := h.head
  exact lt_of_some hp

structure Good (V : Vw) : Prop where
  s : Sound V
  h : V.held = true → atB V.ents V.hk = true ∧ plN V.ents V.hk ≠ 0
theorem pl_low {V : Vw} (h : Sound V) {key : ByteArray} (hi : inS V.low V.high V.unb key = true) (hn : atB V.ents key = false) : plN V.ents key ≠ 0 := by
  intro e
  obtain ⟨p, hp, hl⟩ := h.head
  have := h.rise.behind hn (j := 0) (by omega) hp
  rw [hl] at this
  rw [(inS_iff.1 hi).1] at this
  cases this
theorem sound_put {V : Vw} (h : Sound V) {key : ByteArray} {pg : Int} (hi : inS V.low V.high V.unb key = true) (hn : atB V.ents key = false) : Sound { V with ents := putL V.ents (plN V.ents key) (key, pg) } := by
  have h0 := pl_low h hi hn
  refine ⟨?_, h.high, fun p hp => ?_, h.rise.put hn⟩
  · obtain ⟨p, hp, hl⟩ := h.head
    exact ⟨p, by show (putL _ _ _)[0]? = _; rw [putL_get (plN_le _ _), if_pos (by omega)]; exact hp, hl⟩
  · simp only [putL, List.mem_append, List.mem_cons, List.not_mem_nil, or_false] at hp
    rcases hp with (hp | rfl) | hp
    · exact h.inn p (List.mem_of_mem_take hp)
    · exact hi
    · exact h.inn p (List.mem_of_mem_drop hp)
theorem sound_cut {V : Vw} (h : Sound V) {n : Nat} (h0 : n ≠ 0) (hn : n ≤ V.ents.length) : Sound { V with ents := cutL V.ents n } := by
  refine ⟨?_, h.high, fun p hp => ?_, h.rise.cut hn⟩
  · obtain ⟨p, hp, hl⟩ := h.head
    exact ⟨p, by show (cutL _ _)[0]? = _; rw [cutL_get hn, if_pos (by omega)]; exact hp, hl⟩
  · simp only [cutL, List.mem_append] at hp
    rcases hp with hp | hp
    · exact h.inn p (List.mem_of_mem_take hp)
    · exact h.inn p (List.mem_of_mem_drop hp)
/-- The left part of a view. -/
theorem sound_left {V : Vw} (h : Sound V) {n : Nat} {q : Et} (h0 : n ≠ 0) (hq : V.ents[n]? = some q) : Sound { V with ents := V.ents.take n, high := q.1, unb := false } := by
  refine ⟨?_, fun e => by (cases e), fun p hp => ?_, h.rise.take n⟩
  · obtain ⟨p, hp, hl⟩ := h.head
    exact ⟨p, by show (List.take _ _)[0]? = _; rw [List.getElem?_take, if_pos (by omega)]; exact hp, hl⟩
  · obtain ⟨i, hi⟩ := List.mem_iff_getElem?.1 hp
    rw [List.getElem?_take] at hi
    split at hi
    · have := h.inn p (List.mem_of_getElem? hi)
      exact inS_iff.2 ⟨(inS_iff.1 this).1, .inr (h.rise.lt (by omega) hi hq)⟩
    · cases hi
theorem up_good {V V' : Vw} {R : Rc} (h : upM V R = some V') (g : Good V) : Good V' := by
  unfold upM at h
  split at h
  · rename_i h8
    split at h
    · cases h
    · rename_i hn
      cases h
      have h1 : atB V.ents R.key = false := by
        cases e : atB V.ents R.key with
        | false => rfl
        | true => exact absurd (.inl e) hn
      have h2 : inS V.low V.high V.unb R.key = true := by
        cases e : inS V.low V.high V.unb R.key with
        | true => rfl
        | false => exact absurd (.inr e) hn
      exact ⟨sound_put g.s h2 h1, fun e => by
        have e : V.held = true := e
        rw [h8.2] at e
        cases e⟩
  · split at h
    · rename_i h9
      split at h
      · cases h
      · rename_i hn
        cases h
        have h1 : atB V.ents R.key = true := by
          cases e : atB V.ents R.key with
          | true => rfl
          | false => exact absurd (.inl e) hn
        have h2 : plN V.ents R.key ≠ 0 := fun e => hn (.inr e)
        obtain ⟨q, hq, e⟩ := atB_ex h1
        have := sound_left g.s h2 hq
        rw [e] at this
        exact ⟨⟨this.head, fun e => by (cases e), this.inn, this.ris⟩, fun e => by
          have e : V.held = true := e
          rw [h9.2] at e
          cases e⟩
    · split at h
      · split at h
        · cases h
        · rename_i hn
          cases h
          have h1 : atB V.ents R.hkey = true := by
            cases e : atB V.ents R.hkey with
            | true => rfl
            | false => exact absurd (.inl e) hn
          exact ⟨⟨g.s.head, g.s.high, g.s.inn, g.s.ris⟩, fun _ => ⟨h1, fun e => hn (.inr (.inl e))⟩⟩
      · split at h
        · rename_i h11
          cases h
          obtain ⟨h1, h2⟩ := g.h h11.2
          have := sound_cut g.s h2 (plN_le V.ents V.hk)
          exact ⟨⟨this.head, this.high, this.inn, this.ris⟩, fun e => by (cases e)⟩
        · cases h
theorem fold_good : ∀ {l : List Rc} {V : Vw}, foldU l = some V → Good V
  | [], V, h => by (cases h)
  | [b], V, h => by
    simp only [foldU] at h
    split at h
    · rename_i hs
      cases h
      exact ⟨hs.2, fun e => by (cases e)⟩
    · cases h
  | r :: s :: t, V, h => by
    rw [foldU_cons r (by simp)] at h
    obtain ⟨U, hU, hV⟩ := Option.bind_eq_some_iff.1 h
    exact up_good hV (fold_good hU)

def ChildAt (L : List Et) (key : ByteArray) (i : Nat) (p : Et) : Prop := L[i]? = some p ∧ ltS key p.1 = false ∧ ∀ q, L[i + 1]? = some q → ltS key q.1 = true
theorem Ris.child {L : List Et} (h : Ris L) {key : ByteArray} {i : Nat} {p : Et} (hn : ndN L key = i + 1) (hp : L[i]? = some p) : ChildAt L key i p := by
  unfold ndN at hn
  split at hn
  · rename_i ha
    obtain ⟨q, hq, e⟩ := atB_ex ha
    obtain rfl : plN L key = i := by omega
    rw [hq] at hp
    cases hp
    exact ⟨hq, by rw [e]; exact ltS_irrefl _, fun r hr => by rw [← e]; exact h _ _ _ hq hr⟩
  · rename_i ha
    have ha : atB L key = false := by simpa using ha
    exact ⟨hp, ltS_asymm (plN_in (by omega) hp), fun q hq => h.behind ha (by omega) hq⟩
theorem Sound.child {V : Vw} (h : Sound V) {key : ByteArray} (hi : inS V.low V.high V.unb key = true) : ∃ i p, ChildAt V.ents key i p ∧ childM V key = some p := by
  have h0 : ndN V.ents key ≠ 0 := by
    unfold ndN
    split
    · omega
    · rename_i ha
      have := pl_low h hi (by simpa using ha)
      omega
  obtain ⟨p, hp⟩ := some_of_lt (L := V.ents) (i := ndN V.ents key - 1) (by have := ndN_le V.ents key; omega)
  refine ⟨ndN V.ents key - 1, p, h.rise.child (by omega) hp, ?_⟩
  unfold childM
  rw [if_pos ⟨hi, h0⟩]
  exact hp
theorem childM_out {V : Vw} {key : ByteArray} (h : inS V.low V.high V.unb key = false) : childM V key = none := by
  unfold childM
  rw [if_neg (by rw [h]; simp)]
theorem upM_split {V : Vw} {R : Rc} (h : R.kind = 9) (hh : V.held = false) (hn : ¬ (atB V.ents R.key = false ∨ plN V.ents R.key = 0)) : upM V R = some { V with ents := V.ents.take (plN V.ents R.key), high := R.key, unb := false, right := R.page } := by
  unfold upM
  rw [if_neg (fun e => by have := e.1; rw [h] at this; revert this; decide), if_pos ⟨h, hh⟩, if_neg hn]
theorem upM_drop {V : Vw} {R : Rc} (h : R.kind = 11) (hh : V.held = true) :
    upM V R = some { V with ents := V.ents.take (plN V.ents V.hk) ++ V.ents.drop (plN V.ents V.hk + 1), held := false, hp := 0, hl := 0, hk := nilS } := by
  unfold upM
  rw [if_neg (fun e => by have := e.1; rw [h] at this; revert this; decide), if_neg (fun e => by have := e.1; rw [h] at this; revert this; decide), if_neg (fun e => by have := e.1; rw [h] at this; revert this; decide), if_pos ⟨h, hh⟩]
end Go.Proofs.YtfihfjbakfadkaaGreatDoor
namespace Go.Proofs.YtfihfjbakfadkaaGreatDoor
open Go.RowKit Go.BigFrame
set_option maxRecDepth 100000
set_option linter.unusedVariables false

set_option maxHeartbeats 4000000 in
theorem rsoundV_ok (V : Vw) (A : Option Addr) (c : Nat) (w : World) (h : VwIn w V A c) :
    Calls Tryz.prog 76 #[vwV V (.slice A V.ents.length c)] w (SoundPost V w) := by
  obtain ⟨w0, hw0⟩ : ∃ w0, w0 = w.alloc (.cells (vwA V (.slice A V.ents.length c)) 46) := ⟨_, rfl⟩
  have f0 : Fr none_ w w0 := by rw [hw0]; exact (Fr.refl none_ w).alloc _
  have F0 := hid_ f0
  have H0 := hid_ (h.keep f0)
  have B0 : Hid (Blk w0 w.heap.size 46 (vwA V (.slice A V.ents.length c))) := hid_ (by rw [hw0]; exact Blk.new w _ _)
  have h1000 := h.ok.ents.1
  have OK := hid_ h.ok
  have v0 : w0.cell? ⟨w.heap.size, 0, none⟩ = some (.string V.low) := B0.out.cell' rfl
  have v1 : w0.cell? ⟨w.heap.size, 1, none⟩ = some (.string V.high) := B0.out.cell' rfl
  have v2 : w0.cell? ⟨w.heap.size, 2, none⟩ = some (.bool V.unb) := B0.out.cell' rfl
  have v4 : w0.cell? ⟨w.heap.size, 4, none⟩ = some (.slice A V.ents.length c) := B0.out.cell' rfl
  clear h f0
  by_cases hl0 : V.ents.length = 0
  · have hne : ¬ Sound V := fun h => by
      obtain ⟨p, hp, _⟩ := h.head
      rw [List.getElem?_eq_none (by omega)] at hp
      cases hp
    have HNE := hid_ hne
    rw [hl0] at v4 hw0
    rw [hl0]
    clear hl0 hne
    go_enter Tryz.func76, Tryz.ntmps76
    go_wp2_with fail
    change Code.wp _ _ _ _ (w.alloc (.cells (vwA V (.slice A 0 c)) 46))
    rw [← hw0]
    clear hw0
    go_quiet (fail)
    go_wp2_with fail
    go_ret
    exact ⟨false, rfl, ⟨(fun h => by cases h), fun h => absurd h HNE.out⟩, F0.out.drewN _⟩
  obtain ⟨p0, hp0⟩ : ∃ p, V.ents[0]? = some p := ⟨_, List.getElem?_eq_getElem (by omega)⟩
  obtain ⟨b, off, rfl, hb, c0, c1⟩ := et_at H0.out.rd hp0
  have hd0 : decide ((0 : Int) < (V.ents.length : Int)) = true := by simp; omega
  have hd0' : ((V.ents.length : Int) == 0) = false := beq_eq_false_iff_ne.2 (by omega)
  have hi1 : (0 : Int) < (V.ents.length : Int) := by omega
  simp only [Nat.zero_mul, Nat.add_zero] at c0
  have HP0 := hid_ hp0
  have HL0 := hid_ hl0
  clear hp0 c1 hl0
  by_cases hlow : p0.1 = V.low
  case neg =>
    have hne : ¬ Sound V := fun h => by
      obtain ⟨p, hp, e⟩ := h.head
      rw [HP0.out] at hp
      cases hp
      exact hlow e
    have HNE := hid_ hne
    have hs1 := sEq_ne hlow
    unfold sEq at hs1
    have hs2 : (p0.1.toList != V.low.toList) = true := by simpa [bne] using hs1
    clear hne hlow
    go_enter Tryz.func76, Tryz.ntmps76
    go_wp2_with fail
    change Code.wp _ _ _ _ (w.alloc (.cells (vwA V (.slice (some ⟨b, off, none⟩) V.ents.length c)) 46))
    rw [← hw0]
    clear hw0
    go_quiet (fail)
    go_wp2_with fail
    go_ret
    exact ⟨false, rfl, ⟨(fun h => by cases h), fun h => absurd h HNE.out⟩, F0.out.drewN _⟩
  have hs1 : (p0.1.toList == V.low.toList) = true := sEq_iff.2 hlow
  have hs2 : (p0.1.toList != V.low.toList) = false := by simpa [bne] using hs1
  have HLOW := hid_ hlow
  clear hlow
  by_cases hhi : V.unb = true ∧ V.high ≠ nilS
  · have hne : ¬ Sound V := fun h => hhi.2 (h.high hhi.1)
    have HNE := hid_ hne
    rw [hhi.1] at v2
    have hh : V.high.toList.isEmpty = false := by
      cases e : V.high.toList.isEmpty with
      | false => rfl
      | true => exact absurd (ba_eq (by rw [← ba_toList, List.isEmpty_iff.1 e])) hhi.2
    have hh2 : (!V.high.toList.isEmpty) = true := by rw [hh]; rfl
    clear hne hhi
    go_enter Tryz.func76, Tryz.ntmps76
    go_wp2_with fail
    change Code.wp _ _ _ _ (w.alloc (.cells (vwA V (.slice (some ⟨b, off, none⟩) V.ents.length c)) 46))
    rw [← hw0]
    clear hw0
    go_quiet (fail)
    go_wp2_with fail
    go_ret
    exact ⟨false, rfl, ⟨(fun h => by cases h), fun h => absurd h HNE.out⟩, F0.out.drewN _⟩
  have HHI : Hid (V.unb = true → V.high = nilS) := hid_ (fun hu => Classical.byContradiction fun hn => hhi ⟨hu, hn⟩)
  clear hhi
  go_enter Tryz.func76, Tryz.ntmps76
  go_upto_region 1 with fail
  change Code.wp _ _ _ _ (w.alloc (.cells (vwA V (.slice (some ⟨b, off, none⟩) V.ents.length c)) 46))
  rw [← hw0]
  clear hw0
  go_cut [26] (fun v wq => v = .bool false ∧ Fr none_ w0 wq)
  case first =>
    cases hu : V.unb with
    | false =>
      rw [hu] at v2
      clear hu
      go_quiet (fail)
      go_wp2
      go_meet
      case rel => exact ⟨rfl, (Fr.refl none_ w0).drewN _⟩
    | true =>
      have hh := HHI.out hu
      rw [hu] at v2
      rw [hh] at v1
      clear hu hh
      go_quiet (fail)
      go_wp2
      go_meet
      case rel => exact ⟨rfl, (Fr.refl none_ w0).drewN _⟩
  case rest =>
  obtain ⟨rfl, hf⟩ := hcut
  have B1 := hid_ (B0.out.fr hf id)
  have F1 := hid_ (F0.out.then_none hf)
  have H1 := hid_ (H0.out.keep hf)
  clear hf v0 v1 v2 v4 c0 hs1 hs2 hd0 hd0'
  have v4 : wc.cell? ⟨w.heap.size, 4, none⟩ = some (.slice (some ⟨b, off, none⟩) V.ents.length c) := B1.out.cell' rfl
  go_wp2_with fail
  clear v4 F0 H0 B0
  go_loopw [3] (fun i wr => ∃ k : Nat, k ≤ V.ents.length ∧ i = .int .i64 k ∧ SoundTo V k ∧ Fr none_ wc wr) (fun i _ => V.ents.length - (intOf i).toNat)
  case atStart => exact ⟨0, Nat.zero_le _, rfl, ⟨fun j p hj => by omega, fun j p q hj => by omega⟩, Fr.refl _ _⟩
  case round =>
    obtain ⟨k, hk, rfl, hst, hF⟩ := hrel
    have ST := hid_ hst
    have B := hid_ (B1.out.fr hF id)
    have H := hid_ (H1.out.keep hF)
    have F := hid_ (F1.out.then_none hF)
    have FC := hid_ hF
    clear hst hF
    have hi0 : (0 : Int) ≤ (k : Int) := Int.natCast_nonneg _
    have vv4 : wr.cell? ⟨w.heap.size, 4, none⟩ = some (.slice (some ⟨b, off, none⟩) V.ents.length c) := B.out.cell' rfl
    by_cases hlt : k < V.ents.length
    · have hi1' : (k : Int) < (V.ents.length : Int) := by omega
      obtain ⟨p, hp⟩ : ∃ p, V.ents[k]? = some p := ⟨_, List.getElem?_eq_getElem hlt⟩
      obtain ⟨b2, off2, hA, hb2, c0, c1⟩ := et_at H.out.rd hp
      obtain ⟨rfl, rfl⟩ : b = b2 ∧ off = off2 := by injection hA with hA; injection hA with e1 e2; exact ⟨e1, e2⟩
      have HP := hid_ hp
      clear hp hA
      have B2 := B
      have H2 := H
      go_upto_region 6 with fail
      obtain ⟨w2, rfl⟩ : ∃ z : World, z = wr := ⟨_, rfl⟩
      have F2 := FC
      have hpk := OK.out.ents.2 p (List.mem_of_getElem? HP.out)
      have HPK := hid_ hpk
      clear hpk
      go_cut [63] (fun v wq => ∃ bb : Bool, v = .bool bb ∧ (bb = false ↔ (inS V.low V.high V.unb p.1 = true ∧ ∀ q, 0 < k → V.ents[k - 1]? = some q → ltS q.1 p.1 = true)) ∧ Fr none_ w2 wq)
      case first =>
        have v0 : w2.cell? ⟨w.heap.size, 0, none⟩ = some (.string V.low) := B2.out.cell' rfl
        have v1 : w2.cell? ⟨w.heap.size, 1, none⟩ = some (.string V.high) := B2.out.cell' rfl
        have v2 : w2.cell? ⟨w.heap.size, 2, none⟩ = some (.bool V.unb) := B2.out.cell' rfl
        have v3 : w2.cell? ⟨w.heap.size, 3, none⟩ = some (.int .i64 V.right) := B2.out.cell' rfl
        have v4 : w2.cell? ⟨w.heap.size, 4, none⟩ = some (.slice (some ⟨b, off, none⟩) V.ents.length c) := B2.out.cell' rfl
        have v5 : w2.cell? ⟨w.heap.size, 5, none⟩ = some (.bool V.held) := B2.out.cell' rfl
        have v6 : w2.cell? ⟨w.heap.size, 6, none⟩ = some (.int .i64 V.hp) := B2.out.cell' rfl
        have v7 : w2.cell? ⟨w.heap.size, 7, none⟩ = some (.int .i64 V.hl) := B2.out.cell' rfl
        have v8 : w2.cell? ⟨w.heap.size, 8, none⟩ = some (.string V.hk) := B2.out.cell' rfl
        have y0 : ∀ x : Wx w2, x.to.cell? ⟨w.heap.size, 0, none⟩ = some (.string V.low) := fun x => x.cell v0
        have y1 : ∀ x : Wx w2, x.to.cell? ⟨w.heap.size, 1, none⟩ = some (.string V.high) := fun x => x.cell v1
        have y2 : ∀ x : Wx w2, x.to.cell? ⟨w.heap.size, 2, none⟩ = some (.bool V.unb) := fun x => x.cell v2
        have y3 : ∀ x : Wx w2, x.to.cell? ⟨w.heap.size, 3, none⟩ = some (.int .i64 V.right) := fun x => x.cell v3
        have y4 : ∀ x : Wx w2, x.to.cell? ⟨w.heap.size, 4, none⟩ = some (.slice (some ⟨b, off, none⟩) V.ents.length c) := fun x => x.cell v4
        have y5 : ∀ x : Wx w2, x.to.cell? ⟨w.heap.size, 5, none⟩ = some (.bool V.held) := fun x => x.cell v5
        have y6 : ∀ x : Wx w2, x.to.cell? ⟨w.heap.size, 6, none⟩ = some (.int .i64 V.hp) := fun x => x.cell v6
        have y7 : ∀ x : Wx w2, x.to.cell? ⟨w.heap.size, 7, none⟩ = some (.int .i64 V.hl) := fun x => x.cell v7
        have y8 : ∀ x : Wx w2, x.to.cell? ⟨w.heap.size, 8, none⟩ = some (.string V.hk) := fun x => x.cell v8
        have z0 : ∀ x : Wx w2, x.to.cell? ⟨b, off + k * 2, none⟩ = some (.string p.1) := fun x => x.cell c0
        clear v0 v1 v2 v3 v4 v5 v6 v7 v8 c0 c1
        cases hin : inS V.low V.high V.unb p.1 with
        | false =>
          have HC : Hid (∀ x : Wx w2, Calls Tryz.prog 43 #[vwV V (.slice (some ⟨b, off, none⟩) V.ents.length c), .string p.1] x.to fun e w' => e = .returned (.bool false) ∧ Fr none_ x.to w') := hid_ (fun x => by
            have h := rvin_ok V (.slice (some ⟨b, off, none⟩) V.ents.length c) p.1 x.to OK.out.low OK.out.high HPK.out
            rwa [hin] at h)
          have HIN := hid_ hin
          clear hin
          refine wp_region_quiet_x (by kernel_rfl) (by kernel_rfl) ?_
          repeat (first | go_big_quiet_step ((go_at_call 43; exact Calls.quiet_x (HC.out _))) | quiet_step ((go_at_call 43; exact Calls.quiet_x (HC.out _))))
          refine wpQuiet_nil ?_
          intro _ hw'
          obtain ⟨xq, hw''⟩ := hw'
          subst hw''
          go_wp2
          go_meet
          case rel => exact ⟨true, rfl, ⟨(fun h => by cases h), fun h => by rw [HIN.out] at h; cases h.1⟩, xq.fr⟩
        | true =>
          have HC : Hid (∀ x : Wx w2, Calls Tryz.prog 43 #[vwV V (.slice (some ⟨b, off, none⟩) V.ents.length c), .string p.1] x.to fun e w' => e = .returned (.bool true) ∧ Fr none_ x.to w') := hid_ (fun x => by
            have h := rvin_ok V (.slice (some ⟨b, off, none⟩) V.ents.length c) p.1 x.to OK.out.low OK.out.high HPK.out
            rwa [hin] at h)
          have HIN := hid_ hin
          clear hin
          by_cases hk0 : 0 < k
          · obtain ⟨q, hq⟩ : ∃ q, V.ents[k - 1]? = some q := ⟨_, List.getElem?_eq_getElem (by omega)⟩
            obtain ⟨b3, off3, hA, hb3, d0, d1⟩ := et_at H2.out.rd hq
            obtain ⟨rfl, rfl⟩ : b = b3 ∧ off = off3 := by injection hA with hA; injection hA with e1 e2; exact ⟨e1, e2⟩
            have e0 : ∀ x : Wx w2, x.to.cell? ⟨b, off + (k - 1) * 2, none⟩ = some (.string q.1) := fun x => x.cell d0
            have hqk := OK.out.ents.2 q (List.mem_of_getElem? hq)
            have HQK := hid_ hqk
            have HQ := hid_ hq
            have HQ' : Hid ((∀ q', 0 < k → V.ents[k - 1]? = some q' → ltS q'.1 p.1 = true) ↔ ltS q.1 p.1 = true) := hid_ ⟨fun h => h q hk0 hq, fun h q' _ hq' => by rw [hq] at hq'; cases hq'; exact h⟩
            have HC2 : Hid (∀ x : Wx w2, Calls Tryz.prog 42 #[.string q.1, .string p.1] x.to fun e w' => e = .returned (.bool (ltS q.1 p.1)) ∧ Fr none_ x.to w') := hid_ (fun x => (before_ok q.1 p.1 x.to HQK.out.le HPK.out.le).mono (by rintro e w' ⟨rfl, n, rfl⟩; exact ⟨rfl, (Fr.refl none_ _).drewN n⟩))
            have hw1 : IntKind.i64.wrap ((k : Int) - 1) = ((k - 1 : Nat) : Int) := by rw [show (k : Int) - 1 = ((k - 1 : Nat) : Int) by omega]; exact IntWalk.i64_in _ (by omega)
            have hdk : decide (0 < k) = true := decide_eq_true hk0
            have hj0 : (0 : Int) ≤ ((k - 1 : Nat) : Int) := Int.natCast_nonneg _
            have hj1 : ((k - 1 : Nat) : Int) < (V.ents.length : Int) := by omega
            obtain ⟨j, hj⟩ : ∃ j, j = k - 1 := ⟨_, rfl⟩
            rw [← hj] at e0 hw1 hj0 hj1
            have HJ := hid_ hj
            clear hq hA d0 d1 hqk hj hk0
            refine wp_region_quiet_x (by kernel_rfl) (by kernel_rfl) ?_
            repeat (first | go_big_quiet_step ((first | (go_at_call 43; exact Calls.quiet_x (HC.out _)) | (go_at_call 42; exact Calls.quiet_x (HC2.out _)))) | quiet_step ((first | (go_at_call 43; exact Calls.quiet_x (HC.out _)) | (go_at_call 42; exact Calls.quiet_x (HC2.out _)))))
            refine wpQuiet_nil ?_
            intro _ hw'
            obtain ⟨xq, hw''⟩ := hw'
            subst hw''
            go_wp2
            go_meet
            case rel => exact ⟨_, rfl, by
              rw [HIN.out, HQ'.out]
              cases ltS q.1 p.1 <;> simp, xq.fr⟩
          · have hdk : decide (0 < k) = false := decide_eq_false hk0
            have hk0' : k = 0 := by omega
            have HK0 := hid_ hk0'
            clear hk0 hk0'
            refine wp_region_quiet_x (by kernel_rfl) (by kernel_rfl) ?_
            repeat (first | go_big_quiet_step ((go_at_call 43; exact Calls.quiet_x (HC.out _))) | quiet_step ((go_at_call 43; exact Calls.quiet_x (HC.out _))))
            refine wpQuiet_nil ?_
            intro _ hw'
            obtain ⟨xq, hw''⟩ := hw'
            subst hw''
            go_wp2
            go_meet
            case rel => exact ⟨false, rfl, ⟨fun _ => ⟨HIN.out, fun q h => by have := HK0.out; omega⟩, fun _ => rfl⟩, xq.fr⟩
      case rest =>
      obtain ⟨bb, rfl, hbb, hf⟩ := hcut
      have F3 := hid_ (F2.out.then_none hf)
      have HB := hid_ hbb
      clear hf hbb B2 H2 F2
      cases bb with
      | true =>
        have hns : ¬ Sound V := fun hS => by
          have h := HB.out.2 ⟨hS.inn p (List.mem_of_getElem? HP.out), fun q h0 hq => hS.ris (k - 1) q p hq (by rw [show k - 1 + 1 = k by omega]; exact HP.out)⟩
          cases h
        have HNS := hid_ hns
        clear hns
        go_wp2_with fail
        go_ret
        exact ⟨false, rfl, ⟨(fun h => by cases h), fun h => absurd h HNS.out⟩, F1.out.then_none F3.out⟩
      | false =>
        have hst : SoundTo V (k + 1) := by
          have h := HB.out.1 rfl
          refine ⟨fun j p' hj hp' => ?_, fun j p' q hj hp' hq => ?_⟩
          · rcases Nat.lt_succ_iff_lt_or_eq.1 hj with hj | rfl
            · exact ST.out.1 j p' hj hp'
            · rw [HP.out] at hp'; cases hp'; exact h.1
          · rcases Nat.lt_succ_iff_lt_or_eq.1 hj with hj | hj
            · exact ST.out.2 j p' q hj hp' hq
            · rw [hj, HP.out] at hq
              cases hq
              exact h.2 p' (by omega) (by rw [show k - 1 = j by omega]; exact hp')
        have HST := hid_ hst
        clear hst
        go_wp2_with fail
        go_roundw
        case rel => exact ⟨k + 1, by omega, by go_num, HST.out, F3.out⟩
        case measure => simp [intOf]; omega
    · obtain rfl : k = V.ents.length := by omega
      have hS : Sound V := ⟨⟨p0, HP0.out, HLOW.out⟩, HHI.out, fun p hp => by obtain ⟨j, hj, e⟩ := List.mem_iff_getElem.1 hp; exact ST.out.1 j p hj (by rw [List.getElem?_eq_getElem hj, e]), fun j p q hp hq => ST.out.2 j p q (List.getElem?_eq_some_iff.1 hq).1 hp hq⟩
      have HS := hid_ hS
      clear hS
      go_wp2_with fail
      go_ret
      exact ⟨true, rfl, ⟨fun _ => HS.out, fun _ => rfl⟩, F.out⟩
set_option maxHeartbeats 4000000 in
theorem rahead8_ok (V : Vw) (A : Option Addr) (c : Nat) (key : ByteArray) (w : World) (h : VwIn w V A c) (hk : SzOk key) :
    Calls Tryz.prog 78 #[vwV V (.slice A V.ents.length c), .string key] w fun e w' => e = .returned (.int .i64 (plN V.ents key : Nat)) ∧ Fr none_ w w' := by
  obtain ⟨w0, hw0⟩ : ∃ w0, w0 = w.alloc (.cells (vwA V (.slice A V.ents.length c)) 46) := ⟨_, rfl⟩
  have f0 : Fr none_ w w0 := by rw [hw0]; exact (Fr.refl none_ w).alloc _
  have F0 := hid_ f0
  have H0 := hid_ (h.keep f0)
  have B0 : Hid (Blk w0 w.heap.size 46 (vwA V (.slice A V.ents.length c))) := hid_ (by rw [hw0]; exact Blk.new w _ _)
  have hle := plN_le V.ents key
  have h1000 := h.ok.ents.1
  have HSZ := hid_ (And.intro h.ok.ents.2 hk)
  clear h f0 hk
  go_enter Tryz.func78, Tryz.ntmps78
  go_wp2_with fail
  change Code.wp _ _ _ _ (w.alloc (.cells (vwA V (.slice A V.ents.length c)) 46))
  rw [← hw0]
  clear hw0
  go_loopw [5] (fun i wr => ∃ k : Nat, k ≤ plN V.ents key ∧ i = .int .i64 k ∧ Fr none_ w0 wr) (fun i _ => plN V.ents key - (intOf i).toNat)
  case atStart => exact ⟨0, Nat.zero_le _, rfl, Fr.refl _ _⟩
  case round =>
    obtain ⟨k, hk, rfl, hF⟩ := hrel
    have B := hid_ (B0.out.fr hF id)
    have H := hid_ (H0.out.keep hF)
    have F := hid_ hF
    clear hF
    have v4 : wr.cell? ⟨w.heap.size, 4, none⟩ = some (.slice A V.ents.length c) := B.out.cell' rfl
    have hi0 : (0 : Int) ≤ (k : Int) := Int.natCast_nonneg _
    by_cases hlt : k < plN V.ents key
    · have hkl : k < V.ents.length := by omega
      have hi1 : (k : Int) < (V.ents.length : Int) := by omega
      have hd1 : decide ((k : Int) < (V.ents.length : Int)) = true := by simp; omega
      obtain ⟨p, hp⟩ : ∃ p, V.ents[k]? = some p := ⟨_, List.getElem?_eq_getElem hkl⟩
      obtain ⟨b, off, rfl, hb, c0, c1⟩ := et_at H.out.rd hp
      have hcmp : ltS p.1 key = true := plN_in hlt hp
      have hsz := HSZ.out.1 p (List.mem_of_getElem? hp)
      have HCMP := hid_ hcmp
      clear hp hcmp c1
      go_wp2_with fail
      refine (before_ok p.1 key _ hsz.le HSZ.out.2.le).mono ?_
      rintro e w1 ⟨rfl, q, rfl⟩
      rw [HCMP.out]
      have FQ := hid_ (F.out.drewN q)
      clear v4 c0
      go_wp2_with fail
      go_roundw
      case rel => exact ⟨k + 1, by omega, by go_num, FQ.out⟩
      case measure => simp [intOf]; omega
    · obtain rfl : k = plN V.ents key := by omega
      by_cases hl : plN V.ents key < V.ents.length
      · obtain ⟨p, hp⟩ : ∃ p, V.ents[plN V.ents key]? = some p := ⟨_, List.getElem?_eq_getElem hl⟩
        obtain ⟨b, off, rfl, hb, c0, c1⟩ := et_at H.out.rd hp
        have hcmp : ltS p.1 key = false := plN_at hp
        have hsz := HSZ.out.1 p (List.mem_of_getElem? hp)
        have hat := atB_some hp
        obtain ⟨n, hn⟩ : ∃ n, n = plN V.ents key := ⟨_, rfl⟩
        have hi1 : (n : Int) < (V.ents.length : Int) := by omega
        have hd1 : decide ((n : Int) < (V.ents.length : Int)) = true := by simp; omega
        have hd2 : decide (n < V.ents.length) = true := by simp; omega
        rw [← hn] at c0 c1 hi0
        rw [← hn]
        have HCMP := hid_ hcmp
        have HAT := hid_ hat
        have HN := hid_ hn
        clear hp hcmp c1 hl hlt hat hn hk hle
        go_wp2_with fail
        refine (before_ok p.1 key _ hsz.le HSZ.out.2.le).mono ?_
        rintro e w1 ⟨rfl, q, rfl⟩
        rw [HCMP.out]
        have FQ := hid_ (F.out.drewN q)
        go_wp2_with fail
        go_ret
        exact ⟨by rw [← HN.out]; rfl, F0.out.then_none (by repeat (first | exact FQ.out | apply Fr.drewN | apply Fr.drew))⟩
      · have he : plN V.ents key = V.ents.length := by omega
        have hat := atB_none he
        have HAT := hid_ hat
        have HE := hid_ he
        have hd1 : decide ((V.ents.length : Int) < (V.ents.length : Int)) = false := by simp
        rw [he]
        clear he hat hl hlt hk hle
        go_wp2_with fail
        go_ret
        exact ⟨by rw [HE.out]; rfl, F0.out.then_none (by repeat (first | exact F.out | apply Fr.drewN | apply Fr.drew))⟩

end Go.Proofs.YtfihfjbakfadkaaGreatDoor
namespace Go.Proofs.YtfihfjbakfadkaaGreatDoor
open Go.RowKit Go.BigFrame
set_option maxRecDepth 100000
set_option linter.unusedVariables false

/-- A page as a value. -/
structure Pz where
  n : Int
  hs : Int
  hg : Int
  C : Option Addr
  nc : Nat
  x : Nat
  vr : Value
  leaf : Bool
  lv : Lw
  A : Option Addr
  c : Nat
  iv : Vw
  B : Option Addr
  d : Nat
abbrev pzA (P : Pz) : Array Value := pgA P.n P.hs P.hg (.slice P.C P.nc P.x) P.vr P.leaf P.lv (.slice P.A P.lv.rows.length P.c) P.iv (.slice P.B P.iv.ents.length P.d)
structure PzOk (w : World) (P : Pz) : Prop where
  low : SzOk P.lv.low
  high : SzOk P.lv.high
  rows : P.lv.rows.length ≤ 300000
  iv : VwIn w P.iv P.B P.d
  nc : P.nc ≤ 4000
theorem PzOk.keep {w w' : World} {P : Pz} (h : PzOk w P) (hf : Fr none_ w w') : PzOk w' P := ⟨h.low, h.high, h.rows, h.iv.keep hf, h.nc⟩
def Pz.low (P : Pz) : ByteArray := if P.leaf then P.lv.low else P.iv.low
def Pz.high (P : Pz) : ByteArray := if P.leaf then P.lv.high else P.iv.high
def Pz.unb (P : Pz) : Bool := if P.leaf then P.lv.unb else P.iv.unb
def Pz.right (P : Pz) : Int := if P.leaf then P.lv.right else P.iv.right
def Pz.size (P : Pz) : Nat := P.lv.rows.length + P.iv.ents.length
theorem results_tmp4 {fn : Func} {t u v x : Tmp} (h : fn.results = #[.tmp t, .tmp u, .tmp v, .tmp x]) (tmps : Array Value) (P : Program) (w : World) :
    (results fn tmps).run P w = .ok (.tuple #[tmps.getD t undef, tmps.getD u undef, tmps.getD v undef, tmps.getD x undef]) w := by
  simp [results, h]
abbrev RetQ (v : Value) (w : World) (e : Ending) (w' : World) : Prop := e = .returned v ∧ Fr none_ w w'
set_option maxHeartbeats 4000000 in
theorem bounds_ok (P : Pz) (w : World) : Calls Tryz.prog 13 #[.agg (pzA P)] w (RetQ (.tuple #[.string P.low, .string P.high, .bool P.unb, .int .i64 P.right]) w) := by
  obtain ⟨w0, hw0⟩ : ∃ z, z = w.alloc (.cells (pzA P) 40) := ⟨_, rfl⟩
  have f0 : Fr none_ w w0 := by rw [hw0]; exact (Fr.refl none_ w).alloc _
  have B0 : Hid (Blk w0 w.heap.size 40 (pzA P)) := hid_ (by rw [hw0]; exact Blk.new w _ _)
  have F0 := hid_ f0
  clear f0
  go_enter Tryz.func13, Tryz.ntmps13
  go_upto_region 1 with fail
  change Code.wp _ _ _ _ (w.alloc (.cells (pzA P) 40))
  rw [← hw0]
  clear hw0
  have p5 : w0.cell? ⟨w.heap.size, 5, none⟩ = some (.bool P.leaf) := B0.out.cell' rfl
  have p6 : w0.cell? ⟨w.heap.size, 6, none⟩ = some (.string P.lv.low) := B0.out.cell' rfl
  have p7 : w0.cell? ⟨w.heap.size, 7, none⟩ = some (.string P.lv.high) := B0.out.cell' rfl
  have p8 : w0.cell? ⟨w.heap.size, 8, none⟩ = some (.bool P.lv.unb) := B0.out.cell' rfl
  have p9 : w0.cell? ⟨w.heap.size, 9, none⟩ = some (.int .i64 P.lv.right) := B0.out.cell' rfl
  have p12 : w0.cell? ⟨w.heap.size, 12, none⟩ = some (.string P.iv.low) := B0.out.cell' rfl
  have p13 : w0.cell? ⟨w.heap.size, 13, none⟩ = some (.string P.iv.high) := B0.out.cell' rfl
  have p14 : w0.cell? ⟨w.heap.size, 14, none⟩ = some (.bool P.iv.unb) := B0.out.cell' rfl
  have p15 : w0.cell? ⟨w.heap.size, 15, none⟩ = some (.int .i64 P.iv.right) := B0.out.cell' rfl
  cases hl : P.leaf with
  | true =>
    rw [hl] at p5
    have HL := hid_ hl
    clear hl
    go_wp2_with fail
    go_quiet (fail)
    go_wp2
    (try simp only [Exit.inBlock, Exit.then])
    refine bodyPost_ret (results_tmp4 rfl _ _ _) rfl ?_
    exact ⟨by simp [Pz.low, Pz.high, Pz.unb, Pz.right, HL.out], by repeat (first | exact F0.out | apply Fr.drewN | apply Fr.drew)⟩
  | false =>
    rw [hl] at p5
    have HL := hid_ hl
    clear hl
    go_wp2_with fail
    go_quiet (fail)
    go_wp2
    (try simp only [Exit.inBlock, Exit.then])
    refine bodyPost_ret (results_tmp4 rfl _ _ _) rfl ?_
    exact ⟨by simp [Pz.low, Pz.high, Pz.unb, Pz.right, HL.out], by repeat (first | exact F0.out | apply Fr.drewN | apply Fr.drew)⟩
set_option maxHeartbeats 4000000 in
theorem phas_ok (P : Pz) (key : ByteArray) (w : World) (h1 : SzOk P.low) (h2 : SzOk P.high) (h3 : SzOk key) : Calls Tryz.prog 15 #[.agg (pzA P), .string key] w (RetQ (.bool (inS P.low P.high P.unb key)) w) := by
  obtain ⟨w0, hw0⟩ : ∃ z, z = w.alloc (.cells (pzA P) 40) := ⟨_, rfl⟩
  have f0 : Fr none_ w w0 := by rw [hw0]; exact (Fr.refl none_ w).alloc _
  have B0 : Hid (Blk w0 w.heap.size 40 (pzA P)) := hid_ (by rw [hw0]; exact Blk.new w _ _)
  have F0 := hid_ f0
  have HS := hid_ (And.intro h1 (And.intro h2 h3))
  clear f0 h1 h2 h3
  go_enter Tryz.func15, Tryz.ntmps15
  go_upto_region 1 with fail
  change Code.wp _ _ _ _ (w.alloc (.cells (pzA P) 40))
  rw [← hw0]
  clear hw0
  go_wp2_with (refine wpList_load_mid rfl 40 (.tmp 2) rfl w.heap.size 0 rfl (pzA P).toList _ (Blk.range7 (l := (pzA P).toList) B0.out) Tryz.underlying40 rfl page_size ?_)
  refine (bounds_ok P w0).mono ?_
  rintro e w1 ⟨rfl, hf⟩
  replace F0 := hid_ (F0.out.then_none hf)
  clear hf
  go_wp2_with fail
  refine (in_ok P.low P.high P.unb key _ HS.out.1.le HS.out.2.1.le HS.out.2.2.le).mono ?_
  rintro e w2 ⟨rfl, q, rfl⟩
  go_wp2
  go_ret
  exact ⟨rfl, F0.out.drewN q⟩
set_option maxHeartbeats 4000000 in
theorem psize_ok (P : Pz) (w : World) (h1 : P.lv.rows.length ≤ 300000) (h2 : P.iv.ents.length ≤ 1000) : Calls Tryz.prog 14 #[.agg (pzA P)] w (RetQ (.int .i64 (P.size : Nat)) w) := by
  obtain ⟨w0, hw0⟩ : ∃ z, z = w.alloc (.cells (pzA P) 40) := ⟨_, rfl⟩
  have f0 : Fr none_ w w0 := by rw [hw0]; exact (Fr.refl none_ w).alloc _
  have B0 : Hid (Blk w0 w.heap.size 40 (pzA P)) := hid_ (by rw [hw0]; exact Blk.new w _ _)
  have F0 := hid_ f0
  clear f0
  go_enter Tryz.func14, Tryz.ntmps14
  go_upto_region 1 with fail
  change Code.wp _ _ _ _ (w.alloc (.cells (pzA P) 40))
  rw [← hw0]
  clear hw0
  have p10 : w0.cell? ⟨w.heap.size, 10, none⟩ = some (.slice P.A P.lv.rows.length P.c) := B0.out.cell' rfl
  have p16 : w0.cell? ⟨w.heap.size, 16, none⟩ = some (.slice P.B P.iv.ents.length P.d) := B0.out.cell' rfl
  have hsum : (P.lv.rows.length : Int) + (P.iv.ents.length : Int) = ((P.size : Nat) : Int) := by unfold Pz.size; omega
  have hw1 : IntKind.i64.wrap ((P.lv.rows.length : Int) + (P.iv.ents.length : Int)) = ((P.size : Nat) : Int) := by rw [hsum]; exact IntWalk.i64_in _ (by unfold Pz.size; omega)
  have HW := hid_ hw1
  go_wp2
  go_ret
  refine ⟨?_, F0.out⟩
  first | rfl | (simp only [Pz.size, Int.natCast_add]; rfl)
end Go.Proofs.YtfihfjbakfadkaaGreatDoor
namespace Go.Proofs.YtfihfjbakfadkaaGreatDoor
open Go.RowKit Go.BigFrame
set_option maxRecDepth 100000
set_option linter.unusedVariables false

structure L6 where
  a0 : Int
  a1 : Int
  a2 : Int
  rows : Int
  chain : Int
  a5 : Int
end Go.Proofs.YtfihfjbakfadkaaGreatDoor
namespace Go.Proofs.YtfihfjbakfadkaaGreatDoor
open Go.RowKit Go.BigFrame
set_option maxRecDepth 100000
set_option linter.unusedVariables false

/-- A guarded load of a whole struct. -/
theorem wpList_load_midG {P : Program} {ops : Array Oper} {rest : List Oper} {op : Oper} {a : Act} {w : World} {Q : Exit → Act → World → Prop} (hw : Region.wanted op (yielded ops a.tmps) = true) (ty : TypeId) (x : Operand) (ho : op.op = .load ty x)
    (b o : Nat) (hx : a.eval x = .pointer (some ⟨b, o, none⟩)) (cs : List Value) (d : TypeDesc) (hc : w.rangeAt b o cs)
    (hu : P.underlying ty = some d) (hd : d.isRow = true) (hi : (P.info? ty).map (·.size) = some cs.length)
    (h : wpList P ops Q rest (a.put op.dst (.agg cs.toArray)) w) : wpList P ops Q (op :: rest) a w := by
  unfold wpList
  rw [if_pos hw]
  exact .inl (wp_load_mid ty x ho b o hx cs d hc hu hd hi h)
end Go.Proofs.YtfihfjbakfadkaaGreatDoor
namespace Go.Proofs.YtfihfjbakfadkaaGreatDoor
open Go.RowKit Go.ChangeShapes Go.WideShapes
set_option maxRecDepth 100000
set_option linter.unusedVariables false

structure ChIn (w : World) (C : Ch) : Prop where
  rd : RecReads w C.R C.A C.B
  low : SzOk C.R.low
  high : SzOk C.R.high
  key : SzOk C.R.key
  hkey : SzOk C.R.hkey
  ents : ∀ p ∈ C.R.ents, SzOk p.1
  cap : C.R.ents.length ≤ C.d
  capm : C.d ≤ maxLen
  rows : C.R.rows.length ≤ 4398046511104
theorem ChIn.keep {w w' : World} {C : Ch} (h : ChIn w C) (hf : Fr none_ w w') : ChIn w' C := ⟨h.rd.keep hf, h.low, h.high, h.key, h.hkey, h.ents, h.cap, h.capm, h.rows⟩
def InReads (w : World) (A : Option Addr) (n : Nat) (L : List Ch) : Prop :=
  L.length = n ∧ (0 < n → ∃ b off, A = some ⟨b, off, none⟩ ∧ b < w.heap.size ∧ ∀ (k : Nat) (C : Ch), L[k]? = some C → w.rangeAt b (off + k * 15) (recL C) ∧ ChIn w C)
theorem InReads.keep {w w' : World} {A : Option Addr} {n : Nat} {L : List Ch} (h : InReads w A n L) (hf : Fr none_ w w') : InReads w' A n L :=
  ⟨h.1, fun hn => by
    obtain ⟨b, off, hA, hb, hc⟩ := h.2 hn
    exact ⟨b, off, hA, by have := hf.size; omega, fun k D hD => ⟨fun j v hv => cellFr ((hc k D hD).1 j v hv) hf, (hc k D hD).2.keep hf⟩⟩⟩
theorem InReads.at_ {w : World} {A : Option Addr} {n : Nat} {L : List Ch} (h : InReads w A n L) {k : Nat} {C : Ch} (hC : L[k]? = some C) : ∃ b off, A = some ⟨b, off, none⟩ ∧ b < w.heap.size ∧ w.rangeAt b (off + k * 15) (recL C) ∧ ChIn w C := by
  obtain ⟨b, off, hA, hb, hc⟩ := h.2 (by have := (List.getElem?_eq_some_iff.1 hC).1; have := h.1; omega)
  exact ⟨b, off, hA, hb, hc k C hC⟩
/-- A chain of few entries, read as the layer's contracts want it. -/
theorem InReads.few {w : World} {A : Option Addr} {n : Nat} {L : List Ch} (h : InReads w A n L) (hf : ∀ C ∈ L, C.R.ents.length ≤ 100) : ChReads w A n L :=
  ⟨h.1, fun hn => by
    obtain ⟨b, off, hA, hb, hc⟩ := h.2 hn
    refine ⟨b, off, hA, hb, fun k C hC => ⟨(hc k C hC).1, ?_⟩⟩
    have hi := (hc k C hC).2
    have := hf C (List.mem_of_getElem? hC)
    exact ⟨hi.rd, hi.low, hi.high, hi.key, hi.hkey, ⟨by omega, hi.ents⟩, hi.cap, hi.capm⟩⟩

def FewOk8 (L : List Ch) : Prop := L.length ≤ 40 ∧ ∀ (k : Nat) (C : Ch), L[k]? = some C → C.R.ents.length ≤ 100
def FewPost8 (L : List Ch) (w : World) (e : Ending) (w' : World) : Prop := ∃ b : Bool, e = .returned (.bool b) ∧ (b = true → FewOk8 L) ∧ Fr none_ w w'
theorem min_le (x : Int) (h : 0 ≤ x) : ∃ y : Int, (if 3001 < x then (3001 : Int) else x) = y ∧ 0 ≤ y ∧ y ≤ 3001 := ⟨_, rfl, by split <;> omega, by split <;> omega⟩
theorem few_step {L : List Ch} {k m : Nat} {C : Ch} (h : m ≤ 100 → ∀ (j : Nat) (D : Ch), j < k → L[j]? = some D → D.R.ents.length ≤ 100) (hC : L[k]? = some C) :
    m + C.R.ents.length ≤ 100 → ∀ (j : Nat) (D : Ch), j < k + 1 → L[j]? = some D → D.R.ents.length ≤ 100 := fun hm j D hj hD => by
  rcases Nat.lt_or_ge j k with h1 | h1
  · exact h (by omega) j D h1 hD
  · obtain rfl : j = k := by omega
    rw [hC] at hD
    cases hD
    omega
set_option maxHeartbeats 4000000 in
theorem few8_ok (A : Option Addr) (n cap : Nat) (L : List Ch) (w : World) (h : InReads w A n L) (hm : n ≤ maxLen) : Calls Tryz.prog 30 #[.slice A n cap] w (FewPost8 L w) := by
  unfold maxLen at hm
  have H := hid_ h
  have hln := h.1
  clear h
  go_enter Tryz.func30, Tryz.ntmps30
  go_wp2_with fail
  go_loopw [3, 4, 5] (fun a y i wr => ∃ (k m : Nat) (x : Int), k ≤ n ∧ k ≤ 41 ∧ i = .int .i64 k ∧ a = .int .i64 m ∧ y = .int .i64 x ∧ m ≤ k * 101 ∧ 0 ≤ x ∧ x ≤ (k : Int) * 400000 ∧ (m ≤ 100 → ∀ (j : Nat) (C : Ch), j < k → L[j]? = some C → C.R.ents.length ≤ 100) ∧ Fr none_ w wr) (fun _ _ i _ => n - (intOf i).toNat)
  case atStart => exact ⟨0, 0, 0, Nat.zero_le _, by omega, rfl, rfl, rfl, by omega, by omega, by omega, fun _ j C hj => by omega, Fr.refl _ _⟩
  case round =>
    obtain ⟨k, m, x, hk, hk41, rfl, rfl, rfl, hm1, hx0, hx1, hall, hfr⟩ := hrel
    have HA := hid_ hall
    have F := hid_ hfr
    clear hall hfr
    by_cases hlt : k < n
    · obtain ⟨C, hC⟩ : ∃ C, L[k]? = some C := ⟨_, List.getElem?_eq_getElem (by omega)⟩
      obtain ⟨b, off, rfl, hb, hR, hO⟩ := (H.out.keep F.out).at_ hC
      have hi0 : (0 : Int) ≤ (k : Int) := Int.natCast_nonneg _
      have hi1 : (k : Int) < (n : Int) := by omega
      by_cases h40 : (k : Int) ≤ 40
      · have HD := hid_ hC
        have r1 := hR 1 _ rfl
        have r2 := hR 2 _ rfl
        have r7 := hR 7 _ rfl
        have r12 := hR 12 _ rfl
        have z1 := hO.low.le
        have z2 := hO.high.le
        have z7 := hO.key.le
        have z12 := hO.hkey.le
        have HE := hid_ hO.ents
        have hcap := hO.cap
        have hcapm := hO.capm
        unfold maxLen at hcapm
        obtain ⟨m1, e1, m1a, m1b⟩ := min_le (C.R.low.size : Int) (by omega)
        obtain ⟨m2, e2, m2a, m2b⟩ := min_le (C.R.high.size : Int) (by omega)
        obtain ⟨m3, e3, m3a, m3b⟩ := min_le (C.R.key.size : Int) (by omega)
        obtain ⟨m4, e4, m4a, m4b⟩ := min_le (C.R.hkey.size : Int) (by omega)
        clear hR hO hC
        go_wp2_with fail
        go_quiet (fail)
        go_wp2_with fail
        clear r1 r2 r7 r12 e1 e2 e3 e4 z1 z2 z7 z12
        have hs0 : 0 ≤ x + (m3 + m1 + m2 + m4) := by omega
        have hs1 : x + (m3 + m1 + m2 + m4) ≤ (k : Int) * 400000 + 12004 := by omega
        clear m1a m1b m2a m2b m3a m3b m4a m4b hx0 hx1
        go_loopw [3, 4, 6] (fun a y i wr => ∃ (t : Nat) (x' : Int), t ≤ C.R.ents.length ∧ t ≤ 101 ∧ i = .int .i64 t ∧ a = .int .i64 ((m + t : Nat) : Int) ∧ y = .int .i64 x' ∧ 0 ≤ x' ∧ x' ≤ (k : Int) * 400000 + 12004 + (t : Int) * 3001 ∧ Fr none_ w wr) (fun _ _ i _ => C.R.ents.length - (intOf i).toNat)
        case atStart => exact ⟨0, _, Nat.zero_le _, by omega, rfl, rfl, rfl, by omega, by omega, F.out.drewN _⟩
        case round =>
          obtain ⟨t, x', ht, ht1, rfl, rfl, rfl, hx2, hx3, hfr⟩ := hrel
          have FX := hid_ hfr
          clear hfr hb
          obtain ⟨b', off', e, hb, hR, hO⟩ := (H.out.keep FX.out).at_ HD.out
          obtain ⟨rfl, rfl⟩ : b = b' ∧ off = off' := by injection e with e; injection e with e1 e2; exact ⟨e1, e2⟩
          clear e
          have r6 := hR 6 _ rfl
          have hj0 : (0 : Int) ≤ (t : Int) := Int.natCast_nonneg _
          by_cases hle : t < C.R.ents.length
          · obtain ⟨p, hp⟩ : ∃ p, C.R.ents[t]? = some p := ⟨_, List.getElem?_eq_getElem hle⟩
            obtain ⟨b2, off2, eB, hb2, q0, q1⟩ := et_at hO.rd.2 hp
            have hj1 : (t : Int) < (C.R.ents.length : Int) := by omega
            have zp := (HE.out p (List.mem_of_getElem? hp)).le
            rw [eB] at r6
            clear hR hO hp
            by_cases h100 : (t : Int) ≤ 100
            · obtain ⟨m5, e5, m5a, m5b⟩ := min_le (p.1.size : Int) (by omega)
              go_wp2_with fail
              go_roundw
              case rel => exact ⟨t + 1, _, by omega, by omega, by go_num, by go_num, rfl, by omega, by omega, FX.out⟩
              case measure => simp [intOf]; omega
            · go_wp2_with fail
              go_roundw
              case rel => exact ⟨k + 1, m + t, x', by omega, by omega, by go_num, rfl, rfl, by omega, by omega, by omega, fun h => by omega, FX.out⟩
              case measure => simp [intOf]; omega
          · obtain rfl : t = C.R.ents.length := by omega
            clear hR hO
            have hj1 : ¬ ((C.R.ents.length : Int) < (C.R.ents.length : Int)) := by omega
            go_wp2_with fail
            go_roundw
            case rel => exact ⟨k + 1, m + C.R.ents.length, x', by omega, by omega, by go_num, rfl, rfl, by omega, by omega, by omega, few_step HA.out HD.out, FX.out⟩
            case measure => simp [intOf]; omega
      · obtain rfl : k = 41 := by omega
        go_wp2
        go_ret
        exact ⟨false, rfl, (fun h => by cases h), F.out⟩
    · obtain rfl : k = n := by omega
      have hall : m ≤ 100 → ∀ (j : Nat) (C : Ch), L[j]? = some C → C.R.ents.length ≤ 100 := fun h j D hD => HA.out h j D (by have := (List.getElem?_eq_some_iff.1 hD).1; omega) hD
      have HB := hid_ hall
      clear hall
      by_cases g1 : (k : Int) ≤ 40
      · by_cases g2 : (m : Int) ≤ 100
        · by_cases g3 : x ≤ 3000
          · go_wp2
            go_ret
            exact ⟨true, rfl, fun _ => ⟨by omega, HB.out (by omega)⟩, F.out⟩
          · go_wp2
            go_ret
            exact ⟨false, rfl, (fun h => by cases h), F.out⟩
        · go_wp2
          go_ret
          exact ⟨false, rfl, (fun h => by cases h), F.out⟩
      · go_wp2
        go_ret
        exact ⟨false, rfl, (fun h => by cases h), F.out⟩
end Go.Proofs.YtfihfjbakfadkaaGreatDoor
namespace Go.Proofs.YtfihfjbakfadkaaGreatDoor
open Go.RowKit Go.ChangeShapes Go.WideShapes
set_option maxRecDepth 100000
set_option linter.unusedVariables false

theorem bytes_Row : Tryz.prog.bytesOf 143 = 32 := by kernel_rfl
theorem rows_conf2 {H : Type} {enc : TypeId × Value → H} {w : World} {v : Value} (h : Conf enc Tryz.prog w (.slice 28) v) : ∃ A n c L, v = .slice A n c ∧ n ≤ c ∧ c ≤ 4398046511104 ∧ RwReads w A n L := by
  obtain ⟨fuel, d, ps, ht, hlt, hwt⟩ := h
  obtain ⟨A, n, c, rfl, h1, h2, h3, h4, h5⟩ := open_list 6 Tryz.underlying28 ht hlt hwt (by rw [leaves_Row]; rfl) (by rw [leaves_Row, cells_Row]; rfl)
  obtain ⟨L, hL⟩ := rows_of (Row_at h5)
  rw [bytes_Row] at h3
  unfold reachBytes at h3
  exact ⟨A, n, c, L, rfl, h1, by omega, hL⟩
theorem szOk_of {s : ByteArray} (h : s.size ≤ reachBytes) : SzOk s := by
  unfold SzOk
  unfold reachBytes at h
  omega
end Go.Proofs.YtfihfjbakfadkaaGreatDoor
namespace Go.Proofs.YtfihfjbakfadkaaGreatDoor
open Go.RowKit Go.ChangeShapes Go.WideShapes
set_option maxRecDepth 100000
set_option linter.unusedVariables false

/-- The rows of records, and their values, are texts that may be. -/
def RwIn (L : List Ch) : Prop := ∀ C ∈ L, SzOk C.R.val ∧ ∀ p ∈ C.R.rows, SzOk p.1 ∧ SzOk p.2
def FewOk7 (L : List Ch) : Prop := L.length ≤ 40 ∧ ∀ (k : Nat) (C : Ch), L[k]? = some C → C.R.rows.length ≤ 100
def FewPost7 (L : List Ch) (w : World) (e : Ending) (w' : World) : Prop := ∃ b : Bool, e = .returned (.bool b) ∧ (b = true → FewOk7 L) ∧ Fr none_ w w'
theorem few_step7 {L : List Ch} {k m : Nat} {C : Ch} (h : m ≤ 100 → ∀ (j : Nat) (D : Ch), j < k → L[j]? = some D → D.R.rows.length ≤ 100) (hC : L[k]? = some C) :
    m + C.R.rows.length ≤ 100 → ∀ (j : Nat) (D : Ch), j < k + 1 → L[j]? = some D → D.R.rows.length ≤ 100 := fun hm j D hj hD => by
  rcases Nat.lt_or_ge j k with h1 | h1
  · exact h (by omega) j D h1 hD
  · obtain rfl : j = k := by omega
    rw [hC] at hD
    cases hD
    omega
set_option maxHeartbeats 4000000 in
theorem few7_ok (A : Option Addr) (n cap : Nat) (L : List Ch) (w : World) (h : InReads w A n L) (hw : RwIn L) (hm : n ≤ maxLen) : Calls Tryz.prog 29 #[.slice A n cap] w (FewPost7 L w) := by
  unfold maxLen at hm
  have HRL : Hid (∀ C ∈ L, C.R.rows.length ≤ 4398046511104) := hid_ (fun C hC => by obtain ⟨k, hk⟩ := List.mem_iff_getElem?.1 hC; obtain ⟨_, _, _, _, _, hO⟩ := h.at_ hk; exact hO.rows)
  have H := hid_ h
  have HW := hid_ hw
  have hln := h.1
  clear h hw
  go_enter Tryz.func29, Tryz.ntmps29
  go_wp2_with fail
  go_loopw [3, 4, 5] (fun a y i wr => ∃ (k m : Nat) (x : Int), k ≤ n ∧ k ≤ 41 ∧ i = .int .i64 k ∧ a = .int .i64 m ∧ y = .int .i64 x ∧ m ≤ k * 101 ∧ 0 ≤ x ∧ x ≤ (k : Int) * 700000 ∧ (m ≤ 100 → ∀ (j : Nat) (C : Ch), j < k → L[j]? = some C → C.R.rows.length ≤ 100) ∧ Fr none_ w wr) (fun _ _ i _ => n - (intOf i).toNat)
  case atStart => exact ⟨0, 0, 0, Nat.zero_le _, by omega, rfl, rfl, rfl, by omega, by omega, by omega, fun _ j C hj => by omega, Fr.refl _ _⟩
  case round =>
    obtain ⟨k, m, x, hk, hk41, rfl, rfl, rfl, hm1, hx0, hx1, hall, hfr⟩ := hrel
    have HA := hid_ hall
    have F := hid_ hfr
    clear hall hfr
    by_cases hlt : k < n
    · obtain ⟨C, hC⟩ : ∃ C, L[k]? = some C := ⟨_, List.getElem?_eq_getElem (by omega)⟩
      obtain ⟨b, off, rfl, hb, hR, hO⟩ := (H.out.keep F.out).at_ hC
      have hi0 : (0 : Int) ≤ (k : Int) := Int.natCast_nonneg _
      have hi1 : (k : Int) < (n : Int) := by omega
      by_cases h40 : (k : Int) ≤ 40
      · have HD := hid_ hC
        have r1 := hR 1 _ rfl
        have r2 := hR 2 _ rfl
        have r7 := hR 7 _ rfl
        have r8 := hR 8 _ rfl
        have z1 := hO.low.le
        have z2 := hO.high.le
        have z7 := hO.key.le
        have z8 := (HW.out C (List.mem_of_getElem? hC)).1.le
        have HE := hid_ (HW.out C (List.mem_of_getElem? hC)).2
        have hcap := HRL.out C (List.mem_of_getElem? hC)
        obtain ⟨m1, e1, m1a, m1b⟩ := min_le (C.R.low.size : Int) (by omega)
        obtain ⟨m2, e2, m2a, m2b⟩ := min_le (C.R.high.size : Int) (by omega)
        obtain ⟨m3, e3, m3a, m3b⟩ := min_le (C.R.key.size : Int) (by omega)
        obtain ⟨m4, e4, m4a, m4b⟩ := min_le (C.R.val.size : Int) (by omega)
        clear hR hO hC
        go_wp2_with fail
        go_quiet (fail)
        go_wp2_with fail
        clear r1 r2 r7 r8 e1 e2 e3 e4 z1 z2 z7 z8
        have hs0 : 0 ≤ x + (m3 + m4 + m1 + m2) := by omega
        have hs1 : x + (m3 + m4 + m1 + m2) ≤ (k : Int) * 700000 + 12004 := by omega
        clear m1a m1b m2a m2b m3a m3b m4a m4b hx0 hx1
        go_loopw [3, 4, 6] (fun a y i wr => ∃ (t : Nat) (x' : Int), t ≤ C.R.rows.length ∧ t ≤ 101 ∧ i = .int .i64 t ∧ a = .int .i64 ((m + t : Nat) : Int) ∧ y = .int .i64 x' ∧ 0 ≤ x' ∧ x' ≤ (k : Int) * 700000 + 12004 + (t : Int) * 6002 ∧ Fr none_ w wr) (fun _ _ i _ => C.R.rows.length - (intOf i).toNat)
        case atStart => exact ⟨0, _, Nat.zero_le _, by omega, rfl, rfl, rfl, by omega, by omega, F.out.drewN _⟩
        case round =>
          obtain ⟨t, x', ht, ht1, rfl, rfl, rfl, hx2, hx3, hfr⟩ := hrel
          have FX := hid_ hfr
          clear hfr hb
          obtain ⟨b', off', e, hb, hR, hO⟩ := (H.out.keep FX.out).at_ HD.out
          obtain ⟨rfl, rfl⟩ : b = b' ∧ off = off' := by injection e with e; injection e with e1 e2; exact ⟨e1, e2⟩
          clear e
          have r5 := hR 5 _ rfl
          have hj0 : (0 : Int) ≤ (t : Int) := Int.natCast_nonneg _
          by_cases hle : t < C.R.rows.length
          · obtain ⟨p, hp⟩ : ∃ p, C.R.rows[t]? = some p := ⟨_, List.getElem?_eq_getElem hle⟩
            obtain ⟨b2, off2, eB, hb2, q0, q1⟩ := rw_at hO.rd.1 hp
            have hj1 : (t : Int) < (C.R.rows.length : Int) := by omega
            have zp := (HE.out p (List.mem_of_getElem? hp)).1.le
            have zp2 := (HE.out p (List.mem_of_getElem? hp)).2.le
            rw [eB] at r5
            clear hR hO hp
            by_cases h100 : (t : Int) ≤ 100
            · obtain ⟨m5, e5, m5a, m5b⟩ := min_le (p.1.size : Int) (by omega)
              obtain ⟨m6, e6, m6a, m6b⟩ := min_le (p.2.size : Int) (by omega)
              go_wp2_with fail
              go_quiet (fail)
              go_wp2_with fail
              go_roundw
              case rel => exact ⟨t + 1, _, by omega, by omega, by go_num, by go_num, rfl, by omega, by omega, by repeat (first | exact FX.out | apply Fr.drewN | apply Fr.drew)⟩
              case measure => simp [intOf]; omega
            · go_wp2_with fail
              go_roundw
              case rel => exact ⟨k + 1, m + t, x', by omega, by omega, by go_num, rfl, rfl, by omega, by omega, by omega, fun h => by omega, FX.out⟩
              case measure => simp [intOf]; omega
          · obtain rfl : t = C.R.rows.length := by omega
            clear hR hO
            have hj1 : ¬ ((C.R.rows.length : Int) < (C.R.rows.length : Int)) := by omega
            go_wp2_with fail
            go_roundw
            case rel => exact ⟨k + 1, m + C.R.rows.length, x', by omega, by omega, by go_num, rfl, rfl, by omega, by omega, by omega, few_step7 HA.out HD.out, FX.out⟩
            case measure => simp [intOf]; omega
      · obtain rfl : k = 41 := by omega
        go_wp2
        go_ret
        exact ⟨false, rfl, (fun h => by cases h), F.out⟩
    · obtain rfl : k = n := by omega
      have hall : m ≤ 100 → ∀ (j : Nat) (C : Ch), L[j]? = some C → C.R.rows.length ≤ 100 := fun h j D hD => HA.out h j D (by have := (List.getElem?_eq_some_iff.1 hD).1; omega) hD
      have HB := hid_ hall
      clear hall
      by_cases g1 : (k : Int) ≤ 40
      · by_cases g2 : (m : Int) ≤ 100
        · by_cases g3 : x ≤ 3000
          · go_wp2
            go_ret
            exact ⟨true, rfl, fun _ => ⟨by omega, HB.out (by omega)⟩, F.out⟩
          · go_wp2
            go_ret
            exact ⟨false, rfl, (fun h => by cases h), F.out⟩
        · go_wp2
          go_ret
          exact ⟨false, rfl, (fun h => by cases h), F.out⟩
      · go_wp2
        go_ret
        exact ⟨false, rfl, (fun h => by cases h), F.out⟩
end Go.Proofs.YtfihfjbakfadkaaGreatDoor
namespace Go.Proofs.YtfihfjbakfadkaaGreatDoor
open Go.RowKit Go.BigFrame Go.ChangeShapes Go.WideShapes
set_option maxRecDepth 100000
set_option linter.unusedVariables false

structure Cz where
  n : Int
  A1 : Option Addr
  n1 : Nat
  c1 : Nat
  A2 : Option Addr
  n2 : Nat
  c2 : Nat
  some_ : Bool
  key : ByteArray
  l : L6
  writes : Bool
structure CzIn (w : World) (c : Cz) (L1 L2 : List Ch) : Prop where
  i1 : InReads w c.A1 c.n1 L1
  r1 : RwIn L1
  m1 : c.n1 ≤ maxLen
  i2 : InReads w c.A2 c.n2 L2
  r2 : RwIn L2
  m2 : c.n2 ≤ maxLen
  key : SzOk c.key
theorem CzIn.keep {w w' : World} {c : Cz} {L1 L2 : List Ch} (h : CzIn w c L1 L2) (hf : Fr none_ w w') : CzIn w' c L1 L2 := ⟨h.i1.keep hf, h.r1, h.m1, h.i2.keep hf, h.r2, h.m2, h.key⟩
end Go.Proofs.YtfihfjbakfadkaaGreatDoor
namespace Go.Proofs.YtfihfjbakfadkaaGreatDoor
open Go.RowKit Go.BigFrame
set_option maxRecDepth 100000
set_option linter.unusedVariables false

section
variable {P : Program} {md : Region.Mode} {ops : Array Oper} {Q : Exit → Act → World → Prop} {S : World → Prop}
end
theorem VwIn.farZ {w w' : World} {V : Vw} {A : Option Addr} {c X : Nat} (h : VwIn w V A c) (hX : Blk w X 40 pgZ) (hf : Fr (only X) w w') : VwIn w' V A c :=
  h.farP (n := 0) (hs := 0) (hg := 0) (vc := .slice none 0 0) (vr := .slice none 0 0) (leaf := false) (lv := Lw.zero) (sl := .slice none 0 0) (iv := Vw.zero) (si := .slice none 0 0) hX ⟨_, _, _, rfl⟩ ⟨_, _, _, rfl⟩ ⟨_, _, _, rfl⟩ hf
theorem few_ents {L : List Ch} (h : FewOk8 L) : ∀ C ∈ L, C.R.ents.length ≤ 100 := fun C hC => by obtain ⟨k, hk⟩ := List.mem_iff_getElem?.1 hC; exact h.2 k C hk
theorem few_rows {L : List Ch} (h : FewOk7 L) (hw : RwIn L) : RwOkL L := fun C hC => by
  obtain ⟨k, hk⟩ := List.mem_iff_getElem?.1 hC
  have := h.2 k C hk
  exact ⟨(hw C hC).1, ⟨by omega, (hw C hC).2⟩, by omega⟩
end Go.Proofs.YtfihfjbakfadkaaGreatDoor
namespace Go.Proofs.YtfihfjbakfadkaaGreatDoor
open Go.RowKit Go.BigFrame
set_option linter.unusedVariables false
section
/-- wpQuiet, closed to the unifier. -/
structure Qw7 (P : Program) (ops : Array Oper) (C : World → Prop) (Q : Act → Prop) (l : List Oper) (a : Act) : Prop where
  h : wpQuiet P ops C Q l a
variable {P : Program} {ops : Array Oper} {C : World → Prop} {Q : Act → Prop} {a : Act} {o : Oper} {rest : List Oper}
theorem q_skip7 (d : Option Tmp) (hd : o.dst = d) (hw : Region.wanted o (yielded ops a.tmps) = false) (h : Qw7 P ops C Q rest (a.put d undef)) : Qw7 P ops C Q (o :: rest) a := by
  subst hd
  exact ⟨wpQuiet_skip hw h.h⟩
theorem q_val7 (d : Option Tmp) (v : Value) (hd : o.dst = d) (hw : Region.wanted o (yielded ops a.tmps) = true) (hx : ∀ w, C w → (execOp a.eval o).run P w = .ok (.value v) w) (h : Qw7 P ops C Q rest (a.put d v)) : Qw7 P ops C Q (o :: rest) a := by
  subst hd
  refine ⟨wpQuiet_want hw fun K hK => ⟨v, fun w hC => ?_, hK _ h.h⟩⟩
  unfold Oper.quietAt
  rw [hx w hC]
  exact ⟨rfl, rfl⟩
theorem q_call7 (d : Option Tmp) (v : Value) (f : FuncId) (vs : Array Value) (hd : o.dst = d) (hw : Region.wanted o (yielded ops a.tmps) = true) (hx : ∀ w, C w → (execOp a.eval o).run P w = .ok (.enter f vs) w) (hc : ∀ w, C w → Calls P f vs w fun e w' => e = .returned v ∧ C w') (h : Qw7 P ops C Q rest (a.put d v)) : Qw7 P ops C Q (o :: rest) a := by
  subst hd
  refine ⟨wpQuiet_want hw fun K hK => ⟨v, fun w hC => ?_, hK _ h.h⟩⟩
  unfold Oper.quietAt
  rw [hx w hC]
  exact ⟨rfl, hc w hC⟩
theorem run_loadAt_cell7 (w : World) (ad : Addr) (ty : TypeId) (v : Value) (d : TypeDesc) (hc : w.cell? ad = some v) (hu : P.underlying ty = some d) (hd : d.isRow = false) :
    (Instr.loadAt ty (.pointer (some ad))).run P w = .ok v w := by
  have hagg : (isAgg ty).run P w = .ok false w := by
    unfold isAgg
    rw [Sem.run_bind, run_underlying hu w]
    cases d <;> simp_all
  have hl : (load ad).run P w = .ok v w := by
    rw [run_load, hc]
  simp only [Instr.loadAt, Instr.sureAddr, loadVar, Sem.run_bind, Sem.run_pure, Result.andThen_ok, hagg, Bool.false_eq_true, if_false, hl]
theorem q_cell7 (d : Option Tmp) (v : Value) (ty : TypeId) (x : Operand) (ad : Addr) (td : TypeDesc) (hd : o.dst = d) (hw : Region.wanted o (yielded ops a.tmps) = true) (ho : o.op = .load ty x) (hx : a.eval x = .pointer (some ad)) (hc : ∀ w, C w → w.cell? ad = some v) (hu : P.underlying ty = some td) (hr : td.isRow = false) (h : Qw7 P ops C Q rest (a.put d v)) : Qw7 P ops C Q (o :: rest) a :=
  q_val7 d v hd hw (fun w hC => by
    unfold execOp
    simp only [ho, hx, Sem.run_bind, Sem.run_pure, Result.andThen_ok, run_loadAt_cell7 w ad ty v td (hc w hC) hu hr]) h
theorem q_mid7 (d : Option Tmp) (cs : List Value) (ty : TypeId) (x : Operand) (b off : Nat) (td : TypeDesc) (hd : o.dst = d) (hw : Region.wanted o (yielded ops a.tmps) = true) (ho : o.op = .load ty x) (hx : a.eval x = .pointer (some ⟨b, off, none⟩)) (hc : ∀ w, C w → w.rangeAt b off cs) (hu : P.underlying ty = some td) (hr : td.isRow = true) (hi : (P.info? ty).map (·.size) = some cs.length) (h : Qw7 P ops C Q rest (a.put d (.agg cs.toArray))) : Qw7 P ops C Q (o :: rest) a :=
  q_val7 d _ hd hw (fun w hC => by
    unfold execOp
    simp only [ho, hx, Sem.run_bind, Sem.run_pure, Result.andThen_ok, run_loadAt_mid w b off ty cs td (hc w hC) hu hr hi]) h
theorem q_done7 (h : Q a) : Qw7 P ops C Q [] a := ⟨h⟩
theorem wp_region_q7 (C : World → Prop) {id : Nat} {K : Exit → Act → World → Prop} {l : List Oper} {w : World} (hm : P.follows .mixedOrders = true) (hB : Region.lexB .any l.toArray = true) (h0 : C w.drew)
    (h : Qw7 P l.toArray C (fun a' => ∀ w', C w' → K .normal a' w') l a) : (Code.region id l.toArray true).wp P K a w :=
  wp_region_quiet (C := C) hm hB h0 (by simpa using h.h)
/-- An operation whose value is a function's of the model. -/
theorem q_op7 (d : Option Tmp) (v : Value) (m : Sem Value) (hd : o.dst = d) (hw : Region.wanted o (yielded ops a.tmps) = true) (he : execOp a.eval o = (do pure (.value (← m)))) (hx : ∀ w, C w → m.run P w = .ok v w) (h : Qw7 P ops C Q rest (a.put d v)) : Qw7 P ops C Q (o :: rest) a :=
  q_val7 d v hd hw (fun w hC => by rw [he]; simp only [Sem.run_bind, Sem.run_pure, Result.andThen_ok, hx w hC]) h
theorem q_bool7 (d : Option Tmp) (b c : Bool) (hbc : b = c) (hd : o.dst = d) (hw : Region.wanted o (yielded ops a.tmps) = true) (hx : ∀ w, C w → (execOp a.eval o).run P w = .ok (.value (.bool b)) w) (h : Qw7 P ops C Q rest (a.put d (.bool c))) : Qw7 P ops C Q (o :: rest) a :=
  q_val7 d (.bool c) hd hw (fun w hC => by rw [← hbc]; exact hx w hC) h
end
end Go.Proofs.YtfihfjbakfadkaaGreatDoor
namespace Go.Proofs.YtfihfjbakfadkaaGreatDoor
open Go.RowKit
set_option linter.unusedVariables false
theorem run_sliceHi {n m c : Nat} {A : Option Addr} (t e : TypeId) (hu : Tryz.prog.underlying t = some (.slice e)) (hs : ∀ w, (sizeOf e).run Tryz.prog w = .ok 2 w) (hb : n ≤ c) (w : World) :
    (Instr.sliceAt t (.slice A m c) none (some (.int .i64 n)) none).run Tryz.prog w = .ok (.slice A n c) w := by
  have h1 : (n : Int) ≤ (c : Int) := by omega
  have h0 : (0 : Int) ≤ (n : Int) := Int.natCast_nonneg _
  simp [hu, go_sem, h1, h0, hs]
theorem run_sliceLo {n m c : Nat} {A : Option Addr} (t e : TypeId) (hu : Tryz.prog.underlying t = some (.slice e)) (hs : ∀ w, (sizeOf e).run Tryz.prog w = .ok 2 w) (hb : n ≤ m) (hc : m ≤ c) (w : World) :
    (Instr.sliceAt t (.slice A m c) (some (.int .i64 n)) none none).run Tryz.prog w = .ok (.slice (if c = n then A else A.map (·.add (n * 2))) (m - n) (c - n)) w := by
  have h1 : (n : Int) ≤ (c : Int) := by omega
  have h2 : (n : Int) ≤ (m : Int) := by omega
  have h0 : (0 : Int) ≤ (n : Int) := Int.natCast_nonneg _
  simp [hu, go_sem, h0, h2, hs]
section
variable {ops : Array Oper} {S : World → Prop} {a : Act} {oi : Oper}
theorem y_sliceHi {n m c : Nat} {A : Option Addr} (t : TypeId) (x h : Operand) (e : TypeId) (hw : Region.wanted oi (yielded ops a.tmps) = true) (ho : oi.op = .slice t x none (some h) none) (hu : Tryz.prog.underlying t = some (.slice e)) (hs : ∀ w, (sizeOf e).run Tryz.prog w = .ok 2 w)
    (hx : a.eval x = .slice A m c) (hh : a.eval h = .int .i64 n) (hb : n ≤ c) : YieldsIf Tryz.prog ops S oi (.slice A n c) a := .inl ⟨hw, fun w hS => by
  unfold execOp
  simp only [ho, Option.map_none, Option.map_some, hx, hh, Sem.run_bind, Sem.run_pure, Result.andThen_ok, run_sliceHi t e hu hs hb]⟩
theorem y_int {P : Program} {x y : Int} (hxy : x = y) (hw : Region.wanted oi (yielded ops a.tmps) = true) (hx : ∀ w, S w → (execOp a.eval oi).run P w = .ok (.value (.int .i64 x)) w) : YieldsIf P ops S oi (.int .i64 y) a := .inl ⟨hw, fun w hS => by rw [← hxy]; exact hx w hS⟩
theorem y_sliceLo {n m c : Nat} {A : Option Addr} (t : TypeId) (x h : Operand) (e : TypeId) (hw : Region.wanted oi (yielded ops a.tmps) = true) (ho : oi.op = .slice t x (some h) none none) (hu : Tryz.prog.underlying t = some (.slice e)) (hs : ∀ w, (sizeOf e).run Tryz.prog w = .ok 2 w)
    (hx : a.eval x = .slice A m c) (hh : a.eval h = .int .i64 n) (hb : n ≤ m) (hc : m ≤ c) : YieldsIf Tryz.prog ops S oi (.slice (if c = n then A else A.map (·.add (n * 2))) (m - n) (c - n)) a := .inl ⟨hw, fun w hS => by
  unfold execOp
  simp only [ho, Option.map_none, Option.map_some, hx, hh, Sem.run_bind, Sem.run_pure, Result.andThen_ok, run_sliceLo t e hu hs hb hc]⟩
theorem ent_sz : ∀ w, (sizeOf 59).run Tryz.prog w = .ok 2 w := fun w => by kernel_rfl
variable {P : Program} {md : Region.Mode} {Q : Exit → Act → World → Prop} {m fuel : Nat} {listed : Array Bool} {w : World}
/-- The one operation that is ready, whose value and world are known. -/
theorem u_run (i : Nat) (d : Option Tmp) (v : Value) (w2 : World) (hi : ops[i]? = some oi) (hd : oi.dst = d) (hw : Region.wanted oi (yielded ops a.tmps) = true) (hr : Region.ready md ops listed = [i])
    (hx : (execOp a.eval oi).run P w = .ok (.value v) w2) (hS : m ≤ i ∨ S w2) (h : UwA P md ops Q S m fuel (listed.setIfInBounds i true) (a.put d v) w2) : UwA P md ops Q S m (fuel + 1) listed a w := by
  subst hd
  refine u_one i hi hw hr ?_
  unfold Oper.wp
  rw [hx, Oper.upon_value]
  exact ⟨hS, h⟩
theorem wp_known {K : Act → World → Prop} (v : Value) (w2 : World) (hx : (execOp a.eval oi).run P w = .ok (.value v) w2) (h : K (a.put oi.dst v) w2) : Oper.wp P oi a w K Q := by
  unfold Oper.wp
  rw [hx, Oper.upon_value]
  exact h
theorem q_int7 {o : Oper} {rest : List Oper} {C : World → Prop} {R : Act → Prop} (d : Option Tmp) (x y : Int) (hxy : x = y) (hd : o.dst = d) (hw : Region.wanted o (yielded ops a.tmps) = true) (hx : ∀ w, C w → (execOp a.eval o).run P w = .ok (.value (.int .i64 x)) w) (h : Qw7 P ops C R rest (a.put d (.int .i64 y))) : Qw7 P ops C R (o :: rest) a :=
  q_val7 d (.int .i64 y) hd hw (fun w hC => by rw [← hxy]; exact hx w hC) h
theorem ex_max (x : Operand) (t1 t2 : TypeId) (k : Int) (ho : oi.op = .call { callee := .builtin .max, args := #[x, .const (.int .i64 0)], argTypes := #[t1, t2] }) (hx : a.eval x = .int .i64 k) (hk : 0 ≤ k) (w : World) : (execOp a.eval oi).run Tryz.prog w = .ok (.value (.int .i64 k)) w := by
  unfold execOp
  simp only [ho, resolve, invoke, builtin, Sem.run_bind, Sem.run_pure, Result.andThen_ok, List.map_toArray, List.map_cons, List.map_nil, hx]
  rw [show a.eval (.const (.int .i64 0)) = Value.int .i64 0 from rfl]
  have h1 : ¬ k < 0 := by omega
  simp [go_sem, Builtin.max_, Builtin.max2, h1]
theorem ex_index (t e : TypeId) (x y : Operand) (b off n m c : Nat) (ho : oi.op = .indexAddr t x y) (hx : a.eval x = .slice (some ⟨b, off, none⟩) m c) (hy : a.eval y = .int .i64 n) (hu : Tryz.prog.underlying t = some (.slice e)) (hs : ∀ w, (sizeOf e).run Tryz.prog w = .ok 2 w) (hn : n < m) (w : World) :
    (execOp a.eval oi).run Tryz.prog w = .ok (.value (.pointer (some ⟨b, off + n * 2, none⟩))) w := by
  unfold execOp
  simp only [ho, hx, hy, Sem.run_bind, Sem.run_pure]
  have h0 : (0 : Int) ≤ (n : Int) := Int.natCast_nonneg _
  have h1 : (n : Int) < (m : Int) := by omega
  simp [go_sem, hu, hs, h0, h1]
theorem wpList_known {rest : List Oper} (hgd : oi.guard = none) (v : Value) (w2 : World) (hx : (execOp a.eval oi).run P w = .ok (.value v) w2) (h : wpList P ops Q rest (a.put oi.dst v) w2) : wpList P ops Q (oi :: rest) a w :=
  wpList_plain hgd fun _ hK => wp_known v w2 hx (hK _ _ h)
/-- One of two operations comes first. -/
theorem u_two {oj : Oper} (i j : Nat) (hi : ops[i]? = some oi) (hj : ops[j]? = some oj) (wi : Region.wanted oi (yielded ops a.tmps) = true) (wj : Region.wanted oj (yielded ops a.tmps) = true) (hr : Region.ready md ops listed = [i, j])
    (h1 : Oper.wp P oi a w (fun a' w' => (m ≤ i ∨ S w') ∧ UwA P md ops Q S m fuel (listed.setIfInBounds i true) a' w') Q)
    (h2 : Oper.wp P oj a w (fun a' w' => (m ≤ j ∨ S w') ∧ UwA P md ops Q S m fuel (listed.setIfInBounds j true) a' w') Q) : UwA P md ops Q S m (fuel + 1) listed a w :=
  ⟨wpAnyU_two7 hi hj wi wj hr (Oper.wp_mono (fun a' w' h' => ⟨h'.1, h'.2.h⟩) h1) (Oper.wp_mono (fun a' w' h' => ⟨h'.1, h'.2.h⟩) h2)⟩
end
end Go.Proofs.YtfihfjbakfadkaaGreatDoor

/- Layer 5: the table and the document's, step for step: one contract for each call, whatever it answers. -/
import Derived.Test.YtnlpnbllnddaaaaDoorRef5e
namespace Go.Proofs.YtnlpnbllnddaaaaDoor
open Go.RowKit
set_option linter.unusedVariables false

/-! ### The table as it answers -/
def freeP (ps : List Pg) : Option Nat := ps.findIdx? fun p => !p.1
def takeP (ps : List Pg) : Int × Int × List Pg := match freeP ps with
  | some i => (i, 0, ps.set i (true, 0, 0))
  | none => (0, 3, ps)
def whyP (ps : List Pg) (n : Int) : Int := if n < 0 ∨ (ps.length : Int) ≤ n then 1 else match ps[n.toNat]? with
  | some (true, _, _) => 0
  | _ => 6
def headP (ps : List Pg) (n : Int) : Int × Int := if whyP ps n = 0 then (ps[n.toNat]?.getD (false, 0, 0)).2 else (0, 0)
def giveP (ps : List Pg) (n : Int) : List Pg := if whyP ps n = 0 then ps.set n.toNat (false, 0, 0) else ps
def swapB (ps : List Pg) (n a b : Int) : Bool := whyP ps n == 0 && (headP ps n).1 == a && (headP ps n).2 == b
def swapP (ps : List Pg) (n a b c d : Int) : List Pg := if swapB ps n a b = true then ps.set n.toNat (true, c, d) else ps

theorem freeP_some {ps : List Pg} {i : Nat} (h : freeP ps = some i) : (∃ s g, ps[i]? = some (false, s, g)) ∧ ∀ (j : Nat) (p : Pg), j < i → ps[j]? = some p → p.1 = true := by
  obtain ⟨hlt, hp, hb⟩ := List.findIdx?_eq_some_iff_getElem.1 h
  refine ⟨⟨ps[i].2.1, ps[i].2.2, ?_⟩, fun j p hj hpj => ?_⟩
  · rw [List.getElem?_eq_getElem hlt]
    have : ps[i].1 = false := by simpa using hp
    rw [← this]
  · have := hb j hj
    rw [List.getElem?_eq_getElem (by omega)] at hpj
    obtain rfl := Option.some.inj hpj
    simpa using this
theorem freeP_none {ps : List Pg} (h : freeP ps = none) : ∀ (j : Nat) (p : Pg), ps[j]? = some p → p.1 = true := by
  intro j p hj
  have := List.findIdx?_eq_none_iff.1 h p (List.mem_of_getElem? hj)
  simpa using this
theorem whyP_zero {ps : List Pg} {n : Int} (h : whyP ps n = 0) : ∃ (i : Nat) (s g : Int), n = i ∧ ps[i]? = some (true, s, g) := by
  unfold whyP at h
  split at h
  · cases h
  · split at h
    · rename_i hn s g hp
      exact ⟨n.toNat, s, g, by omega, hp⟩
    · cases h
theorem whyP_of {ps : List Pg} {i : Nat} {s g : Int} (h : ps[i]? = some (true, s, g)) : whyP ps i = 0 := by
  have := (List.getElem?_eq_some_iff.1 h).1
  unfold whyP
  rw [if_neg (by omega), Int.toNat_natCast, h]
theorem headP_of {ps : List Pg} {i : Nat} {s g : Int} (h : ps[i]? = some (true, s, g)) : headP ps i = (s, g) := by
  unfold headP
  rw [if_pos (whyP_of h), Int.toNat_natCast, h]
  rfl
theorem whyP_cases (ps : List Pg) (n : Int) : (whyP ps n = 0) ∨ (whyP ps n = 1 ∧ (n < 0 ∨ (ps.length : Int) ≤ n)) ∨ (whyP ps n = 6 ∧ ∃ (i : Nat) (s g : Int), n = i ∧ ps[i]? = some (false, s, g)) := by
  unfold whyP
  split
  · exact .inr (.inl ⟨rfl, by assumption⟩)
  · rename_i hn
    split
    · exact .inl rfl
    · rename_i hp
      have hlt : n.toNat < ps.length := by omega
      refine .inr (.inr ⟨rfl, n.toNat, ps[n.toNat].2.1, ps[n.toNat].2.2, by omega, ?_⟩)
      rw [List.getElem?_eq_getElem hlt]
      have : ps[n.toNat].1 = false := by
        cases hb : ps[n.toNat].1 with
        | false => rfl
        | true => exact absurd (List.getElem?_eq_getElem hlt) (by
            intro e
            refine hp ps[n.toNat].2.1 ps[n.toNat].2.2 ?_
            rw [e, ← hb])
      rw [← this]
theorem giveP_len (ps : List Pg) (n : Int) : (giveP ps n).length = ps.length := by unfold giveP; split <;> simp
theorem swapP_len (ps : List Pg) (n a b c d : Int) : (swapP ps n a b c d).length = ps.length := by unfold swapP; split <;> simp
theorem takeP_len (ps : List Pg) : (takeP ps).2.2.length = ps.length := by unfold takeP; split <;> simp

section
variable (T G : Nat) (ps : List Pg) (w : World)
theorem take_any (h : Tbl w T G ps) : Calls Tryd.prog 12 #[.pointer (some ⟨T, 0, none⟩)] w fun e w' => e = .returned (.tuple #[.int .i64 (takeP ps).1, errOf (takeP ps).2.1]) ∧ Tbl w' T G (takeP ps).2.2 ∧ Fr (only G) w w' := by
  cases hf : freeP ps with
  | none =>
    have e1 : takeP ps = (0, 3, ps) := by unfold takeP; rw [hf]
    rw [e1]
    exact (take_full T G ps w h (freeP_none hf)).mono fun _ _ ⟨he, hw⟩ => ⟨he, hw ▸ h, hw ▸ Fr.refl _ _⟩
  | some i =>
    have e1 : takeP ps = ((i : Int), 0, ps.set i (true, 0, 0)) := by unfold takeP; rw [hf]
    obtain ⟨⟨s, g, hi⟩, hb⟩ := freeP_some hf
    rw [e1]
    exact (take_ok T G ps i s g w h hi hb).mono fun _ _ ⟨he, hw⟩ => ⟨he, hw ▸ h.set_ (List.getElem?_eq_some_iff.1 hi).1 _, hw ▸ setPg_only _ _ _ _⟩

theorem at_why (h : Tbl w T G ps) (n : Int) (k : Int) (hk : whyP ps n = k) (hk0 : k ≠ 0) {w1 : World} (hf : Fr none_ w w1) :
    Calls Tryd.prog 24 #[.pointer (some ⟨T, 0, none⟩), .int .i64 n] w1 fun e w' => e = .returned (.tuple #[.pointer none, errV k]) ∧ w1 = w' := by
  have h1 := h.fr hf id id
  rcases whyP_cases ps n with h0 | ⟨h0, ha⟩ | ⟨h0, i, s, g, rfl, hi⟩
  · exact absurd (hk.symm.trans h0) hk0
  · obtain rfl : k = 1 := hk.symm.trans h0
    exact at_arg T G ps n w1 h1 ha
  · obtain rfl : k = 6 := hk.symm.trans h0
    exact at_none T G ps i s g w1 h1 hi

theorem give_any (h : Tbl w T G ps) (n : Int) : Calls Tryd.prog 13 #[.pointer (some ⟨T, 0, none⟩), .int .i64 n] w fun e w' => e = .returned (errOf (whyP ps n)) ∧ Tbl w' T G (giveP ps n) ∧ Fr (only G) w w' := by
  by_cases hk : whyP ps n = 0
  · have e1 : giveP ps n = ps.set n.toNat (false, 0, 0) := by unfold giveP; rw [if_pos hk]
    obtain ⟨i, s, g, rfl, hi⟩ := whyP_zero hk
    rw [hk, e1, Int.toNat_natCast]
    exact (give_ok T G ps i s g w h hi).mono fun _ _ ⟨he, hw⟩ => ⟨he, hw ▸ h.set_ (List.getElem?_eq_some_iff.1 hi).1 _, hw ▸ setPg_only _ _ _ _⟩
  · have e1 : giveP ps n = ps := by unfold giveP; rw [if_neg hk]
    rw [e1, errOf_pos hk]
    exact (give_err _ n _ w (fun w1 hw => at_why T G ps w h n _ rfl hk (hw ▸ Fr.refl _ _))).mono fun _ _ ⟨he, hw⟩ => ⟨he, hw ▸ h, hw ▸ Fr.refl _ _⟩

theorem head_any (h : Tbl w T G ps) (n : Int) : Calls Tryd.prog 15 #[.pointer (some ⟨T, 0, none⟩), .int .i64 n] w fun e w' => e = .returned (.tuple #[.agg #[.int .i64 (headP ps n).1, .int .i64 (headP ps n).2], errOf (whyP ps n)]) ∧ Fr none_ w w' := by
  by_cases hk : whyP ps n = 0
  · obtain ⟨i, s, g, rfl, hi⟩ := whyP_zero hk
    rw [hk, headP_of hi]
    exact head_ok T G ps i s g w h hi
  · have e1 : headP ps n = (0, 0) := by unfold headP; rw [if_neg hk]
    rw [e1, errOf_pos hk]
    exact head_err _ n _ w (fun w1 hf => at_why T G ps w h n _ rfl hk hf)

theorem swap_any (h : Tbl w T G ps) (n a b c d : Int) : Calls Tryd.prog 16 #[.pointer (some ⟨T, 0, none⟩), .int .i64 n, .agg #[.int .i64 a, .int .i64 b], .agg #[.int .i64 c, .int .i64 d]] w fun e w' =>
    e = .returned (.tuple #[.bool (swapB ps n a b), errOf (whyP ps n)]) ∧ Tbl w' T G (swapP ps n a b c d) ∧ Fr (only G) w w' := by
  by_cases hk : whyP ps n = 0
  · obtain ⟨i, s, g, rfl, hi⟩ := whyP_zero hk
    have eb : swapB ps i a b = (s == a && g == b) := by unfold swapB; rw [hk, headP_of hi]; simp
    have ep : swapP ps i a b c d = if s = a ∧ g = b then ps.set i (true, c, d) else ps := by
      unfold swapP
      rw [eb, Int.toNat_natCast]
      by_cases hc : s = a ∧ g = b
      · simp [hc]
      · rw [if_neg hc, if_neg (by simpa using hc)]
    rw [hk, eb, ep]
    exact swap_ok T G ps i s g a b c d w h hi
  · have eb : swapB ps n a b = false := by unfold swapB; simp [hk]
    have ep : swapP ps n a b c d = ps := by unfold swapP; rw [eb]; simp
    rw [eb, ep, errOf_pos hk]
    exact (swap_err _ n _ a b c d w (fun w1 hf => at_why T G ps w h n _ rfl hk hf)).mono fun _ _ ⟨he, hf⟩ => ⟨he, h.fr hf id id, hf.mono (fun _ _ e => e.elim)⟩
end

/-! ### The document's list stands for the same table -/
structure Sim (ps : List Pg) (L : List Rp) : Prop where
  len : ps.length ≤ 256
  cnt : L.length = ps.countP (·.1)
  uniq : (L.map (·.1)).Nodup
  mem : ∀ (i : Nat) (s g : Int), ps[i]? = some (true, s, g) ↔ ((i : Int), s, g) ∈ L
  rng : ∀ p ∈ L, ∃ i : Nat, p.1 = i ∧ i < ps.length
theorem Sim.short {ps : List Pg} {L : List Rp} (h : Sim ps L) : L.length ≤ 1000 := by
  have := List.countP_le_length (p := fun x : Pg => x.1) (l := ps)
  have := h.cnt
  have := h.len
  omega
theorem uniq_at {L : List Rp} (h : (L.map (·.1)).Nodup) {j k : Nat} {p q : Rp} (hj : L[j]? = some p) (hk : L[k]? = some q) (e : p.1 = q.1) : j = k := by
  have hj' : (L.map (·.1))[j]? = some p.1 := by simp [hj]
  have hk' : (L.map (·.1))[k]? = some q.1 := by simp [hk]
  have hjl := (List.getElem?_eq_some_iff.1 hj').1
  refine (List.getElem?_inj hjl h).1 ?_
  rw [hj', hk', e]
theorem find_mem {L : List Rp} (h : (L.map (·.1)).Nodup) {n s g : Int} (hm : (n, s, g) ∈ L) : ∃ j : Nat, findL L n = j ∧ L[j]? = some (n, s, g) := by
  obtain ⟨j, hj, he⟩ := List.mem_iff_getElem.1 hm
  have hj' : L[j]? = some (n, s, g) := by rw [List.getElem?_eq_getElem hj, he]
  exact ⟨j, findL_at L n j _ hj' rfl (fun k q hk hq e => by have := uniq_at h hq hj' e; omega), hj'⟩
theorem Sim.used {ps : List Pg} {L : List Rp} (h : Sim ps L) {i : Nat} {s g : Int} (hi : ps[i]? = some (true, s, g)) : ∃ j : Nat, findL L i = j ∧ L[j]? = some ((i : Int), s, g) := find_mem h.uniq ((h.mem i s g).1 hi)
theorem Sim.unused {ps : List Pg} {L : List Rp} (h : Sim ps L) {i : Nat} {s g : Int} (hi : ps[i]? = some (false, s, g)) : findL L i = -1 :=
  findL_no L i (fun p hp e => by
    have := (h.mem i p.2.1 p.2.2).2 (by rw [← e]; exact hp)
    rw [hi] at this
    cases this)
theorem Sim.why {ps : List Pg} {L : List Rp} (h : Sim ps L) (n : Int) : whyL ps.length L n = whyP ps n := by
  unfold whyL whyP
  split
  · rfl
  · rename_i hn
    have hlt : n.toNat < ps.length := by omega
    obtain ⟨b, s, g, hp⟩ : ∃ b s g, ps[n.toNat]? = some (b, s, g) := ⟨_, _, _, List.getElem?_eq_getElem hlt⟩
    have en : ((n.toNat : Nat) : Int) = n := by omega
    rw [hp]
    cases b with
    | true =>
      obtain ⟨j, hj, _⟩ := h.used hp
      rw [en] at hj
      rw [hj, if_neg (by omega)]
    | false =>
      have := h.unused hp
      rw [en] at this
      rw [this, if_pos rfl]
theorem Sim.init (n : Nat) (h : n ≤ 256) : Sim (List.replicate n (false, 0, 0)) [] := by
  refine ⟨by simpa using h, by simp [List.countP_replicate], by simp, fun i s g => ?_, fun p hp => by cases hp⟩
  constructor
  · intro hi
    rw [List.getElem?_replicate] at hi
    split at hi <;> simp at hi
  · intro hm; cases hm
end Go.Proofs.YtnlpnbllnddaaaaDoor

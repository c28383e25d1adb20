/- Layer 6: the clock as the document's slots: one contract for each call, whatever it answers. -/
import Derived.Test.YtobmkolgjdgeiaaClk0
import Derived.Test.YtobmkolgjdgeiaaErrOf
import Derived.Test.YtobmkolgjdgeiaaMore
namespace Go.Proofs.Ytobmkolgjdgeiaa
open Go.RowKit
set_option maxRecDepth 100000
set_option linter.unusedVariables false

/-- The least number at which a slot is inside, or the clock's. -/
def oldS (now : Int) (S : List Int) : Int := S.foldl (fun m x => if 0 < x ∧ x < m then x else m) now
structure IsOldS (now : Int) (S : List Int) (m : Int) : Prop where
  le : m ≤ now
  low : ∀ x ∈ S, 0 < x → m ≤ x
  hit : m = now ∨ (m ∈ S ∧ 0 < m)
theorem oldS_is : ∀ (S : List Int) (now : Int), IsOldS now S (oldS now S)
  | [], now => ⟨Int.le_refl _, fun x h => by simp at h, .inl rfl⟩
  | y :: S, now => by
    by_cases h : 0 < y ∧ y < now
    · have e : oldS now (y :: S) = oldS y S := by simp [oldS, h]
      obtain ⟨a, b, c⟩ := oldS_is S y
      rw [e]
      refine ⟨by omega, fun x hx h0 => ?_, ?_⟩
      · rcases List.mem_cons.1 hx with rfl | hx
        · exact a
        · exact b x hx h0
      · rcases c with c | c
        · exact .inr ⟨by rw [c]; simp, by rw [c]; exact h.1⟩
        · exact .inr ⟨by simp [c.1], c.2⟩
    · have e : oldS now (y :: S) = oldS now S := by simp [oldS, h]
      obtain ⟨a, b, c⟩ := oldS_is S now
      rw [e]
      refine ⟨a, fun x hx h0 => ?_, ?_⟩
      · rcases List.mem_cons.1 hx with rfl | hx
        · omega
        · exact b x hx h0
      · rcases c with c | c
        · exact .inl c
        · exact .inr ⟨by simp [c.1], c.2⟩
theorem IsOldS.uniq {now m m' : Int} {S : List Int} (h : IsOldS now S m) (h' : IsOldS now S m') : m = m' := by
  have a : m ≤ m' := by
    rcases h'.hit with e | e
    · rw [e]; exact h.le
    · exact h.low _ e.1 e.2
  have b : m' ≤ m := by
    rcases h.hit with e | e
    · rw [e]; exact h'.le
    · exact h'.low _ e.1 e.2
  omega
theorem oldS_snoc (now : Int) (S : List Int) (x : Int) : oldS now (S ++ [x]) = if 0 < x ∧ x < oldS now S then x else oldS now S := by unfold oldS; rw [List.foldl_append]; rfl

structure Sim6 (now last : Int) (S : List Int) (D : Ins) : Prop where
  h1 : 1 ≤ S.length
  h64 : S.length ≤ 64
  n1 : 1 ≤ now
  nl : now ≤ last
  l40 : last ≤ 1099511627776
  map : Maps.IsMap D
  key : ∀ t : Int, hasT D t = true → ∃ i : Nat, t = i ∧ i < S.length
  at_ : ∀ (i : Nat) (x : Int), S[i]? = some x → 0 ≤ x ∧ x ≤ now ∧ hasT D i = decide (0 < x) ∧ (0 < x → IsAt D i x)

theorem Sim6.start (n : Nat) (last : Int) (h1 : 1 ≤ n) (h2 : n ≤ 64) (h3 : 1 ≤ last) (h4 : last ≤ 1099511627776) : Sim6 1 last (List.replicate n 0) (.map []) := by
  refine ⟨by simpa using h1, by simpa using h2, by omega, h3, h4, Maps.isMap_empty, fun t h => ?_, fun i x h => ?_⟩
  · cases h
  · rw [List.getElem?_replicate] at h
    split at h
    · obtain rfl : 0 = x := by simpa using h
      exact ⟨by omega, by omega, rfl, fun h => by omega⟩
    · cases h
theorem Sim6.old {now last m : Int} {S : List Int} {D : Ins} (h : Sim6 now last S D) (ho : IsOld D now m) : m = oldS now S := by
  refine IsOldS.uniq (now := now) (S := S) ⟨ho.le, fun x hx h0 => ?_, ?_⟩ (oldS_is S now)
  · obtain ⟨i, hi, he⟩ := List.mem_iff_getElem.1 hx
    have hi' : S[i]? = some x := by rw [List.getElem?_eq_getElem hi, he]
    obtain ⟨_, _, a, b⟩ := h.at_ i x hi'
    exact ho.low i x (by rw [a]; simpa using h0) (b h0)
  · rcases ho.hit with e | ⟨t, ht, hm⟩
    · exact .inl e
    · obtain ⟨i, rfl, hi⟩ := h.key t ht
      have hi' : S[i]? = some S[i] := List.getElem?_eq_getElem hi
      obtain ⟨_, _, a, b⟩ := h.at_ i _ hi'
      rw [a] at ht
      have hp : 0 < S[i] := by simpa using ht
      have e : m = S[i] := hm.inj (b hp)
      exact .inr ⟨by rw [e]; exact List.getElem_mem hi, by omega⟩
theorem kOf_ne {a b : Int} (h : a ≠ b) : kOf a ≠ kOf b := fun e => h (by cases e; rfl)
theorem Sim6.put {now last a x0 : Int} {S : List Int} {D : Ins} {i : Nat} (h : Sim6 now last S D) (hi : i < S.length) (h1 : 1 ≤ a) (h2 : a ≤ now) : Sim6 now last (S.set i a) (D.put (kOf i) (.lit (.int .i64 a))) := by
  have hp := at_put_same D h.map i a
  refine ⟨by simpa using h.h1, by simpa using h.h64, h.n1, h.nl, h.l40, ?_, fun t ht => ?_, fun j x hx => ?_⟩
  · obtain ⟨es, rfl⟩ := h.map; exact ⟨_, rfl⟩
  · by_cases e : t = i
    · exact ⟨i, e, by simpa using hi⟩
    · have ht' : Maps.has D (kOf t) = true := by rw [← Maps.has_put_other (kOf_ne e) (DataW.lit (.int .i64 a) : Ins)]; exact ht
      obtain ⟨j, hj, hl⟩ := h.key t ht'
      exact ⟨j, hj, by simpa using hl⟩
  · rw [List.getElem?_set] at hx
    split at hx
    · subst_vars
      obtain rfl : a = x := by simpa using hx
      have : Maps.has (D.put (kOf j) (.lit (.int .i64 a))) (kOf j) = true := Maps.has_put_same h.map (by trivial) _
      exact ⟨by omega, h2, by rw [show decide (0 < a) = true by simp; omega]; exact this, fun _ => hp⟩
    · rename_i hne
      obtain ⟨b1, b2, b3, b4⟩ := h.at_ j x hx
      have hne' : kOf (j : Int) ≠ kOf (i : Int) := kOf_ne (by omega)
      refine ⟨b1, b2, ?_, fun h0 zd => ?_⟩
      · rw [← b3]; exact Maps.has_put_other hne' _
      · rw [Maps.atKey_put_other hne']; exact b4 h0 zd
theorem Sim6.del {now last : Int} {S : List Int} {D : Ins} {i : Nat} (h : Sim6 now last S D) (hi : i < S.length) : Sim6 now last (S.set i 0) (D.del (kOf i)) := by
  have hn := h.n1
  refine ⟨by simpa using h.h1, by simpa using h.h64, h.n1, h.nl, h.l40, ?_, fun t ht => ?_, fun j x hx => ?_⟩
  · obtain ⟨es, rfl⟩ := h.map; exact ⟨_, rfl⟩
  · by_cases e : t = i
    · exact ⟨i, e, by simpa using hi⟩
    · have ht' : Maps.has D (kOf t) = true := by rw [← Maps.has_del_other (kOf_ne e)]; exact ht
      obtain ⟨j, hj, hl⟩ := h.key t ht'
      exact ⟨j, hj, by simpa using hl⟩
  · rw [List.getElem?_set] at hx
    split at hx
    · subst_vars
      obtain rfl : 0 = x := by simpa using hx
      have : Maps.has (D.del (kOf j)) (kOf j) = false := Maps.has_del_same
      exact ⟨by omega, by omega, this, fun h0 => by omega⟩
    · rename_i hne
      obtain ⟨b1, b2, b3, b4⟩ := h.at_ j x hx
      have hne' : kOf (j : Int) ≠ kOf (i : Int) := kOf_ne (by omega)
      refine ⟨b1, b2, ?_, fun h0 zd => ?_⟩
      · rw [← b3]; exact Maps.has_del_other hne'
      · rw [Maps.atKey_del_other hne']; exact b4 h0 zd
theorem Sim6.bump {now last : Int} {S : List Int} {D : Ins} (h : Sim6 now last S D) (hl : now < last) : Sim6 (now + 1) last S D :=
  ⟨h.h1, h.h64, by have := h.n1; omega, by omega, h.l40, h.map, h.key, fun i x hx => by
    obtain ⟨b1, b2, b3, b4⟩ := h.at_ i x hx
    exact ⟨b1, by omega, b3, b4⟩⟩

/-- A clock in memory is the document's: its number, its last one, its slots (of at most k entries). -/
def Ck (w : World) (C M : Nat) (now last : Int) (S : List Int) (k : Nat) : Prop := ∃ n D, n ≤ k ∧ Clk w C M now last S.length n D ∧ Sim6 now last S D
section
variable {w w' : World} {C M k : Nat} {now last : Int} {S : List Int}
theorem Ck.fr {T : Nat → Prop} (h : Ck w C M now last S k) (hf : Fr T w w') (hC : ¬ T C) (hM : ¬ T M) : Ck w' C M now last S k := by
  obtain ⟨n, D, a, b, c⟩ := h
  exact ⟨n, D, a, b.fr hf hC hM, c⟩
theorem Ck.keep (h : Ck w C M now last S k) (hf : Fr none_ w w') : Ck w' C M now last S k := h.fr hf id id
theorem Ck.ltC (h : Ck w C M now last S k) : C < w.heap.size := by obtain ⟨n, D, a, b, c⟩ := h; exact b.hC.lt
theorem Ck.ltM (h : Ck w C M now last S k) : M < w.heap.size := by obtain ⟨n, D, a, b, c⟩ := h; exact b.hM.lt
theorem Ck.blkC (h : Ck w C M now last S k) : ∃ cs, Blk w C 105 cs := by obtain ⟨n, D, a, b, c⟩ := h; exact ⟨_, b.hC⟩
theorem Ck.objM (h : Ck w C M now last S k) : ∃ es cl, w.heap[M]? = some (.map es cl) := by
  obtain ⟨n, D, a, b, c⟩ := h
  obtain ⟨es, cl, hb, _⟩ := b.hM
  exact ⟨es, cl, hb⟩
theorem Ck.bd (h : Ck w C M now last S k) : 1 ≤ S.length ∧ S.length ≤ 64 ∧ 1 ≤ now ∧ now ≤ last ∧ last ≤ 1099511627776 ∧ ∀ x ∈ S, 0 ≤ x ∧ x ≤ now := by
  obtain ⟨n, D, a, b, c⟩ := h
  refine ⟨c.h1, c.h64, c.n1, c.nl, c.l40, fun x hx => ?_⟩
  obtain ⟨i, hi, he⟩ := List.mem_iff_getElem.1 hx
  obtain ⟨a, b, _⟩ := c.at_ i x (by rw [List.getElem?_eq_getElem hi, he])
  exact ⟨a, b⟩
theorem Ck.more (h : Ck w C M now last S k) {k' : Nat} (hk : k ≤ k') : Ck w C M now last S k' := by
  obtain ⟨n, D, a, b, c⟩ := h
  exact ⟨n, D, by omega, b, c⟩
theorem now_ck (h : Ck w C M now last S k) : Calls Try.prog 46 #[.pointer (some ⟨C, 0, none⟩)] w fun e w' => e = .returned (.int .i64 now) ∧ w = w' := by
  obtain ⟨n, D, a, b, c⟩ := h
  exact now_ok w b
theorem at_ck (h : Ck w C M now last S k) {i : Nat} {x : Int} (hi : S[i]? = some x) : Calls Try.prog 45 #[.pointer (some ⟨C, 0, none⟩), .int .i64 i] w fun e w' => e = .returned (.tuple #[.int .i64 x, .bool (decide (0 < x)), .nilIface]) ∧ w = w' := by
  obtain ⟨n, D, a, b, c⟩ := h
  obtain ⟨b1, b2, b3, b4⟩ := c.at_ i x hi
  have hil := (List.getElem?_eq_some_iff.1 hi).1
  have h64 := c.h64
  refine (clkAt_ok w b i (by unfold isB; simp; omega) (by omega)).mono fun e w' ⟨q, he, hq, hw⟩ => ⟨?_, hw⟩
  have hqx : q = x := by
    by_cases h0 : 0 < x
    · have := b4 h0 (.lit (.int .i64 0))
      rw [this] at hq
      cases hq; rfl
    · have hz : x = 0 := by omega
      have : Maps.has D (kOf i) = false := by rw [show Maps.has D (kOf i) = _ from b3]; simp; omega
      rw [Maps.atKey_of_not_has this] at hq
      cases hq; exact hz.symm
  rw [he, b3, hqx]
theorem at_ck_no (h : Ck w C M now last S k) {t : Int} (ht : t < 0 ∨ S.length ≤ t) : Calls Try.prog 45 #[.pointer (some ⟨C, 0, none⟩), .int .i64 t] w fun e w' => e = .returned (.tuple #[.int .i64 0, .bool false, errV 1]) ∧ w = w' := by
  obtain ⟨n, D, a, b, c⟩ := h
  exact clkAt_arg w b t (by unfold isB; simp; omega)
end

/-- What Bump, Enter, Leave answer. -/
def bumpC (now last : Int) : Int := if now = last then 5 else 0
def bumpN (now last : Int) : Int := if now = last then now else now + 1
def enterC (now : Int) (S : List Int) (t a : Int) : Int := if t < 0 ∨ S.length ≤ t then 1 else if 0 < S.getD t.toNat 0 then 13 else if a < 1 ∨ now < a then 2 else 0
def enterS (now : Int) (S : List Int) (t a : Int) : List Int := if enterC now S t a = 0 then S.set t.toNat a else S
def leaveC (S : List Int) (t : Int) : Int := if t < 0 ∨ S.length ≤ t then 1 else if S.getD t.toNat 0 = 0 then 13 else 0
def leaveS (S : List Int) (t : Int) : List Int := if leaveC S t = 0 then S.set t.toNat 0 else S
theorem enterS_len (now : Int) (S : List Int) (t a : Int) : (enterS now S t a).length = S.length := by unfold enterS; split <;> simp
theorem leaveS_len (S : List Int) (t : Int) : (leaveS S t).length = S.length := by unfold leaveS; split <;> simp
section
variable {w : World} {C M k : Nat} {now last : Int} {S : List Int}
theorem bump_ck (h : Ck w C M now last S k) : Calls Try.prog 40 #[.pointer (some ⟨C, 0, none⟩)] w fun e w' => e = .returned (.tuple #[.int .i64 (bumpN now last), errOf (bumpC now last)]) ∧ Ck w' C M (bumpN now last) last S (k + 1) ∧ Fr (either C M) w w' := by
  obtain ⟨n, D, a, b, c⟩ := h
  by_cases e : now = last
  · have e1 : bumpN now last = now := by simp [bumpN, e]
    have e2 : bumpC now last = 5 := by simp [bumpC, e]
    rw [e1, e2]
    exact (bump_end w b e).mono fun _ w' ⟨he, hf⟩ => ⟨he, ⟨n, D, by omega, b.fr hf id id, c⟩, hf.mono fun _ _ x => x.elim⟩
  · have e1 : bumpN now last = now + 1 := by simp [bumpN, e]
    have e2 : bumpC now last = 0 := by simp [bumpC, e]
    have hnl := c.nl
    rw [e1, e2]
    exact (bump_ok w b (by omega) c.l40 c.n1).mono fun _ w' ⟨he, hc, hf⟩ => ⟨he, ⟨n, D, by omega, hc, c.bump (by omega)⟩, hf⟩
theorem enter_ck (h : Ck w C M now last S k) (hk : k ≤ 1000) (t a : Int) (hwa : (Lit.int .i64 a).wf = true) : Calls Try.prog 42 #[.pointer (some ⟨C, 0, none⟩), .int .i64 t, .int .i64 a] w fun e w' => e = .returned (errOf (enterC now S t a)) ∧ Ck w' C M now last (enterS now S t a) (k + 1) ∧ Fr (either C M) w w' := by
  obtain ⟨n, D, hn, b, c⟩ := h
  have h64 := c.h64
  by_cases e : t < 0 ∨ (S.length : Int) ≤ t
  · have e2 : enterC now S t a = 1 := by unfold enterC; rw [if_pos e]
    have e1 : enterS now S t a = S := by unfold enterS; rw [e2]; rfl
    rw [e1, e2]
    exact (enter_arg w b t a (by unfold isB; simp; omega)).mono fun _ w' ⟨he, hf⟩ => ⟨he, hf ▸ ⟨n, D, by omega, b, c⟩, hf ▸ Fr.refl _ _⟩
  · obtain ⟨i, rfl⟩ : ∃ i : Nat, t = i := ⟨t.toNat, by omega⟩
    have hil : i < S.length := by omega
    have hi : S[i]? = some S[i] := List.getElem?_eq_getElem hil
    obtain ⟨b1, b2, b3, b4⟩ := c.at_ i _ hi
    have hg : S.getD (i : Int).toNat 0 = S[i] := by simp [List.getD, hi]
    have hb : isB (S.length : Int) i = true := by unfold isB; simp; omega
    by_cases h0 : 0 < S[i]
    · have e2 : enterC now S i a = 13 := by unfold enterC; rw [if_neg e, hg, if_pos h0]
      have e1 : enterS now S i a = S := by unfold enterS; rw [e2]; rfl
      rw [e1, e2]
      exact (enter_state w b i a hb (by omega) (by rw [b3]; simpa using h0)).mono fun _ w' ⟨he, hf⟩ => ⟨he, hf ▸ ⟨n, D, by omega, b, c⟩, hf ▸ Fr.refl _ _⟩
    · have hh : hasT D i = false := by rw [b3]; simp; omega
      by_cases ha : a < 1 ∨ now < a
      · have e2 : enterC now S i a = 2 := by unfold enterC; rw [if_neg e, hg, if_neg h0, if_pos ha]
        have e1 : enterS now S i a = S := by unfold enterS; rw [e2]; rfl
        rw [e1, e2]
        exact (enter_range w b i a hb (by omega) hh ha).mono fun _ w' ⟨he, hf⟩ => ⟨he, hf ▸ ⟨n, D, by omega, b, c⟩, hf ▸ Fr.refl _ _⟩
      · have e2 : enterC now S i a = 0 := by unfold enterC; rw [if_neg e, hg, if_neg h0, if_neg ha]
        have e1 : enterS now S i a = S.set i a := by unfold enterS; rw [e2, if_pos rfl]; simp
        rw [e1, e2]
        exact (enter_ok w b i a hb (by omega) hh (by omega) (by omega) hwa (by simp only [maxLen]; omega)).mono fun _ w' ⟨he, hc, hf⟩ => ⟨he, ⟨n + 1, _, by omega, by simpa using hc, c.put (x0 := 0) hil (by omega) (by omega)⟩, hf⟩
theorem leave_ck (h : Ck w C M now last S k) (t : Int) : Calls Try.prog 44 #[.pointer (some ⟨C, 0, none⟩), .int .i64 t] w fun e w' => e = .returned (errOf (leaveC S t)) ∧ Ck w' C M now last (leaveS S t) (k + 1) ∧ Fr (either C M) w w' := by
  obtain ⟨n, D, hn, b, c⟩ := h
  have h64 := c.h64
  by_cases e : t < 0 ∨ (S.length : Int) ≤ t
  · have e2 : leaveC S t = 1 := by unfold leaveC; rw [if_pos e]
    have e1 : leaveS S t = S := by unfold leaveS; rw [e2]; rfl
    rw [e1, e2]
    exact (leave_arg w b t (by unfold isB; simp; omega)).mono fun _ w' ⟨he, hf⟩ => ⟨he, hf ▸ ⟨n, D, by omega, b, c⟩, hf ▸ Fr.refl _ _⟩
  · obtain ⟨i, rfl⟩ : ∃ i : Nat, t = i := ⟨t.toNat, by omega⟩
    have hil : i < S.length := by omega
    have hi : S[i]? = some S[i] := List.getElem?_eq_getElem hil
    obtain ⟨b1, b2, b3, b4⟩ := c.at_ i _ hi
    have hg : S.getD (i : Int).toNat 0 = S[i] := by simp [List.getD, hi]
    have hb : isB (S.length : Int) i = true := by unfold isB; simp; omega
    by_cases h0 : S[i] = 0
    · have e2 : leaveC S i = 13 := by unfold leaveC; rw [if_neg e, hg, if_pos h0]
      have e1 : leaveS S i = S := by unfold leaveS; rw [e2]; rfl
      rw [e1, e2]
      exact (leave_state w b i hb (by omega) (by rw [b3]; simp; omega)).mono fun _ w' ⟨he, hf⟩ => ⟨he, hf ▸ ⟨n, D, by omega, b, c⟩, hf ▸ Fr.refl _ _⟩
    · have e2 : leaveC S i = 0 := by unfold leaveC; rw [if_neg e, hg, if_neg h0]
      have e1 : leaveS S i = S.set i 0 := by unfold leaveS; rw [e2, if_pos rfl]; simp
      rw [e1, e2]
      exact (leave_ok w b i hb (by omega) (by rw [b3]; simp; omega)).mono fun _ w' ⟨he, hc, hf⟩ => ⟨he, ⟨n, _, by omega, by simpa using hc, c.del hil⟩, hf⟩
end
end Go.Proofs.Ytobmkolgjdgeiaa

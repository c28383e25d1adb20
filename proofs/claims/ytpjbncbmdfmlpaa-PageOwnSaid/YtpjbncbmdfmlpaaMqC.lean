/- Texts of one proof, merged: LwS7. -/
import Derived.Test.YtpjbncbmdfmlpaaMqB
namespace Go.Proofs.Ytpjbncbmdfmlpaa
open Go.RowKit
set_option linter.unusedVariables false

abbrev PwR (L : List Rw) : Prop := L.Pairwise fun p q => ltS p.1 q.1 = true
theorem lt_ge7 {a b c : ByteArray} (h : ltS a b = true) (k : ltS c b = false) : ltS a c = true := by
  rcases ltS_total b c with e | rfl | e
  · exact ltS_trans h e
  · exact h
  · rw [e] at k; cases k
theorem RightR.pw {L : List Rw} (h : RightR L) : PwR L := by
  have key : ∀ (d i : Nat) (p q : Rw), L[i]? = some p → L[i + d + 1]? = some q → ltS p.1 q.1 = true := by
    intro d
    induction d with
    | zero => exact fun i p q hp hq => h.ris i p q hp hq
    | succ d ih =>
      intro i p q hp hq
      have hl := (List.getElem?_eq_some_iff.1 hq).1
      obtain ⟨r, hr⟩ : ∃ r, L[i + d + 1]? = some r := ⟨_, List.getElem?_eq_getElem (by omega)⟩
      exact ltS_trans (ih i p r hp hr) (h.ris (i + d + 1) r q hr (by rw [show i + d + 1 + 1 = i + (d + 1) + 1 by omega]; exact hq))
  rw [PwR, List.pairwise_iff_getElem]
  intro i j hi hj hij
  exact key (j - i - 1) i _ _ (List.getElem?_eq_getElem hi) (by rw [show i + (j - i - 1) + 1 = j by omega]; exact List.getElem?_eq_getElem hj)
theorem RightR.of_pw {L : List Rw} (h : PwR L) (hf : ∀ p ∈ L, fitsR p = true) : RightR L := by
  refine ⟨hf, fun i p q hp hq => ?_⟩
  obtain ⟨hi, rfl⟩ := List.getElem?_eq_some_iff.1 hp
  obtain ⟨hj, rfl⟩ := List.getElem?_eq_some_iff.1 hq
  exact (List.pairwise_iff_getElem.1 h) i (i + 1) hi hj (by omega)
theorem plR_app : ∀ (L : List Rw) (key : ByteArray), (∀ p ∈ L.take (plR L key), ltS p.1 key = true)
  | [], _, p, hp => by simp at hp
  | q :: t, key, p, hp => by
    rw [plR] at hp
    split at hp
    · rename_i hq
      rw [List.take_succ_cons] at hp
      rcases List.mem_cons.1 hp with rfl | hp
      · exact hq
      · exact plR_app t key p hp
    · simp at hp
/-- All rows from a key's place on are behind it, but for its own. -/
theorem plR_behind : ∀ {L : List Rw} {key : ByteArray}, PwR L → ∀ p ∈ L.drop (plR L key + if atR L key then 1 else 0), ltS key p.1 = true
  | [], _, _, p, hp => by simp at hp
  | q :: t, key, h, p, hp => by
    rw [PwR, List.pairwise_cons] at h
    rw [plR] at hp
    split at hp
    · rename_i hq
      have e : atR (q :: t) key = atR t key := by
        unfold atR
        rw [plR, if_pos hq, List.getElem?_cons_succ]
      rw [e, show plR t key + 1 + (if atR t key = true then 1 else 0) = (plR t key + if atR t key = true then 1 else 0) + 1 by omega, List.drop_succ_cons] at hp
      exact plR_behind h.2 p hp
    · rename_i hq
      have hq' : ltS q.1 key = false := by simpa using hq
      have e : atR (q :: t) key = sEq q.1 key := by
        unfold atR
        rw [plR, if_neg hq]
        rfl
      rw [e] at hp
      split at hp
      · rename_i hs
        rw [show (0 : Nat) + 1 = 0 + 1 from rfl, List.drop_succ_cons, List.drop_zero] at hp
        rw [← sEq_iff.1 hs]
        exact h.1 p hp
      · rename_i hs
        have hk : ltS key q.1 = true := by
          rcases ltS_total q.1 key with h1 | h1 | h1
          · rw [hq'] at h1; cases h1
          · rw [h1, sEq_self] at hs; exact absurd rfl hs
          · exact h1
        rw [Nat.add_zero, List.drop_zero] at hp
        rcases List.mem_cons.1 hp with rfl | hp
        · exact hk
        · exact ltS_trans hk (h.1 p hp)
theorem PwR.put {L : List Rw} (h : PwR L) (r : Rw) : PwR (putR L r) := by
  unfold putR PwR
  rw [List.pairwise_append, List.pairwise_append]
  refine ⟨⟨h.take, List.pairwise_singleton _ _, fun a ha b hb => ?_⟩, h.drop, fun a ha b hb => ?_⟩
  · rw [List.mem_singleton.1 hb]; exact plR_app _ _ a ha
  · have hb' := plR_behind h b hb
    rcases List.mem_append.1 ha with ha | ha
    · exact ltS_trans (plR_app _ _ a ha) hb'
    · rw [List.mem_singleton.1 ha]; exact hb'
theorem PwR.dropR {L : List Rw} (h : PwR L) (key : ByteArray) : PwR (dropR L key) := by
  unfold Go.Proofs.Ytpjbncbmdfmlpaa.dropR PwR
  split
  · rename_i ha
    rw [List.pairwise_append]
    refine ⟨h.take, h.drop, fun a hm b hb => ltS_trans (plR_app _ _ a hm) (plR_behind h b (by rw [ha]; exact hb))⟩
  · exact h
theorem mem_putR {L : List Rw} {r p : Rw} (h : p ∈ putR L r) : p ∈ L ∨ p = r := by
  unfold putR at h
  rcases List.mem_append.1 h with h | h
  · rcases List.mem_append.1 h with h | h
    · exact .inl (List.mem_of_mem_take h)
    · exact .inr (List.mem_singleton.1 h)
  · exact .inl (List.mem_of_mem_drop h)
theorem mem_dropR {L : List Rw} {key : ByteArray} {p : Rw} (h : p ∈ dropR L key) : p ∈ L := by
  unfold dropR at h
  split at h
  · rcases List.mem_append.1 h with h | h
    · exact List.mem_of_mem_take h
    · exact List.mem_of_mem_drop h
  · exact h
theorem inS_iff7 {low high : ByteArray} {unb : Bool} {key : ByteArray} : inS low high unb key = true ↔ ltS key low = false ∧ (unb = true ∨ ltS key high = true) := by
  unfold inS
  simp only [Bool.and_eq_true, Bool.not_eq_true', Bool.or_eq_true]
theorem join_pw {mid high : ByteArray} {unb : Bool} {L M : List Rw} (h : RightR L) (hu : ∀ p ∈ L, ltS p.1 mid = true) (k : SoundR mid high unb M) : PwR (L ++ M) := by
  rw [PwR, List.pairwise_append]
  exact ⟨h.pw, k.right.pw, fun a ha b hb => lt_ge7 (hu a ha) (inS_iff7.1 (k.inn b hb)).1⟩
/-- What hangs together joins. -/
theorem joins_of {mid high : ByteArray} {unb : Bool} {L M : List Rw} (hu : ∀ p ∈ L, ltS p.1 mid = true) (k : SoundR mid high unb M) : joinR L M = true := by
  rcases Nat.eq_zero_or_pos L.length with h0 | h0
  · exact joinR_nil (.inl h0)
  · rcases Nat.eq_zero_or_pos M.length with h1 | h1
    · exact joinR_nil (.inr h1)
    · obtain ⟨p, hp⟩ : ∃ p, L[L.length - 1]? = some p := ⟨_, List.getElem?_eq_getElem (by omega)⟩
      obtain ⟨q, hq⟩ : ∃ q, M[0]? = some q := ⟨_, List.getElem?_eq_getElem h1⟩
      rw [joinR_some hp hq]
      exact lt_ge7 (hu p (List.mem_of_getElem? hp)) (inS_iff7.1 (k.inn q (List.mem_of_getElem? hq))).1
/-- The rows ahead of a key, by a filter. -/
theorem ahead_take : ∀ {L : List Rw} {key : ByteArray}, PwR L → L.filter (fun p => ltS p.1 key) = L.take (plR L key)
  | [], _, _ => by simp
  | q :: t, key, h => by
    rw [PwR, List.pairwise_cons] at h
    rw [plR, List.filter_cons]
    split
    · rw [List.take_succ_cons, ahead_take h.2]
    · rename_i hq
      rw [List.take_zero, List.filter_eq_nil_iff]
      intro p hp hk
      have := ltS_trans (h.1 p hp) hk
      exact hq this
/-- A leaf's view that hangs together. -/
structure GoodL (V : Lw) : Prop where
  right : RightR V.rows
  up : V.unb = true ∨ ∀ p ∈ V.rows, ltS p.1 V.high = true
theorem in_up {low high : ByteArray} {unb : Bool} {L : List Rw} (h : ∀ p ∈ L, inS low high unb p.1 = true) : unb = true ∨ ∀ p ∈ L, ltS p.1 high = true := by
  cases unb with
  | true => exact .inl rfl
  | false => exact .inr fun p hp => by simpa using (inS_iff7.1 (h p hp)).2
theorem upL_good {V V' : Lw} {R : Rc} (h : upL V R = some V') (g : GoodL V) : GoodL V' := by
  unfold upL at h
  split at h
  · cases h
  split at h
  · split at h
    · rename_i hc
      cases h
      refine ⟨.of_pw (g.right.pw.put _) fun p hp => ?_, ?_⟩
      · rcases mem_putR hp with h | rfl
        · exact g.right.fit p h
        · exact hc.1
      · rcases g.up with h | h
        · exact .inl h
        · rcases (inS_iff7.1 hc.2).2 with h' | h'
          · exact .inl h'
          · refine .inr fun p hp => ?_
            rcases mem_putR hp with hp | rfl
            · exact h p hp
            · exact h'
    · cases h
  split at h
  · split at h
    · cases h
      exact ⟨.of_pw (g.right.pw.dropR _) fun p hp => g.right.fit p (mem_dropR hp), g.up.imp id fun h p hp => h p (mem_dropR hp)⟩
    · cases h
  split at h
  · split at h
    · cases h
      exact ⟨.of_pw g.right.pw.take fun p hp => g.right.fit p (List.mem_of_mem_take hp), .inr fun p hp => plR_app _ _ p hp⟩
    · cases h
  split at h
  · split at h
    · rename_i hc
      cases h
      obtain ⟨⟨h1, h2, h3, h4⟩, h5⟩ := hc
      have hu : ∀ p ∈ V.rows, ltS p.1 R.key = true := by
        rcases g.up with h | h
        · rw [h1] at h; cases h
        · rw [← h2]; exact h
      refine ⟨.of_pw (join_pw g.right hu h3) fun p hp => ?_, ?_⟩
      · rcases List.mem_append.1 hp with hp | hp
        · exact g.right.fit p hp
        · exact h3.right.fit p hp
      · rcases in_up h3.inn with h | h
        · exact .inl h
        · rcases h4 with h4 | h4
          · exact .inl h4
          · refine .inr fun p hp => ?_
            rcases List.mem_append.1 hp with hp | hp
            · exact ltS_trans (hu p hp) h4
            · exact h p hp
    · cases h
  split at h
  · cases h; exact ⟨g.right, g.up⟩
  · cases h
theorem foldL_good : ∀ {l : List Rc} {V : Lw}, foldL l = some V → GoodL V
  | [], _, h => by cases h
  | [b], V, h => by
    unfold foldL at h
    split at h
    · rename_i hc
      cases h
      exact ⟨hc.2.right, in_up hc.2.inn⟩
    · cases h
  | r :: s :: t, V, h => by
    rw [foldL_cons r (by simp)] at h
    cases e : foldL (s :: t) with
    | none => rw [e] at h; cases h
    | some V0 =>
      rw [e] at h
      exact upL_good h (foldL_good e)
theorem upL_kind1 {V : Lw} {R : Rc} (h : R.kind = 1) : upL V R = none := by
  unfold upL
  split
  · rfl
  rw [if_neg (by omega), if_neg (by omega), if_neg (by omega), if_neg (by omega), if_neg (by omega)]
theorem upL_gone {V : Lw} {R : Rc} (h : V.gone = true) : upL V R = none := by unfold upL; rw [if_pos h]
theorem upL_gone5 {V V' : Lw} {R : Rc} (h : upL V R = some V') (hg : V'.gone = true) : R.kind = 5 := by
  unfold upL at h
  split at h
  · cases h
  rename_i h0
  split at h
  · split at h
    · cases h; exact absurd hg h0
    · cases h
  split at h
  · split at h
    · cases h; exact absurd hg h0
    · cases h
  split at h
  · split at h
    · cases h; exact absurd hg h0
    · cases h
  split at h
  · split at h
    · cases h; exact absurd hg h0
    · cases h
  split at h
  · assumption
  · cases h
theorem upL_five {V V' : Lw} {R : Rc} (h : upL V R = some V') (h5 : R.kind = 5) : V'.gone = true := by
  unfold upL at h
  rw [h5] at h
  split at h
  · cases h
  · simp at h
    rw [← h]
theorem foldL_gone {l : List Rc} {V : Lw} (h : foldL l = some V) (hg : V.gone = true) : ∃ r t, l = r :: t ∧ r.kind = 5 := by
  match l, h with
  | [b], h =>
    unfold foldL at h
    split at h
    · cases h; cases hg
    · cases h
  | r :: s :: t, h =>
    rw [foldL_cons r (by simp)] at h
    cases e : foldL (s :: t) with
    | none => rw [e] at h; cases h
    | some V0 => rw [e] at h; exact ⟨r, _, rfl, upL_gone5 h hg⟩
theorem foldL_at {l : List Rc} {k : Nat} {R : Rc} (hR : l[k]? = some R) (hk : k + 1 < l.length) : foldL (l.drop k) = (foldL (l.drop (k + 1))).bind fun V => upL V R := by
  obtain ⟨h, rfl⟩ := List.getElem?_eq_some_iff.1 hR
  rw [List.drop_eq_getElem_cons h, foldL_cons _ (by intro e; have := congrArg List.length e; simp at this; omega)]
/-- No base above, and none that went below the top. -/
theorem foldL_no1 {l : List Rc} {k : Nat} {R : Rc} (hR : l[k]? = some R) (hk : k + 1 < l.length) (h : R.kind = 1) : foldL l = none := by
  have e : foldL (l.drop k) = none := by
    rw [foldL_at hR hk]
    cases foldL (l.drop (k + 1)) with
    | none => rfl
    | some V => exact upL_kind1 h
  simpa using foldL_none (by omega) e 0 (Nat.zero_le _)
theorem foldL_no5 {l : List Rc} {k : Nat} {R : Rc} (hR : l[k]? = some R) (hk : 0 < k) (h : R.kind = 5) : foldL l = none := by
  have hl := (List.getElem?_eq_some_iff.1 hR).1
  obtain ⟨j, rfl⟩ : ∃ j, k = j + 1 := ⟨k - 1, by omega⟩
  have e : foldL (l.drop j) = none := by
    obtain ⟨r, hr⟩ : ∃ r, l[j]? = some r := ⟨_, List.getElem?_eq_getElem (by omega)⟩
    rw [foldL_at hr hl]
    cases e2 : foldL (l.drop (j + 1)) with
    | none => rfl
    | some V =>
      refine upL_gone ?_
      rcases Nat.lt_or_ge (j + 1 + 1) l.length with h2 | h2
      · rw [foldL_at hR h2] at e2
        cases e3 : foldL (l.drop (j + 1 + 1)) with
        | none => rw [e3] at e2; cases e2
        | some V0 => rw [e3] at e2; exact upL_five e2 h
      · obtain ⟨hlt, rfl⟩ := List.getElem?_eq_some_iff.1 hR
        rw [List.drop_eq_getElem_cons hlt, List.drop_eq_nil_of_le h2] at e2
        unfold foldL at e2
        split at e2
        · rename_i hc; rw [h] at hc; omega
        · cases e2
  simpa using foldL_none (by omega) e 0 (Nat.zero_le _)
theorem foldL_noL {l : List Rc} {m : Nat} {R : Rc} (hR : l[m]? = some R) (hm : l.length = m + 1) (h : R.kind ≠ 1) : foldL l = none := by
  obtain ⟨hlt, rfl⟩ := List.getElem?_eq_some_iff.1 hR
  have e : foldL (l.drop m) = none := by
    rw [List.drop_eq_getElem_cons hlt, List.drop_eq_nil_of_le (by omega)]
    exact foldL_one_no _ fun hc => h hc.1
  simpa using foldL_none hlt e 0 (Nat.zero_le _)
theorem foldL_no {l : List Rc} {k : Nat} (hk : k < l.length) (h : foldL (l.drop k) = none) : foldL l = none := by simpa using foldL_none hk h 0 (Nat.zero_le _)
theorem ltS_iff_ne {a b : ByteArray} (h : ltS b a = false) : ltS a b = true ↔ b ≠ a := by
  refine ⟨fun e => (ltS_ne e).symm, fun e => ?_⟩
  rcases ltS_total a b with h1 | h1 | h1
  · exact h1
  · exact absurd h1.symm e
  · rw [h] at h1; cases h1
end Go.Proofs.Ytpjbncbmdfmlpaa

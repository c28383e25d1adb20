/- Layer 5: each step keeps the document's list in step with the table; the document's calls, whatever they answer. -/
import Derived.Test.YtnlpnbllnddaaaaDoorSim5
namespace Go.Proofs.YtnlpnbllnddaaaaDoor
open Go.RowKit
set_option linter.unusedVariables false

theorem count_set (ps : List Pg) (i : Nat) (p q : Pg) (hi : ps[i]? = some p) : (ps.set i q).countP (·.1) + (if p.1 = true then 1 else 0) = ps.countP (·.1) + (if q.1 = true then 1 else 0) := by
  obtain ⟨hlt, rfl⟩ := List.getElem?_eq_some_iff.1 hi
  rw [List.countP_set (h := hlt)]
  have : (if ps[i].1 = true then 1 else 0) ≤ ps.countP (·.1) := by
    split
    · rename_i hb
      exact List.countP_pos_iff.2 ⟨ps[i], List.getElem_mem hlt, hb⟩
    · omega
  omega

theorem Sim.take_ {ps : List Pg} {L : List Rp} (h : Sim ps L) {i : Nat} {s g : Int} (hi : ps[i]? = some (false, s, g)) : Sim (ps.set i (true, 0, 0)) (L ++ [((i : Int), 0, 0)]) := by
  have hlt := (List.getElem?_eq_some_iff.1 hi).1
  have hno : ∀ p ∈ L, p.1 ≠ (i : Int) := fun p hp e => by
    have := (h.mem i p.2.1 p.2.2).2 (by rw [← e]; exact hp)
    rw [hi] at this
    cases this
  refine ⟨by simpa using h.len, ?_, ?_, fun j s' g' => ?_, fun p hp => ?_⟩
  · have := count_set ps i _ (true, 0, 0) hi
    have := h.cnt
    simp at *
    omega
  · rw [List.map_append, List.nodup_append]
    refine ⟨h.uniq, by simp, fun a ha b hb => ?_⟩
    obtain ⟨p, hp, rfl⟩ := List.mem_map.1 ha
    obtain rfl : b = (i : Int) := by simpa using hb
    exact hno p hp
  · by_cases hj : j = i
    · subst hj
      rw [List.getElem?_set_self hlt]
      constructor
      · intro e
        simp at e
        obtain ⟨rfl, rfl⟩ := e
        simp
      · intro hm
        rcases List.mem_append.1 hm with hm | hm
        · exact absurd rfl (hno _ hm)
        · simp at hm
          obtain ⟨rfl, rfl⟩ := hm
          rfl
    · rw [List.getElem?_set_ne (fun e => hj e.symm), h.mem]
      simp
      omega
  · rcases List.mem_append.1 hp with hp | hp
    · simpa using h.rng p hp
    · obtain rfl : p = ((i : Int), 0, 0) := by simpa using hp
      exact ⟨i, rfl, by simpa using hlt⟩

theorem Sim.give_ {ps : List Pg} {L : List Rp} (h : Sim ps L) {i j : Nat} {s g : Int} (hi : ps[i]? = some (true, s, g)) (hj : L[j]? = some ((i : Int), s, g)) : Sim (ps.set i (false, 0, 0)) (L.eraseIdx j) := by
  have hlt := (List.getElem?_eq_some_iff.1 hi).1
  have hjl := (List.getElem?_eq_some_iff.1 hj).1
  refine ⟨by simpa using h.len, ?_, ?_, fun k s' g' => ?_, fun p hp => ?_⟩
  · have := count_set ps i _ (false, 0, 0) hi
    have := h.cnt
    rw [List.length_eraseIdx, if_pos hjl]
    simp at *
    omega
  · exact h.uniq.sublist ((List.eraseIdx_sublist L j).map _)
  · rw [List.mem_eraseIdx_iff_getElem?]
    by_cases hk : k = i
    · subst hk
      rw [List.getElem?_set_self hlt]
      constructor
      · intro e; simp at e
      · rintro ⟨m, hm, hx⟩
        exact absurd (uniq_at h.uniq hx hj rfl) hm
    · rw [List.getElem?_set_ne (fun e => hk e.symm), h.mem]
      constructor
      · intro hm
        obtain ⟨m, hx⟩ := List.mem_iff_getElem?.1 hm
        refine ⟨m, fun e => ?_, hx⟩
        subst e
        rw [hj] at hx
        simp at hx
        omega
      · rintro ⟨m, _, hx⟩
        exact List.mem_of_getElem? hx
  · simpa using h.rng p (List.mem_of_mem_eraseIdx hp)

theorem Sim.swap_ {ps : List Pg} {L : List Rp} (h : Sim ps L) {i j : Nat} {s g : Int} (hi : ps[i]? = some (true, s, g)) (hj : L[j]? = some ((i : Int), s, g)) (c d : Int) : Sim (ps.set i (true, c, d)) (L.set j ((i : Int), c, d)) := by
  have hlt := (List.getElem?_eq_some_iff.1 hi).1
  have hjl := (List.getElem?_eq_some_iff.1 hj).1
  have hmap : (L.set j ((i : Int), c, d)).map (·.1) = L.map (·.1) := by
    apply List.ext_getElem?
    intro m
    rw [List.getElem?_map, List.getElem?_map]
    by_cases hm : m = j
    · subst hm
      rw [List.getElem?_set_self hjl, hj]; rfl
    · rw [List.getElem?_set_ne (fun e => hm e.symm)]
  refine ⟨by simpa using h.len, ?_, by rw [hmap]; exact h.uniq, fun k s' g' => ?_, fun p hp => ?_⟩
  · have := count_set ps i _ (true, c, d) hi
    have := h.cnt
    simp at *
    omega
  · rw [List.mem_iff_getElem?]
    by_cases hk : k = i
    · subst hk
      rw [List.getElem?_set_self hlt]
      constructor
      · intro e
        simp at e
        obtain ⟨rfl, rfl⟩ := e
        exact ⟨j, List.getElem?_set_self hjl⟩
      · rintro ⟨m, hx⟩
        by_cases hm : m = j
        · subst hm
          rw [List.getElem?_set_self hjl] at hx
          simp at hx
          obtain ⟨rfl, rfl⟩ := hx
          rfl
        · rw [List.getElem?_set_ne (fun e => hm e.symm)] at hx
          exact absurd (uniq_at h.uniq hx hj rfl) hm
    · rw [List.getElem?_set_ne (fun e => hk e.symm), h.mem, List.mem_iff_getElem?]
      constructor
      · rintro ⟨m, hx⟩
        refine ⟨m, ?_⟩
        rw [List.getElem?_set_ne (fun e => ?_)]
        · exact hx
        · subst e
          rw [hj] at hx
          simp at hx
          omega
      · rintro ⟨m, hx⟩
        refine ⟨m, ?_⟩
        by_cases hm : m = j
        · subst hm
          rw [List.getElem?_set_self hjl] at hx
          simp at hx
          omega
        · rw [List.getElem?_set_ne (fun e => hm e.symm)] at hx
          exact hx
  · rcases List.mem_or_eq_of_mem_set hp with hp | rfl
    · simpa using h.rng p hp
    · exact ⟨i, rfl, by simpa using hlt⟩

theorem used_same (ps : List Pg) (L : List Rp) (hs : Sim ps L) : rusedTo L ps.length = usedTo ps ps.length := by
  unfold rusedTo usedTo
  refine List.filter_congr fun i hi => ?_
  have hlt : i < ps.length := List.mem_range.1 hi
  obtain ⟨b, s, g, hp⟩ : ∃ b s g, ps[i]? = some (b, s, g) := ⟨_, _, _, List.getElem?_eq_getElem hlt⟩
  rw [hp]
  cases b with
  | true =>
    obtain ⟨j, hj, _⟩ := hs.used hp
    simp [hj]
  | false => simp [hs.unused hp]

def RStep (w : World) (n : Nat) (res : Value → Value) (ps' : List Pg) (e : Ending) (w' : World) : Prop :=
  ∃ A c L', e = .returned (res (rtab n (.slice A L'.length c))) ∧ ROwn w' (.slice A L'.length c) L' ∧ Sim ps' L' ∧ Fr none_ w w'

/-! ### The document's calls -/
section
variable (ps : List Pg) (A : Option Addr) (c : Nat) (L : List Rp) (w : World)

theorem rtake_any (h : ROwn w (.slice A L.length c) L) (hs : Sim ps L) : Calls Tryd.prog 21 #[rtab ps.length (.slice A L.length c)] w
    (RStep w ps.length (fun t => .tuple #[t, .int .i64 (takeP ps).1, .int .i64 (takeP ps).2.1]) (takeP ps).2.2) := by
  cases hf : freeP ps with
  | none =>
    have e1 : takeP ps = (0, 3, ps) := by unfold takeP; rw [hf]
    rw [e1]
    refine (rtake_full ps.length A c L w h hs.short (by have := hs.len; omega) (fun j hj => ?_)).mono fun _ _ ⟨he, hw⟩ => ⟨A, c, L, he, own_none h hw, hs, hw⟩
    obtain ⟨p, hp⟩ : ∃ p, ps[j]? = some p := ⟨_, List.getElem?_eq_getElem hj⟩
    have hu := freeP_none hf j p hp
    obtain ⟨b, s, g⟩ := p
    obtain rfl : b = true := hu
    obtain ⟨k, hk, _⟩ := hs.used hp
    omega
  | some i =>
    have e1 : takeP ps = ((i : Int), 0, ps.set i (true, 0, 0)) := by unfold takeP; rw [hf]
    obtain ⟨⟨s, g, hi⟩, hb⟩ := freeP_some hf
    have hlt := (List.getElem?_eq_some_iff.1 hi).1
    rw [e1]
    refine (rtake_ok ps.length i A c L w h hs.short (by have := hs.len; omega) hlt (hs.unused hi) (fun j hj => ?_)).mono fun _ _ ⟨A', c', he, ho, hf⟩ => ⟨A', c', _, he, ho, hs.take_ hi, hf⟩
    obtain ⟨p, hp⟩ : ∃ p, ps[j]? = some p := ⟨_, List.getElem?_eq_getElem (by omega)⟩
    have hu := hb j p hj hp
    obtain ⟨b, s', g'⟩ := p
    obtain rfl : b = true := hu
    obtain ⟨k, hk, _⟩ := hs.used hp
    omega

theorem rgive_any (h : ROwn w (.slice A L.length c) L) (hs : Sim ps L) (n : Int) : Calls Tryd.prog 22 #[rtab ps.length (.slice A L.length c), .int .i64 n] w
    (RStep w ps.length (fun t => .tuple #[t, .int .i64 (whyP ps n)]) (giveP ps n)) := by
  by_cases hk : whyP ps n = 0
  · obtain ⟨i, s, g, rfl, hi⟩ := whyP_zero hk
    have e1 : giveP ps i = ps.set i (false, 0, 0) := by unfold giveP; rw [if_pos hk, Int.toNat_natCast]
    have hlt := (List.getElem?_eq_some_iff.1 hi).1
    obtain ⟨j, hj, hjl⟩ := hs.used hi
    rw [hk, e1]
    exact (rgive_ok ps.length i A c L w h hs.short (by omega) (by omega) j hj).mono fun _ _ ⟨A', c', he, ho, hf⟩ => ⟨A', c', _, he, ho, hs.give_ hi hjl, hf⟩
  · have e1 : giveP ps n = ps := by unfold giveP; rw [if_neg hk]
    rw [e1]
    exact (rgive_err ps.length n A c L w h hs.short _ (hs.why n) hk).mono fun _ _ ⟨he, hw⟩ => ⟨A, c, L, he, own_none h hw, hs, hw⟩

theorem rhead_any (h : ROwn w (.slice A L.length c) L) (hs : Sim ps L) (n : Int) : Calls Tryd.prog 20 #[rtab ps.length (.slice A L.length c), .int .i64 n] w fun e w' =>
    e = .returned (.tuple #[.agg #[.int .i64 (headP ps n).1, .int .i64 (headP ps n).2], .int .i64 (whyP ps n)]) ∧ Fr none_ w w' := by
  by_cases hk : whyP ps n = 0
  · obtain ⟨i, s, g, rfl, hi⟩ := whyP_zero hk
    have hlt := (List.getElem?_eq_some_iff.1 hi).1
    obtain ⟨j, hj, hjl⟩ := hs.used hi
    rw [hk, headP_of hi]
    exact rhead_ok ps.length i A c L w h hs.short (by omega) (by omega) j i s g hj hjl
  · have e1 : headP ps n = (0, 0) := by unfold headP; rw [if_neg hk]
    rw [e1]
    exact rhead_err ps.length n A c L w h hs.short _ (hs.why n) hk

theorem rswap_any (h : ROwn w (.slice A L.length c) L) (hs : Sim ps L) (n a b x y : Int) : Calls Tryd.prog 23 #[rtab ps.length (.slice A L.length c), .int .i64 n, .agg #[.int .i64 a, .int .i64 b], .agg #[.int .i64 x, .int .i64 y]] w
    (RStep w ps.length (fun t => .tuple #[t, .bool (swapB ps n a b), .int .i64 (whyP ps n)]) (swapP ps n a b x y)) := by
  by_cases hk : whyP ps n = 0
  · obtain ⟨i, s, g, rfl, hi⟩ := whyP_zero hk
    have hlt := (List.getElem?_eq_some_iff.1 hi).1
    obtain ⟨j, hj, hjl⟩ := hs.used hi
    have eb : swapB ps i a b = (s == a && g == b) := by unfold swapB; rw [hk, headP_of hi]; simp
    by_cases hc : s = a ∧ g = b
    · obtain ⟨rfl, rfl⟩ := hc
      have eb2 : swapB ps i s g = true := by rw [eb]; simp
      have ep : swapP ps i s g x y = ps.set i (true, x, y) := by unfold swapP; rw [eb2, Int.toNat_natCast]; simp
      rw [hk, eb2, ep]
      exact (rswap_yes ps.length i A c L s g x y w h hs.short (by omega) (by omega) j i hj hjl).mono fun _ _ ⟨A', c', he, ho, hf⟩ => ⟨A', c', _, he, ho, hs.swap_ hi hjl x y, hf⟩
    · have eb2 : swapB ps i a b = false := by rw [eb]; simpa using hc
      have ep : swapP ps i a b x y = ps := by unfold swapP; rw [eb2]; simp
      rw [hk, eb2, ep]
      exact (rswap_no ps.length i A c L a b x y w h hs.short (by omega) (by omega) j i s g hj hjl hc).mono fun _ _ ⟨he, hw⟩ => ⟨A, c, L, he, own_none h hw, hs, hw⟩
  · have eb : swapB ps n a b = false := by unfold swapB; simp [hk]
    have ep : swapP ps n a b x y = ps := by unfold swapP; rw [eb]; simp
    rw [eb, ep]
    exact (rswap_err ps.length n A c L a b x y w h hs.short _ (hs.why n) hk).mono fun _ _ ⟨he, hw⟩ => ⟨A, c, L, he, own_none h hw, hs, hw⟩

theorem rpages_any (h : ROwn w (.slice A L.length c) L) (hs : Sim ps L) : Calls Tryd.prog 14 #[rtab ps.length (.slice A L.length c)] w (PagesPost ps w) := by
  refine (rpages ps.length A c L w h hs.short (by have := hs.len; omega)).mono fun e w' ⟨A', c', he, ho, hf⟩ => ?_
  have := used_same ps L hs
  rw [this] at he ho
  exact ⟨A', c', he, ho, hf⟩
end
end Go.Proofs.YtnlpnbllnddaaaaDoor

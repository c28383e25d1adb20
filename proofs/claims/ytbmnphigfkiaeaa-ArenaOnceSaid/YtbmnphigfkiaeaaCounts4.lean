/- ArenaCounts' walk. Written by gen_counts4.py. -/
import Derived.Test.YtbmnphigfkiaeaaFew4
import Derived.Test.YtbmnphigfkiaeaaFills4
namespace Go.Proofs.Ytbmnphigfkiaeaa
open Go.RowKit Go.ChangeShapes Go.WideShapes
set_option maxRecDepth 100000
set_option linter.unusedVariables false

theorem live_put {ss : List Sl} {i : Nat} {s t : Sl} (hs : ss[i]? = some s) (hu : s.used = false) (ht : t.used = true) : ∀ k, (liveTo (ss.set i t) k).length = (liveTo ss k).length + if i < k then 1 else 0
  | 0 => by simp [liveTo]
  | k + 1 => by
    have hi := (List.getElem?_eq_some_iff.1 hs).1
    have := live_put hs hu ht k
    rw [liveTo, liveTo, List.length_append, List.length_append, this, List.getElem?_set]
    by_cases e : i = k
    · subst e
      rw [if_pos rfl, if_pos hi, hs]
      simp [hu, ht]
    · rw [if_neg e]
      by_cases h : i < k
      · rw [if_pos h, if_pos (by omega)]; omega
      · rw [if_neg h, if_neg (by omega)]; omega
theorem live_del {ss : List Sl} {i : Nat} {s t : Sl} (hs : ss[i]? = some s) (hu : s.used = true) (ht : t.used = false) (k : Nat) : (liveTo (ss.set i t) k).length + (if i < k then 1 else 0) = (liveTo ss k).length := by
  have hi := (List.getElem?_eq_some_iff.1 hs).1
  have h := live_put (ss := ss.set i t) (i := i) (s := t) (t := s) (List.getElem?_set_self hi) ht hu k
  rw [List.set_set] at h
  have e : ss.set i s = ss := by
    apply List.ext_getElem?
    intro j
    rw [List.getElem?_set]
    by_cases e : i = j
    · subst e; rw [if_pos rfl, if_pos hi, hs]
    · rw [if_neg e]
  rw [e] at h
  exact h.symm
theorem left_live {ss : List Sl} {last : Int} (hg : ∀ (j : Nat) s, ss[j]? = some s → s.gen < last) : ∀ k, k ≤ ss.length → leftTo ss last k + (liveTo ss k).length = k
  | 0, _ => rfl
  | k + 1, hk => by
    have := left_live hg k (by omega)
    obtain ⟨s, hs⟩ : ∃ s, ss[k]? = some s := ⟨_, List.getElem?_eq_getElem (by omega)⟩
    have h1 := hg k s hs
    cases hu : s.used with
    | true => rw [left_miss hs (fun h => by rw [hu] at h; cases h.1), live_hit hs hu, List.length_append]; simp; omega
    | false => rw [left_hit hs hu h1, live_miss hs hu]; omega
/-- The generations that k steps may have come to. -/
def Gens (k : Nat) (ss : List Sl) : Prop := ∀ (j : Nat) s, ss[j]? = some s → s.gen ≤ k
theorem Gens.put {k i : Nat} {ss : List Sl} {t : Sl} (h : Gens k ss) (ht : t.gen ≤ (k : Int) + 1) : Gens (k + 1) (ss.set i t) := by
  intro j s hs
  rw [List.getElem?_set] at hs
  split at hs
  · split at hs
    · obtain rfl := Option.some.inj hs
      omega
    · cases hs
  · have := h j s hs
    omega
theorem Gens.up {k : Nat} {ss : List Sl} (h : Gens k ss) : Gens (k + 1) ss := fun j s hs => by have := h j s hs; omega
theorem Gens.lt {k : Nat} {ss : List Sl} (h : Gens k ss) (hk : k ≤ 100) : ∀ (j : Nat) s, ss[j]? = some s → s.gen < 1099511627776 := fun j s hs => by have := h j s hs; omega

set_option maxHeartbeats 4000000 in
theorem counts4_walk (slots : Int) (A : Option Addr) (n cap : Nat) (L : List Dn) (w : World) (h : DnReads w A n L) (hm : n ≤ maxLen) :
    Calls Try.prog 7 #[.int .i64 slots, .slice A n cap] w fun e w' => e = .returned (.bool true) ∧ Fr none_ w w' := by
  have H := hid_ h
  have hln := h.1
  have HM := hid_ hm
  clear h hm
  go_enter Try.func7, Try.ntmps7
  go_wp2_with fail
  refine (few4_ok slots A n cap L w H.out HM.out).mono ?_
  rintro e w1 ⟨b, rfl, hb, hf1⟩
  have F1 := hid_ hf1
  clear hf1
  cases b with
  | false =>
    go_wp2_with fail
    refine (awake4 _).mono ?_
    rintro e w2 ⟨rfl, hf2⟩
    go_wp2
    go_ret
    exact ⟨rfl, F1.out.then_none hf2⟩
  | true =>
  obtain ⟨q1, -, hq⟩ := hb rfl
  have HQ := hid_ hq
  clear hq hb
  by_cases g1 : slots < 1
  · go_wp2_with fail
    refine (awake4 _).mono ?_
    rintro e w2 ⟨rfl, hf2⟩
    go_wp2
    go_ret
    exact ⟨rfl, F1.out.then_none hf2⟩
  by_cases g2 : 60 < slots
  · go_wp2_with fail
    refine (awake4 _).mono ?_
    rintro e w2 ⟨rfl, hf2⟩
    go_wp2
    go_ret
    exact ⟨rfl, F1.out.then_none hf2⟩
  obtain ⟨N, rfl⟩ : ∃ N : Nat, slots = N := ⟨slots.toNat, by omega⟩
  go_wp2_with fail
  refine (arNew_ok N 1099511627776 _ (by omega) (by omega) (by omega) (by omega)).mono ?_
  rintro e w2 ⟨a, G, rfl, hA2, hf2, ha, hG⟩
  have K2 := hid_ hA2
  have F2 := hid_ (F1.out.then_none hf2)
  have hG0 : w.heap.size ≤ G := Nat.le_trans F1.out.size hG
  have hge : Hid (Gens 0 (List.replicate N Sl.zero)) := hid_ (fun j s hs => by rw [List.eq_of_mem_replicate (List.mem_of_getElem? hs)]; exact Int.le_refl 0)
  clear hA2 hf2 ha hG
  go_wp2_with fail
  go_loopw [30] (fun i wr => ∃ (k : Nat) (ss : List Sl), k ≤ n ∧ i = .int .i64 k ∧ ss.length = N ∧ Gens k ss ∧ Ar wr a G 1099511627776 ss ∧ Fr none_ w wr) (fun i _ => n - (intOf i).toNat)
  case atStart => exact ⟨0, _, Nat.zero_le _, rfl, List.length_replicate, hge.out, K2.out, F2.out⟩
  case round =>
    obtain ⟨k, ss, hk, rfl, hN, hgn, hAr, hF⟩ := hrel
    have HG := hid_ hgn
    have K := hid_ hAr
    have F := hid_ hF
    have HN := hid_ hN
    clear hgn hAr hF hN
    by_cases hlt : k < n
    · obtain ⟨D, hD⟩ : ∃ D, L[k]? = some D := ⟨_, List.getElem?_eq_getElem (by omega)⟩
      obtain ⟨b, off, rfl, hb, hR, hO⟩ := (H.out.keep F.out).at_ hD
      have hz := HQ.out k D hD
      have HR := hid_ hR
      have HO := hid_ hO
      have hi0 : (0 : Int) ≤ (k : Int) := Int.natCast_nonneg _
      have hi1 : (k : Int) < (n : Int) := by omega
      clear hR hO hD
      go_wp2_with (first | (refine wpList_load_mid rfl 45 (.tmp 32) rfl b (off + k * 20) rfl (doL D) _ HR.out Try.underlying45 rfl do_size ?_) | (refine wpList_store_mid rfl 45 (.tmp 7) (.tmp 33) rfl wr.heap.size 0 (doL D).toArray rfl rfl (new_there wr _ doZ) do_size (do_one D) ?_; obtain ⟨w1, hw1⟩ : ∃ w1, w1 = (wr.alloc (.cells doZ 45)).setCells wr.heap.size 0 (doL D) := ⟨_, rfl⟩; change wpList _ _ _ _ _ ((wr.alloc (.cells doZ 45)).setCells wr.heap.size 0 (doL D)); rw [← hw1]; have P1 : Hid (Blk w1 wr.heap.size 45 (doL D).toArray ∧ Fr none_ wr w1) := hid_ (by rw [hw1]; exact new_copy wr _ doZ _ rfl); clear hw1))
      refine (left_ok _ (K.out.keep P1.out.2)).mono ?_
      rintro e w3 ⟨rfl, hf3⟩
      have X3 := hid_ (P1.out.1.fr hf3 id)
      have G3 := hid_ (P1.out.2.then_none hf3)
      clear hf3
      go_wp2_with fail
      refine (live_ok _ (K.out.keep G3.out)).mono ?_
      rintro e w4 ⟨A4, c4, rfl, -, hf4⟩
      have X4 := hid_ (X3.out.fr hf4 id)
      have G4 := hid_ (G3.out.then_none hf4)
      have K4 := hid_ (K.out.keep G4.out)
      have F4 := hid_ (F.out.then_none G4.out)
      clear hf4
      have hsum := left_live (last := 1099511627776) (HG.out.lt (by omega)) ss.length (Nat.le_refl _)
      obtain ⟨l, hl⟩ : ∃ l, l = leftTo ss 1099511627776 ss.length := ⟨_, rfl⟩
      obtain ⟨v, hv⟩ : ∃ v, v = (liveTo ss ss.length).length := ⟨_, rfl⟩
      rw [← hl, ← hv, HN.out] at hsum
      rw [← hl, ← hv]
      have Hl := hid_ hl
      have Hv := hid_ hv
      clear hl hv
      have hws : IntKind.i64.wrap ((l : Int) + (v : Int)) = (N : Int) := by rw [show (l : Int) + (v : Int) = (N : Int) by omega]; exact IntWalk.i64_in _ (by omega)
      have e0 : w4.cell? ⟨wr.heap.size, 0, none⟩ = some (.int .i64 D.verb) := X4.out.cell' rfl
      by_cases hverb : D.verb = 0
      · have hvb : (D.verb == 0) = true := by simpa using hverb
        have e1 : w4.cell? ⟨wr.heap.size, 1, none⟩ = some (.int .i64 D.R.kind) := X4.out.cell' rfl
        have e2 : w4.cell? ⟨wr.heap.size, 2, none⟩ = some (.string D.R.low) := X4.out.cell' rfl
        have e3 : w4.cell? ⟨wr.heap.size, 3, none⟩ = some (.string D.R.high) := X4.out.cell' rfl
        have e4 : w4.cell? ⟨wr.heap.size, 4, none⟩ = some (.bool D.R.unb) := X4.out.cell' rfl
        have e5 : w4.cell? ⟨wr.heap.size, 5, none⟩ = some (.int .i64 D.R.right) := X4.out.cell' rfl
        have e6 : w4.cell? ⟨wr.heap.size, 6, none⟩ = some (.slice D.A D.R.rows.length D.c) := X4.out.cell' rfl
        have e7 : w4.cell? ⟨wr.heap.size, 7, none⟩ = some (.slice D.B D.R.ents.length D.d) := X4.out.cell' rfl
        have e8 : w4.cell? ⟨wr.heap.size, 8, none⟩ = some (.string D.R.key) := X4.out.cell' rfl
        have e9 : w4.cell? ⟨wr.heap.size, 9, none⟩ = some (.string D.R.val) := X4.out.cell' rfl
        have e10 : w4.cell? ⟨wr.heap.size, 10, none⟩ = some (.int .i64 D.R.page) := X4.out.cell' rfl
        have e11 : w4.cell? ⟨wr.heap.size, 11, none⟩ = some (.int .i64 D.R.hpage) := X4.out.cell' rfl
        have e12 : w4.cell? ⟨wr.heap.size, 12, none⟩ = some (.int .i64 D.R.hleft) := X4.out.cell' rfl
        have e13 : w4.cell? ⟨wr.heap.size, 13, none⟩ = some (.string D.R.hkey) := X4.out.cell' rfl
        have e14 : w4.cell? ⟨wr.heap.size, 14, none⟩ = some (.int .i64 D.R.nslot) := X4.out.cell' rfl
        have e15 : w4.cell? ⟨wr.heap.size, 15, none⟩ = some (.int .i64 D.R.ngen) := X4.out.cell' rfl
        go_wp2_with fail
        refine (alloc_ok D.R D.A D.c D.B D.d _ a G _ ss K4.out (HO.out.rd.keep G4.out) ⟨by omega, by omega⟩).mono ?_
        rintro e w5 h5
        rcases h5 with ⟨i, s, vr5, ve5, hs, ⟨hu, hgl⟩, -, rfl, hA5, -, hf5⟩ | ⟨hno, rfl, hf5⟩
        · have hi := (List.getElem?_eq_some_iff.1 hs).1
          have hp := live_put (t := ⟨s.gen + 1, true, D.R, vr5, ve5⟩) hs hu rfl ss.length
          rw [if_pos hi, ← Hv.out] at hp
          have hG5 : Gens (k + 1) (ss.set i ⟨s.gen + 1, true, D.R, vr5, ve5⟩) := HG.out.put (by have := HG.out i s hs; show s.gen + 1 ≤ _; omega)
          have hsum5 := left_live (last := 1099511627776) (hG5.lt (by omega)) _ (Nat.le_refl _)
          rw [List.length_set] at hsum5
          obtain ⟨l5, hl5⟩ : ∃ l5, l5 = leftTo (ss.set i ⟨s.gen + 1, true, D.R, vr5, ve5⟩) 1099511627776 ss.length := ⟨_, rfl⟩
          rw [← hl5, hp, HN.out] at hsum5
          have HL5 := hid_ hl5
          have HG5 := hid_ hG5
          have K5 := hid_ hA5
          have F5 := hid_ (F4.out.then_only hf5 (.inr hG0))
          have hl0 : decide ((0 : Int) < (l : Int)) = true := by simp; omega
          have hws5 : IntKind.i64.wrap ((l : Int) - 1) = (l5 : Int) := by rw [show (l : Int) - 1 = (l5 : Int) by omega]; exact IntWalk.i64_in _ (by omega)
          clear hp hG5 hA5 hf5 hl5 hs e0 e1 e2 e3 e4 e5 e6 e7 e8 e9 e10 e11 e12 e13 e14 e15
          go_wp2_with fail
          refine (left_ok _ (K5.out.keep ((Fr.refl none_ w5).alloc _))).mono ?_
          rintro e w6 ⟨rfl, hf6⟩
          rw [List.length_set, ← HL5.out]
          have K6 := hid_ ((K5.out.keep ((Fr.refl none_ w5).alloc (.cells #[.int .i64 ((i : Int) + 1), .int .i64 (s.gen + 1)] 27))).keep hf6)
          have F6 := hid_ ((F5.out.alloc (.cells #[.int .i64 ((i : Int) + 1), .int .i64 (s.gen + 1)] 27)).then_none hf6)
          clear hf6
          go_wp2_with fail
          go_roundw
          case rel => exact ⟨k + 1, _, by omega, by go_num, by rw [List.length_set]; exact HN.out, HG5.out, K6.out, F6.out⟩
          case measure => simp [intOf]; omega
        · have hal : ∀ (j : Nat) s, ss[j]? = some s → s.used = true := fun j s hs => (hno j s hs).resolve_right (fun e => by have := HG.out.lt (by omega) j s hs; omega)
          have hl0' : l = 0 := by rw [Hl.out]; exact left_none hal _
          subst hl0'
          have K5 := hid_ (K4.out.keep hf5)
          have F5 := hid_ (F4.out.then_none hf5)
          clear hf5 hno hal e0 e1 e2 e3 e4 e5 e6 e7 e8 e9 e10 e11 e12 e13 e14 e15
          go_wp2_with fail
          go_roundw
          case rel => exact ⟨k + 1, _, by omega, by go_num, HN.out, HG.out.up, K5.out.keep ((Fr.refl none_ w5).alloc _), F5.out.alloc _⟩
          case measure => simp [intOf]; omega
      · have hvb : (D.verb == 0) = false := by simpa using hverb
        have e16 : w4.cell? ⟨wr.heap.size, 16, none⟩ = some (.int .i64 D.sl) := X4.out.cell' rfl
        have e17 : w4.cell? ⟨wr.heap.size, 17, none⟩ = some (.int .i64 D.gn) := X4.out.cell' rfl
        go_wp2_with fail
        by_cases hat : atC ss D.sl D.gn = 0
        · rcases atC_cases ss D.sl D.gn with ⟨e1, _⟩ | ⟨i, s, hsl, hs, ⟨e1, _⟩ | ⟨_, hu, hg⟩⟩
          · omega
          · omega
          refine (free_ok D.sl D.gn K4.out hs hsl hu hg).mono ?_
          rintro e w5 ⟨rfl, hA5, hf5⟩
          have hi := (List.getElem?_eq_some_iff.1 hs).1
          have hp := live_del (t := ⟨s.gen, false, Rc.zero, .slice none 0 0, .slice none 0 0⟩) hs hu rfl ss.length
          rw [if_pos hi, ← Hv.out] at hp
          have hG5 : Gens (k + 1) (ss.set i ⟨s.gen, false, Rc.zero, .slice none 0 0, .slice none 0 0⟩) := HG.out.put (by have := HG.out i s hs; show s.gen ≤ _; omega)
          have hsum5 := left_live (last := 1099511627776) (hG5.lt (by omega)) _ (Nat.le_refl _)
          rw [List.length_set] at hsum5
          obtain ⟨l5, hl5⟩ : ∃ l5, l5 = leftTo (ss.set i ⟨s.gen, false, Rc.zero, .slice none 0 0, .slice none 0 0⟩) 1099511627776 ss.length := ⟨_, rfl⟩
          obtain ⟨v5, hv5⟩ : ∃ v5, v5 = (liveTo (ss.set i ⟨s.gen, false, Rc.zero, .slice none 0 0, .slice none 0 0⟩) ss.length).length := ⟨_, rfl⟩
          rw [← hl5, ← hv5, HN.out] at hsum5
          rw [← hv5] at hp
          have HL5 := hid_ hl5
          have HV5 := hid_ hv5
          have HG5 := hid_ hG5
          have K5 := hid_ hA5
          have F5 := hid_ (F4.out.then_only hf5 (.inr hG0))
          have hws5 : IntKind.i64.wrap ((l : Int) + 1) = (l5 : Int) := by rw [show (l : Int) + 1 = (l5 : Int) by omega]; exact IntWalk.i64_in _ (by omega)
          have hwv5 : IntKind.i64.wrap ((v : Int) - 1) = (v5 : Int) := by rw [show (v : Int) - 1 = (v5 : Int) by omega]; exact IntWalk.i64_in _ (by omega)
          clear hp hG5 hA5 hf5 hl5 hv5 hs e0 e16 e17
          go_wp2_with fail
          refine (left_ok _ K5.out).mono ?_
          rintro e w6 ⟨rfl, hf6⟩
          rw [List.length_set, ← HL5.out]
          have K6 := hid_ (K5.out.keep hf6)
          have F6 := hid_ (F5.out.then_none hf6)
          clear hf6
          go_wp2_with fail
          refine (live_ok _ K6.out).mono ?_
          rintro e w7 ⟨A7, c7, rfl, -, hf7⟩
          rw [List.length_set, ← HV5.out]
          have K7 := hid_ (K6.out.keep hf7)
          have F7 := hid_ (F6.out.then_none hf7)
          clear hf7
          go_wp2_with fail
          go_roundw
          case rel => exact ⟨k + 1, _, by omega, by go_num, by rw [List.length_set]; exact HN.out, HG5.out, K7.out, F7.out⟩
          case measure => simp [intOf]; omega
        · refine (free_bad D.sl D.gn K4.out hat).mono ?_
          rintro e w5 ⟨rfl, hf5⟩
          have K5 := hid_ (K4.out.keep hf5)
          have F5 := hid_ (F4.out.then_none hf5)
          clear hf5 e0 e16 e17
          go_wp2_with fail
          refine (left_ok _ K5.out).mono ?_
          rintro e w6 ⟨rfl, hf6⟩
          rw [← Hl.out]
          have K6 := hid_ (K5.out.keep hf6)
          have F6 := hid_ (F5.out.then_none hf6)
          clear hf6
          go_wp2_with fail
          go_roundw
          case rel => exact ⟨k + 1, _, by omega, by go_num, HN.out, HG.out.up, K6.out, F6.out⟩
          case measure => simp [intOf]; omega
    · obtain rfl : k = n := by omega
      go_wp2_with fail
      refine (awake4 _).mono ?_
      rintro e w3 ⟨rfl, hf3⟩
      go_wp2
      go_ret
      exact ⟨rfl, F.out.then_none hf3⟩
theorem counts4_walk_i {H : Type} {enc : TypeId × Value → H} (slots : Int) (wfs : (Lit.int .i64 slots).wf = true) (A : Option Addr) (n cap : Nat) (hc : n ≤ cap) (hm : cap ≤ maxLen) (w : World) (h : Do4At enc w A n) :
    Calls Try.prog 7 #[.int .i64 slots, .slice A n cap] w fun e w' => e = .returned (.bool true) ∧ Fr none_ w w' := by
  obtain ⟨L, hL⟩ := dns_of h
  exact counts4_walk slots A n cap L w hL (by omega)
end Go.Proofs.Ytbmnphigfkiaeaa

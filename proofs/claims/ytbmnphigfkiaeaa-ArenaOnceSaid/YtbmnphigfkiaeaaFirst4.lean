/- ArenaFirst's walk. Written by gen_first4.py. -/
import Derived.Test.YtbmnphigfkiaeaaCounts4
import Derived.Maps.OwnOps
import Derived.Maps.OwnSet
import Derived.IntWalk
namespace Go.Proofs.Ytbmnphigfkiaeaa
open Go.RowKit Go.ChangeShapes Go.WideShapes
open Go.Maps (Keyed int_keyed keyOf_int_mk)
set_option maxRecDepth 100000
set_option linter.unusedVariables false

theorem rfFlat_get : ∀ (L : List Rf) (i : Nat) (p : Rf), L[i]? = some p → (rfFlat L)[i * 2]? = some (.int .i64 p.1) ∧ (rfFlat L)[i * 2 + 1]? = some (.int .i64 p.2)
  | [], i, p, h => by simp at h
  | q :: L, 0, p, h => by
    obtain rfl : q = p := by simpa using h
    simp [rfFlat, rfCells]
  | q :: L, i + 1, p, h => by
    have := rfFlat_get L i p (by simpa using h)
    rw [show (i + 1) * 2 = i * 2 + 1 + 1 by omega]
    simpa [rfFlat, rfCells] using this
theorem own_rf {wr : World} {base n c : Nat} {A : Option Addr} {L : List Rf} (h : wr.ownsRow base 27 2 (.slice A n c) L.length (rfFlat L)) (hn : L.length = n) {k : Nat} {p : Rf} (hp : L[k]? = some p) : ∃ g, A = some ⟨g, 0, none⟩ ∧ wr.cell? ⟨g, k * 2, none⟩ = some (.int .i64 p.1) ∧ wr.cell? ⟨g, k * 2 + 1, none⟩ = some (.int .i64 p.2) := by
  subst hn
  obtain ⟨A', c', hv, _, _, hp'⟩ := own_parts h
  obtain ⟨g, hA, _, hc⟩ := hp' (by have := (List.getElem?_eq_some_iff.1 hp).1; omega)
  have hA' : A = some ⟨g, 0, none⟩ := by injection hv with h1; rw [h1, hA]
  subst hA'
  exact ⟨g, rfl, hc _ _ (rfFlat_get L k p hp).1, hc _ _ (rfFlat_get L k p hp).2⟩
theorem live_mem {ss : List Sl} {p : Rf} : ∀ k, p ∈ liveTo ss k → ∃ (j : Nat) (s : Sl), j < k ∧ ss[j]? = some s ∧ s.used = true ∧ p = ((j : Int) + 1, s.gen)
  | 0, h => by simp [liveTo] at h
  | k + 1, h => by
    rw [liveTo, List.mem_append] at h
    rcases h with h | h
    · obtain ⟨j, s, h1, h2⟩ := live_mem k h
      exact ⟨j, s, by omega, h2⟩
    · split at h
      · rename_i s hs
        split at h
        · rename_i hu
          exact ⟨k, s, by omega, hs, hu, by simpa using h⟩
        · simp at h
      · simp at h
theorem mem_live {ss : List Sl} {j : Nat} {s : Sl} (hs : ss[j]? = some s) (hu : s.used = true) : ∀ k, j < k → ((j : Int) + 1, s.gen) ∈ liveTo ss k
  | 0, h => by omega
  | k + 1, h => by
    rw [liveTo, List.mem_append]
    rcases Nat.lt_succ_iff_lt_or_eq.1 h with h | rfl
    · exact .inl (mem_live hs hu k h)
    · right; simp [hs, hu]

abbrev IntMap := DataW Unit
theorem int_law4 : Keyed Try.prog 3 := int_keyed Try.underlying3
theorem zero_int4 (w : World) : (zeroValue 3).run Try.prog w = .ok (.int .i64 0) w := by kernel_rfl
theorem map_fr4 {w w' : World} {S : Nat → Prop} {M n : Nat} {D : IntMap} (h : w.ownsMap Try.prog 3 (plainElem (H := Unit) Try.prog 3) M n D) (hf : Fr S w w') (hS : ¬ S M) : w'.ownsMap Try.prog 3 (plainElem (H := Unit) Try.prog 3) M n D := by
  have hl := h.lt
  obtain ⟨es, clock, hb, r⟩ := h
  exact ⟨es, clock, (hf.block M hl hS).trans hb, r⟩
/-- The map has 1 at just the numbers of S. -/
structure Marks (D : IntMap) (S : List Int) : Prop where
  m : Maps.IsMap D
  yes : ∀ t, t ∈ S → D.atKey (.int .i64 t) (.lit (.int .i64 0)) = .lit (.int .i64 1)
  no : ∀ t, t ∉ S → D.atKey (.int .i64 t) (.lit (.int .i64 0)) = .lit (.int .i64 0)
theorem Marks.empty : Marks (.map []) [] := ⟨Maps.isMap_empty, fun t h => by simp at h, fun t _ => rfl⟩
theorem Marks.put {D : IntMap} {S : List Int} (h : Marks D S) (t : Int) : Marks (D.put (.int .i64 t) (.lit (.int .i64 1))) (S ++ [t]) := by
  refine ⟨h.m.put _ _, fun x hx => ?_, fun x hx => ?_⟩
  · by_cases e : x = t
    · subst e; exact Maps.atKey_put_same h.m (by trivial) _ _
    · rw [Maps.atKey_put_other (fun e' => e (by cases e'; rfl))]
      exact h.yes x (by simp [e] at hx; exact hx)
  · have h1 : x ∉ S ∧ x ≠ t := by simpa using hx
    rw [Maps.atKey_put_other (fun e' => h1.2 (by cases e'; rfl))]
    exact h.no x h1.1
theorem Ar.far {w w' w2 : World} {a G M : Nat} {last : Int} {ss : List Sl} (h : Ar w a G last ss) (h2 : Ar w' a G last ss) (hf : Fr (only M) w' w2) (hM : w.heap.size ≤ M) : Ar w2 a G last ss := by
  have h3 := h.ltA
  have h4 := h.ltG
  obtain ⟨cs, hG, hc⟩ := h2.hG
  exact ⟨h2.hA.fr hf (only_ne (by omega)), ⟨cs, hG.fr hf (only_ne (by omega)), hc⟩, fun i s hs => (h2.own i s hs).fr hf (fun k hk e => by have h5 := ((h.own i s hs).r.lt k hk).2; have h6 : k = M := e; omega) (fun k hk e => by have h5 := ((h.own i s hs).e.lt k hk).2; have h6 : k = M := e; omega), h2.l40, h2.len, h2.gen, h2.sz⟩
theorem wf_small {t : Int} (h1 : 0 ≤ t) (h2 : t ≤ 5000) : (Lit.int .i64 t).wf = true := by
  simp [Lit.wf, IntKind.min, IntKind.max, IntKind.signed, IntKind.bits]
  omega

set_option maxHeartbeats 4000000 in
theorem first4_walk (slots : Int) (A : Option Addr) (n cap : Nat) (L : List Dn) (w : World) (h : DnReads w A n L) (hm : n ≤ maxLen) :
    Calls Try.prog 6 #[.int .i64 slots, .slice A n cap] w fun e w' => e = .returned (.bool true) ∧ Fr none_ w w' := by
  have H := hid_ h
  have hln := h.1
  have HM := hid_ hm
  clear h hm
  have hmm := @run_makeMap Try.prog
  go_enter Try.func6, Try.ntmps6
  go_wp2_with fail
  refine (few4_ok slots A n cap L w H.out HM.out).mono ?_
  rintro e w1 ⟨b, rfl, hb, hf1⟩
  have F1 := hid_ hf1
  clear hf1
  cases b with
  | false =>
    go_wp2_with fail
    refine (awake4 _).mono ?_
    rintro e w2 ⟨rfl, hf2⟩
    go_wp2
    go_ret
    exact ⟨rfl, F1.out.then_none hf2⟩
  | true =>
  obtain ⟨q1, -, hq⟩ := hb rfl
  have HQ := hid_ hq
  clear hq hb
  by_cases g1 : slots < 1
  · go_wp2_with fail
    refine (awake4 _).mono ?_
    rintro e w2 ⟨rfl, hf2⟩
    go_wp2
    go_ret
    exact ⟨rfl, F1.out.then_none hf2⟩
  by_cases g2 : 60 < slots
  · go_wp2_with fail
    refine (awake4 _).mono ?_
    rintro e w2 ⟨rfl, hf2⟩
    go_wp2
    go_ret
    exact ⟨rfl, F1.out.then_none hf2⟩
  obtain ⟨N, rfl⟩ : ∃ N : Nat, slots = N := ⟨slots.toNat, by omega⟩
  go_wp2_with fail
  refine (arNew_ok N 1099511627776 _ (by omega) (by omega) (by omega) (by omega)).mono ?_
  rintro e w2 ⟨a, G, rfl, hA2, hf2, ha, hG⟩
  have K2 := hid_ hA2
  have F2 := hid_ (F1.out.then_none hf2)
  have hG0 : w.heap.size ≤ G := Nat.le_trans F1.out.size hG
  have hge : Hid (Gens 0 (List.replicate N Sl.zero)) := hid_ (fun j s hs => by rw [List.eq_of_mem_replicate (List.mem_of_getElem? hs)]; exact Int.le_refl 0)
  clear hA2 hf2 ha hG
  go_wp2_with fail
  go_loopw [31] (fun i wr => ∃ (k : Nat) (ss : List Sl), k ≤ n ∧ i = .int .i64 k ∧ ss.length = N ∧ Gens k ss ∧ Ar wr a G 1099511627776 ss ∧ Fr none_ w wr) (fun i _ => n - (intOf i).toNat)
  case atStart => exact ⟨0, _, Nat.zero_le _, rfl, List.length_replicate, hge.out, K2.out, F2.out⟩
  case round =>
    obtain ⟨k, ss, hk, rfl, hN, hgn, hAr, hF⟩ := hrel
    have HG := hid_ hgn
    have K := hid_ hAr
    have F := hid_ hF
    have HN := hid_ hN
    clear hgn hAr hF hN
    by_cases hlt : k < n
    · obtain ⟨D, hD⟩ : ∃ D, L[k]? = some D := ⟨_, List.getElem?_eq_getElem (by omega)⟩
      obtain ⟨b, off, rfl, hb, hR, hO⟩ := (H.out.keep F.out).at_ hD
      have hz := HQ.out k D hD
      have HR := hid_ hR
      have HO := hid_ hO
      have hi0 : (0 : Int) ≤ (k : Int) := Int.natCast_nonneg _
      have hi1 : (k : Int) < (n : Int) := by omega
      clear hR hO hD
      go_wp2_with (first | (refine wpList_load_mid rfl 45 (.tmp 33) rfl b (off + k * 20) rfl (doL D) _ HR.out Try.underlying45 rfl do_size ?_) | (refine wpList_store_mid rfl 45 (.tmp 7) (.tmp 34) rfl wr.heap.size 0 (doL D).toArray rfl rfl (new_there wr _ doZ) do_size (do_one D) ?_; obtain ⟨w1, hw1⟩ : ∃ w1, w1 = (wr.alloc (.cells doZ 45)).setCells wr.heap.size 0 (doL D) := ⟨_, rfl⟩; change wpList _ _ _ _ _ ((wr.alloc (.cells doZ 45)).setCells wr.heap.size 0 (doL D)); rw [← hw1]; have P1 : Hid (Blk w1 wr.heap.size 45 (doL D).toArray ∧ Fr none_ wr w1) := hid_ (by rw [hw1]; exact new_copy wr _ doZ _ rfl); clear hw1))
      have KW := hid_ (K.out.keep P1.out.2)
      have FW := hid_ (F.out.then_none P1.out.2)
      go_wp2_with fail
      obtain ⟨w3, hw3⟩ : ∃ w3, w3 = w1.alloc (.map #[] 0) := ⟨_, rfl⟩
      have N3 : Hid (w3.ownsMap Try.prog 3 (plainElem (H := Unit) Try.prog 3) w1.heap.size 0 (.map [])) := hid_ (by rw [hw3]; exact World.ownsMap_made w1 _ _ _)
      have f3 : Fr none_ w1 w3 := by rw [hw3]; exact (Fr.refl none_ w1).alloc _
      rw [← hw3]
      clear hw3
      have X3 := hid_ (P1.out.1.fr f3 id)
      have K3 := hid_ (KW.out.keep f3)
      have F3 := hid_ (FW.out.then_none f3)
      have G3 := hid_ (P1.out.2.then_none f3)
      clear f3
      refine (live_ok _ K3.out).mono ?_
      rintro e w4 ⟨A4, c4, rfl, ho4, hf4⟩
      have O4 := hid_ ho4
      have X4 := hid_ (X3.out.fr hf4 id)
      have K4 := hid_ (K3.out.keep hf4)
      have F4 := hid_ (F3.out.then_none hf4)
      have G4 := hid_ (G3.out.then_none hf4)
      have N4 := hid_ (map_fr4 N3.out hf4 id)
      clear ho4 hf4
      obtain ⟨LV, hLV⟩ : ∃ LV, LV = liveTo ss ss.length := ⟨_, rfl⟩
      rw [← hLV] at O4
      rw [← hLV]
      have HLV := hid_ hLV
      have hle : LV.length ≤ 60 := by have := live_le ss ss.length; rw [← hLV, HN.out] at this; omega
      clear hLV
      go_wp2_with fail
      obtain ⟨wo, rfl⟩ : ∃ wo : World, wo = wr := ⟨_, rfl⟩
      have hMl := N3.out.lt
      have hXM := P1.out.1.lt
      have hMw := FW.out.size
      go_loopw [39] (fun i wx => ∃ (q m : Nat) (Dm : IntMap), q ≤ LV.length ∧ i = .int .i64 q ∧ m ≤ q ∧ Marks Dm ((LV.take q).map (·.1)) ∧ wx.ownsMap Try.prog 3 (plainElem (H := Unit) Try.prog 3) w1.heap.size m Dm ∧ Fr (only w1.heap.size) w4 wx) (fun i _ => LV.length - (intOf i).toNat)
      case atStart => exact ⟨0, 0, _, Nat.zero_le _, rfl, Nat.le_refl _, Marks.empty, N4.out, Fr.refl _ _⟩
      case round =>
        obtain ⟨q, m, Dm, hq, rfl, hmq, hmk, hown, hfx⟩ := hrel
        obtain ⟨wx, rfl⟩ : ∃ wx : World, wx = wr := ⟨_, rfl⟩
        have MK := hid_ hmk
        have NX := hid_ hown
        have FX := hid_ hfx
        clear hmk hown hfx
        by_cases hql : q < LV.length
        · obtain ⟨p, hp⟩ : ∃ p, LV[q]? = some p := ⟨_, List.getElem?_eq_getElem hql⟩
          obtain ⟨g, rfl, r0, r1⟩ := own_rf (own_fr O4.out FX.out (fun k hk e => by have h5 := (O4.out.lt k hk).1; have h6 : k = w1.heap.size := e; omega)) rfl hp
          obtain ⟨j, s, hj, hs, hu, hpe⟩ := live_mem (ss := ss) (p := p) ss.length (by rw [← HLV.out]; exact List.mem_of_getElem? hp)
          have hj60 : j < 60 := by have := HN.out; omega
          have hwf : (Lit.int .i64 p.1).wf = true := by rw [hpe]; exact wf_small (by show (0 : Int) ≤ (j : Int) + 1; omega) (by show (j : Int) + 1 ≤ 5000; omega)
          have hkey := keyOf_int_mk (P := Try.prog) Try.underlying3 hwf
          have hn : m < maxLen := by unfold maxLen; omega
          have hi2 : (0 : Int) ≤ (q : Int) := Int.natCast_nonneg _
          have hi3 : (q : Int) < (LV.length : Int) := by omega
          have Hp := hid_ hp
          clear hp hpe hs hu hj
          go_wp2_with (at_mapUpdate; refine wpList_mapUpdate_own _ rfl _ _ _ 51 rfl 3 3 int_law4 Try.underlying51 _ w1.heap.size m _ rfl (map_fr4 NX.out ((Fr.refl none_ wx).alloc _) id) hn _ _ _ rfl rfl hkey _ [] (plainElem_int Try.underlying3 (by decide)) ?_; intro w6 hown6 hgr6)
          go_roundw
          case rel => exact ⟨q + 1, m + 1, _, by omega, by go_num, by omega, by rw [List.take_add_one, Hp.out, List.map_append]; exact MK.out.put p.1, hown6, (FX.out.alloc _).grown hgr6 (fun k hk => .inl (show k = w1.heap.size by simpa using hk.symm))⟩
          case measure => simp [intOf]; omega
        · obtain rfl : q = LV.length := by omega
          have hmk := MK.out
          rw [List.take_length, HLV.out] at hmk
          have MK2 := hid_ hmk
          have X5 := hid_ (X4.out.fr FX.out (only_ne (by omega)))
          have K5 := hid_ (KW.out.far K4.out FX.out (Nat.le_refl _))
          have F5 := hid_ (F4.out.then_only FX.out (.inr hMw))
          have G5 := hid_ (G4.out.then_only FX.out (.inr (by omega)))
          clear hmk
          go_wp2_with fail
          go_loopw [11] (fun x wy => ∃ q : Nat, q ≤ N ∧ x = .int .i64 ((q : Int) + 1) ∧ (∀ j : Nat, j < q → ∃ s, ss[j]? = some s ∧ s.used = true) ∧ Fr none_ wx wy) (fun x _ => N + 1 - (intOf x).toNat)
          case atStart => exact ⟨0, Nat.zero_le _, rfl, fun j hj => by omega, Fr.refl _ _⟩
          case round =>
            obtain ⟨q, hqN, rfl, hus, hfy⟩ := hrel
            obtain ⟨wy, rfl⟩ : ∃ wy : World, wy = wr := ⟨_, rfl⟩
            have HU := hid_ hus
            have NY := hid_ (map_fr4 NX.out hfy id)
            have X6 := hid_ (X5.out.fr hfy id)
            have K6 := hid_ (K5.out.keep hfy)
            have F6 := hid_ (F5.out.then_none hfy)
            have G6 := hid_ (G5.out.then_none hfy)
            have FY := hid_ hfy
            clear hus hfy
            have hkey := keyOf_int_mk (P := Try.prog) Try.underlying3 (wf_small (t := (q : Int) + 1) (by omega) (by omega))
            by_cases hin : ((q : Int) + 1) ∈ (liveTo ss ss.length).map (·.1)
            · have hlu := MK2.out.yes _ hin
              obtain ⟨p, hp, hpq⟩ := List.mem_map.1 hin
              obtain ⟨j, s, hj, hs, hu, hpe⟩ := live_mem ss.length hp
              obtain rfl : j = q := by rw [hpe] at hpq; have : (j : Int) + 1 = (q : Int) + 1 := hpq; omega
              have hjN : j < N := by have := HN.out; omega
              have HS := hid_ (And.intro hs hu)
              have hwk : IntKind.i64.wrap ((j : Int) + 1 + 1) = (j : Int) + 1 + 1 := IntWalk.i64_in _ (by omega)
              clear hp hpq hpe hs hu hin hj
              go_wp2_with (at_lookup; refine wpList_lookup_own_int _ rfl _ _ 51 rfl 3 3 .i64 int_law4 Try.underlying51 Try.underlying3 (zero_int4 _) w1.heap.size m Dm rfl NY.out _ _ rfl hkey ?_; intro cc hat hwc; obtain rfl : (1 : Int) = cc := by simpa using hlu.symm.trans hat)
              go_roundw
              case rel => exact ⟨j + 1, by omega, by go_num, fun i hi => by
                rcases Nat.lt_succ_iff_lt_or_eq.1 hi with hi | rfl
                · exact HU.out i hi
                · exact ⟨s, HS.out⟩, FY.out⟩
              case measure => simp [intOf]; omega
            · have hlu := MK2.out.no _ hin
              have Hin := hid_ hin
              clear hin
              have e0 : wy.cell? ⟨wo.heap.size, 0, none⟩ = some (.int .i64 D.verb) := X6.out.cell' rfl
              by_cases hverb : D.verb = 0
              · have hvb : (D.verb == 0) = true := by simpa using hverb
                have e1 : wy.cell? ⟨wo.heap.size, 1, none⟩ = some (.int .i64 D.R.kind) := X6.out.cell' rfl
                have e2 : wy.cell? ⟨wo.heap.size, 2, none⟩ = some (.string D.R.low) := X6.out.cell' rfl
                have e3 : wy.cell? ⟨wo.heap.size, 3, none⟩ = some (.string D.R.high) := X6.out.cell' rfl
                have e4 : wy.cell? ⟨wo.heap.size, 4, none⟩ = some (.bool D.R.unb) := X6.out.cell' rfl
                have e5 : wy.cell? ⟨wo.heap.size, 5, none⟩ = some (.int .i64 D.R.right) := X6.out.cell' rfl
                have e6 : wy.cell? ⟨wo.heap.size, 6, none⟩ = some (.slice D.A D.R.rows.length D.c) := X6.out.cell' rfl
                have e7 : wy.cell? ⟨wo.heap.size, 7, none⟩ = some (.slice D.B D.R.ents.length D.d) := X6.out.cell' rfl
                have e8 : wy.cell? ⟨wo.heap.size, 8, none⟩ = some (.string D.R.key) := X6.out.cell' rfl
                have e9 : wy.cell? ⟨wo.heap.size, 9, none⟩ = some (.string D.R.val) := X6.out.cell' rfl
                have e10 : wy.cell? ⟨wo.heap.size, 10, none⟩ = some (.int .i64 D.R.page) := X6.out.cell' rfl
                have e11 : wy.cell? ⟨wo.heap.size, 11, none⟩ = some (.int .i64 D.R.hpage) := X6.out.cell' rfl
                have e12 : wy.cell? ⟨wo.heap.size, 12, none⟩ = some (.int .i64 D.R.hleft) := X6.out.cell' rfl
                have e13 : wy.cell? ⟨wo.heap.size, 13, none⟩ = some (.string D.R.hkey) := X6.out.cell' rfl
                have e14 : wy.cell? ⟨wo.heap.size, 14, none⟩ = some (.int .i64 D.R.nslot) := X6.out.cell' rfl
                have e15 : wy.cell? ⟨wo.heap.size, 15, none⟩ = some (.int .i64 D.R.ngen) := X6.out.cell' rfl
                go_wp2_with (at_lookup; refine wpList_lookup_own_int _ rfl _ _ 51 rfl 3 3 .i64 int_law4 Try.underlying51 Try.underlying3 (zero_int4 _) w1.heap.size m Dm rfl NY.out _ _ rfl hkey ?_; intro cc hat hwc; obtain rfl : (0 : Int) = cc := by simpa using hlu.symm.trans hat)
                refine (alloc_ok D.R D.A D.c D.B D.d _ a G _ ss K6.out (HO.out.rd.keep G6.out) ⟨by omega, by omega⟩).mono ?_
                rintro e w5 h5
                rcases h5 with ⟨i, s, vr5, ve5, hs, ⟨hu, hgl⟩, hno, rfl, hA5, -, hf5⟩ | ⟨hno, rfl, hf5⟩
                · have hi := (List.getElem?_eq_some_iff.1 hs).1
                  obtain rfl : i = q := by
                    rcases Nat.lt_trichotomy i q with h1 | h1 | h1
                    · obtain ⟨s', hs', hu'⟩ := HU.out i h1
                      rw [hs] at hs'
                      cases hs'
                      rw [hu] at hu'
                      cases hu'
                    · exact h1
                    · obtain ⟨t', ht'⟩ : ∃ t', ss[q]? = some t' := ⟨_, List.getElem?_eq_getElem (by omega)⟩
                      have hu2 := (hno q t' h1 ht').resolve_right (fun e => by have := HG.out.lt (by omega) q t' ht'; omega)
                      exact absurd (List.mem_map.2 ⟨_, mem_live ht' hu2 ss.length (by omega), rfl⟩) Hin.out
                  have hG5 : Gens (k + 1) (ss.set i ⟨s.gen + 1, true, D.R, vr5, ve5⟩) := HG.out.put (by have := HG.out i s hs; show s.gen + 1 ≤ _; omega)
                  have HG5 := hid_ hG5
                  have K5' := hid_ hA5
                  have F5' := hid_ (F6.out.then_only hf5 (.inr hG0))
                  clear hG5 hA5 hf5 hs hno hlu e0 e1 e2 e3 e4 e5 e6 e7 e8 e9 e10 e11 e12 e13 e14 e15
                  go_wp2_with fail
                  go_roundw
                  case rel => exact ⟨k + 1, _, by omega, by go_num, by rw [List.length_set]; exact HN.out, HG5.out, K5'.out.keep ((Fr.refl none_ w5).alloc _), F5'.out.alloc _⟩
                  case measure => simp [intOf]; omega
                · have hqN2 : q = N := by
                    rcases Nat.lt_or_ge q N with h1 | h1
                    · have hlN := HN.out
                      obtain ⟨t', ht'⟩ : ∃ t', ss[q]? = some t' := ⟨_, List.getElem?_eq_getElem (by omega)⟩
                      have hu2 := (hno q t' ht').resolve_right (fun e => by have := HG.out.lt (by omega) q t' ht'; omega)
                      exact absurd (List.mem_map.2 ⟨_, mem_live ht' hu2 ss.length (by omega), rfl⟩) Hin.out
                    · omega
                  have hdc : decide ((q : Int) + 1 ≤ (N : Int)) = false := by simp; omega
                  have K5' := hid_ (K6.out.keep hf5)
                  have F5' := hid_ (F6.out.then_none hf5)
                  clear hf5 hno hlu e0 e1 e2 e3 e4 e5 e6 e7 e8 e9 e10 e11 e12 e13 e14 e15
                  subst hqN2
                  go_wp2_with fail
                  go_roundw
                  case rel => exact ⟨k + 1, _, by omega, by go_num, HN.out, HG.out.up, K5'.out.keep ((Fr.refl none_ w5).alloc _), F5'.out.alloc _⟩
                  case measure => simp [intOf]; omega
              · have hvb : (D.verb != 0) = true := by simpa using hverb
                clear hverb
                have e16 : wy.cell? ⟨wo.heap.size, 16, none⟩ = some (.int .i64 D.sl) := X6.out.cell' rfl
                have e17 : wy.cell? ⟨wo.heap.size, 17, none⟩ = some (.int .i64 D.gn) := X6.out.cell' rfl
                go_wp2_with (at_lookup; refine wpList_lookup_own_int _ rfl _ _ 51 rfl 3 3 .i64 int_law4 Try.underlying51 Try.underlying3 (zero_int4 _) w1.heap.size m Dm rfl NY.out _ _ rfl hkey ?_; intro cc hat hwc; obtain rfl : (0 : Int) = cc := by simpa using hlu.symm.trans hat)
                by_cases hat : atC ss D.sl D.gn = 0
                · rcases atC_cases ss D.sl D.gn with ⟨e1, _⟩ | ⟨i, s, hsl, hs, ⟨e1, _⟩ | ⟨_, hu, hg⟩⟩
                  · omega
                  · omega
                  refine (free_ok D.sl D.gn K6.out hs hsl hu hg).mono ?_
                  rintro e w5 ⟨rfl, hA5, hf5⟩
                  have hG5 : Gens (k + 1) (ss.set i ⟨s.gen, false, Rc.zero, .slice none 0 0, .slice none 0 0⟩) := HG.out.put (by have := HG.out i s hs; show s.gen ≤ _; omega)
                  have HG5 := hid_ hG5
                  have K5' := hid_ hA5
                  have F5' := hid_ (F6.out.then_only hf5 (.inr hG0))
                  clear hG5 hA5 hf5 hs hlu e0 e16 e17
                  go_wp2_with fail
                  go_roundw
                  case rel => exact ⟨k + 1, _, by omega, by go_num, by rw [List.length_set]; exact HN.out, HG5.out, K5'.out, F5'.out⟩
                  case measure => simp [intOf]; omega
                · refine (free_bad D.sl D.gn K6.out hat).mono ?_
                  rintro e w5 ⟨rfl, hf5⟩
                  have K5' := hid_ (K6.out.keep hf5)
                  have F5' := hid_ (F6.out.then_none hf5)
                  clear hf5 hlu e0 e16 e17
                  go_wp2_with fail
                  go_roundw
                  case rel => exact ⟨k + 1, _, by omega, by go_num, HN.out, HG.out.up, K5'.out, F5'.out⟩
                  case measure => simp [intOf]; omega
    · obtain rfl : k = n := by omega
      go_wp2_with fail
      refine (awake4 _).mono ?_
      rintro e w3 ⟨rfl, hf3⟩
      go_wp2
      go_ret
      exact ⟨rfl, F.out.then_none hf3⟩
theorem first4_walk_i {H : Type} {enc : TypeId × Value → H} (slots : Int) (wfs : (Lit.int .i64 slots).wf = true) (A : Option Addr) (n cap : Nat) (hc : n ≤ cap) (hm : cap ≤ maxLen) (w : World) (h : Do4At enc w A n) :
    Calls Try.prog 6 #[.int .i64 slots, .slice A n cap] w fun e w' => e = .returned (.bool true) ∧ Fr none_ w w' := by
  obtain ⟨L, hL⟩ := dns_of h
  exact first4_walk slots A n cap L w hL (by omega)
end Go.Proofs.Ytbmnphigfkiaeaa

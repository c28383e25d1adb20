/- MappingBack's walk. -/
import Derived.Test.YtnlpnbllnddaaaaDoorPl5
namespace Go.Proofs.YtnlpnbllnddaaaaDoor
open Go.RowKit
set_option maxRecDepth 100000
set_option linter.unusedVariables false
theorem _root_.List.set_getElem?_self_ {α : Type} {l : List α} {i : Nat} {x : α} (h : l[i]? = some x) : l.set i x = l := by
  apply List.ext_getElem?
  intro j
  by_cases hj : j = i
  · subst hj
    rw [List.getElem?_set_self (List.getElem?_eq_some_iff.1 h).1, h]
  · rw [List.getElem?_set_ne (fun e => hj e.symm)]
theorem used_hit {ps : List Pg} {u k : Nat} (h : (usedTo ps ps.length)[k]? = some u) : ∃ s g, ps[u]? = some (true, s, g) := by
  have hm := List.mem_of_getElem? h
  unfold usedTo at hm
  rw [List.mem_filter] at hm
  have hlt : u < ps.length := List.mem_range.1 hm.1
  have h2 := hm.2
  rw [List.getElem?_eq_getElem hlt] at h2
  refine ⟨ps[u].2.1, ps[u].2.2, ?_⟩
  rw [List.getElem?_eq_getElem hlt]
  have : ps[u].1 = true := by simpa using h2
  rw [← this]

set_option maxHeartbeats 4000000 in
theorem back_walk (p : Int) (hp : (Lit.int .i64 p).wf = true) (A : Option Addr) (n cap : Nat) (hc : n ≤ cap) (hm : cap ≤ maxLen) (xs xg : Int) (w : World) (hrd : Do5At w A n) (hL : Laid w) :
    Calls Tryd.prog 4 #[.int .i64 p, .slice A n cap, .agg #[.int .i64 xs, .int .i64 xg]] w fun e w' => e = .returned (.bool true) ∧ Fr none_ w w' := by
  unfold maxLen at hm
  by_cases hn : 100 < n
  · go_enter Tryd.func4, Tryd.ntmps4
    go_wp2_with (go_at_call 7; refine (awake5 _).mono ?_; rintro e w1 ⟨rfl, hf1⟩)
    go_ret
    exact ⟨rfl, ((Fr.refl none_ w).alloc _).then_none hf1⟩
  by_cases hp1 : p < 1
  · go_enter Tryd.func4, Tryd.ntmps4
    go_wp2_with (go_at_call 7; refine (awake5 _).mono ?_; rintro e w1 ⟨rfl, hf1⟩)
    go_ret
    exact ⟨rfl, ((Fr.refl none_ w).alloc _).then_none hf1⟩
  by_cases hp2 : 100 < p
  · go_enter Tryd.func4, Tryd.ntmps4
    go_wp2_with (go_at_call 7; refine (awake5 _).mono ?_; rintro e w1 ⟨rfl, hf1⟩)
    go_ret
    exact ⟨rfl, ((Fr.refl none_ w).alloc _).then_none hf1⟩
  obtain ⟨p, rfl⟩ : ∃ q : Nat, p = q := ⟨p.toNat, by omega⟩
  have hp5 : 1 ≤ p := by omega
  have hp6 : p ≤ 100 := by omega
  clear hp1 hp2
  have HL := hid_ hL
  have HR := hid_ hrd
  clear hL hrd
  go_enter Tryd.func4, Tryd.ntmps4
  have B0 := hid_ (Blk.new w 32 #[.int .i64 xs, .int .i64 xg])
  obtain ⟨w0, hw0⟩ : ∃ w0, w0 = w.alloc (.cells #[.int .i64 xs, .int .i64 xg] 32) := ⟨_, rfl⟩
  have F0 : Hid (Fr none_ w w0) := by rw [hw0]; exact hid_ ((Fr.refl none_ w).alloc _)
  go_wp2_with fail
  change Calls _ _ _ (w.alloc (.cells #[.int .i64 xs, .int .i64 xg] 32)) _
  rw [← hw0] at B0 ⊢
  clear hw0
  refine (mapNew_ok p w0 hp5 (by omega)).mono ?_
  rintro e w1 ⟨rfl, ht1, hf1, _⟩
  have T1 := hid_ ht1
  have F1 := hid_ hf1
  clear ht1 hf1
  go_wp2_with fail
  refine (rnew p _).mono ?_
  rintro e w2 ⟨rfl, hf2⟩
  obtain ⟨w3, hw3⟩ : ∃ w3, w3 = w2.alloc (rbox p (.slice none 0 0)) := ⟨_, rfl⟩
  have hf3 : Fr none_ w2 w3 := by rw [hw3]; exact (Fr.refl none_ w2).alloc _
  have h0le := F0.out.size
  have P3 : Hid (Pl w0 w3 (w0.heap.size + 1) w0.heap.size w2.heap.size p (List.replicate p (false, 0, 0)) (.slice none 0 0) []) := by
    have ha := (F1.out.then_none hf2).then_none hf3
    have h23 := (F1.out.then_none hf2).size
    exact hid_ ⟨by rw [hw3]; exact Blk.new w2 _ _, (T1.out.fr hf2 id id).fr hf3 id id, World.ownsRow_nil _ _ _ _, Sim.init p (by omega), (HL.out.fr F0.out id).fr ha id, ha, h23, Nat.le_refl _, (HL.out.fr F0.out id).lt, by simp⟩
  clear hf2 hf3
  go_wp2_with fail
  change Code.wp _ _ _ _ (w2.alloc (rbox p (.slice none 0 0)))
  rw [← hw3]
  clear hw3 T1 F1
  obtain ⟨R, hR⟩ : ∃ R, R = w2.heap.size := ⟨_, rfl⟩
  rw [← hR] at P3
  simp only [← hR]
  clear hR
  go_loopw [45] (fun i wr => ∃ (k : Nat) (ps : List Pg) (B : Option Addr) (c : Nat) (L : List Rp), k ≤ n ∧ i = .int .i64 k ∧ Pl w0 wr (w0.heap.size + 1) w0.heap.size R p ps (.slice B L.length c) L) (fun i _ => n - (intOf i).toNat)
  case atStart => exact ⟨0, _, none, 0, [], Nat.zero_le _, rfl, P3.out⟩
  case round =>
    obtain ⟨k, ps, B, cc, L, hk, rfl, hP⟩ := hrel
    have P := hid_ hP
    clear hP
    by_cases hlt : k < n
    · obtain ⟨bb, off, rfl, hb, x0, x1, x2, x3, x4, x5, x6, d0, d1, d2, d3, d4, d5, d6⟩ := HR.out.at (F0.out.then_none P.out.fr) hlt
      have r0 : wr.cell? ⟨R, 0, none⟩ = some (.int .i64 p) := P.out.b.cell' rfl
      have r1 : wr.cell? ⟨R, 1, none⟩ = some (.slice B L.length cc) := P.out.b.cell' rfl
      have hRl : R < wr.heap.size := P.out.b.lt
      go_wp2_with fail
      refine (does_pl (P.out.keep ((Fr.refl none_ wr).alloc _)) x0 x1 x2 x3 x4 x5 x6).mono ?_
      rintro e w4 ⟨B4, c4, L4, rfl, ht4, ho4, hs4, hl4, hb4, hf4, hla4, _⟩
      obtain ⟨ps4, hps4⟩ : ∃ ps4, ps4 = doesP ps x0 x1 x2 x3 x4 x5 x6 := ⟨_, rfl⟩
      rw [← hps4] at ht4 hs4 hl4
      have hR4 : R < w4.heap.size := hb4.lt
      have fz0 : w4.frozen? ⟨R, 0, none⟩ = false := hb4.frozen 0
      have fz1 : w4.frozen? ⟨R, 1, none⟩ = false := hb4.frozen 1
      have r40 : w4.cell? ⟨R, 0, none⟩ = some (.int .i64 p) := hb4.cell' rfl
      have r41 : w4.cell? ⟨R, 1, none⟩ = some (.slice B L.length cc) := hb4.cell' rfl
      have P5 := hid_ (Pl.put hb4 ht4 ho4 hs4 hla4 hf4 P.out.hR P.out.hG P.out.h0 hl4)
      clear ht4 ho4 hs4 hl4 hb4 hf4 hla4 hps4 d0 d1 d2 d3 d4 d5 d6
      go_wp2
      go_roundw
      case rel => exact ⟨k + 1, ps4, B4, c4, L4, by omega, by go_num, P5.out⟩
      case measure => simp [intOf]; omega
    · obtain rfl : k = n := by omega
      go_wp2_with fail
      go_wp2_with fail
      refine (take_any _ _ ps _ P.out.tb).mono ?_
      rintro e w4 ⟨rfl, ht4, hf4⟩
      obtain ⟨hb4, hn4, hl4⟩ := P.out.did ht4 hf4
      have ho4 := rown_G P.out.own P.out.tb hf4
      have Q4 := hid_ (And.intro ht4 (And.intro hb4 (And.intro hn4 (And.intro hl4 ho4))))
      clear ht4 hf4 hb4 hn4 hl4 ho4
      cases hfr : freeP ps with
      | none =>
        have e1 : takeP ps = (0, 3, ps) := by unfold takeP; rw [hfr]
        rw [e1] at Q4 ⊢
        have P4 : Hid (Pl w0 w4 (w0.heap.size + 1) w0.heap.size R p ps (.slice B L.length cc) L) := hid_ ⟨Q4.out.2.1, Q4.out.1, Q4.out.2.2.2.2, P.out.sim, Q4.out.2.2.2.1, Q4.out.2.2.1, P.out.hR, P.out.hG, P.out.h0, P.out.len⟩
        clear Q4 e1 hfr
        have r0 : w4.cell? ⟨R, 0, none⟩ = some (.int .i64 p) := P4.out.b.cell' rfl
        have r1 : w4.cell? ⟨R, 1, none⟩ = some (.slice B L.length cc) := P4.out.b.cell' rfl
        rw [errOf_pos (by decide : (3 : Int) ≠ 0)]
        go_wp2_with fail
        refine (same_pl P4.out).mono ?_
        rintro e w5 ⟨rfl, hf5⟩
        have P5 := hid_ (P4.out.keep hf5)
        clear hf5 r0 r1
        have r0 : w5.cell? ⟨R, 0, none⟩ = some (.int .i64 p) := P5.out.b.cell' rfl
        have r1 : w5.cell? ⟨R, 1, none⟩ = some (.slice B L.length cc) := P5.out.b.cell' rfl
        go_wp2_with fail
        obtain ⟨pz, hpz⟩ : ∃ pz, pz = ps := ⟨_, rfl⟩
        rw [← hpz] at P5
        clear hpz
        refine (rpages_pl P5.out).mono ?_
        rintro e v6 ⟨A6, c6, rfl, ho6, hf6⟩
        have PP6 := hid_ (P5.out.keep hf6)
        have O6 := hid_ ho6
        clear hf6 ho6 r0 r1
        obtain ⟨U, hU⟩ : ∃ U, U = usedTo pz pz.length := ⟨_, rfl⟩
        have HU := hid_ hU
        have hUl : U.length ≤ 1000 := by
          have h1 := List.length_filter_le (fun i => (pz[i]?.map (·.1)).getD false) (List.range pz.length)
          have h2 := PP6.out.sim.len
          rw [hU]
          unfold usedTo
          simp at h1
          omega
        rw [← hU] at O6
        simp only [← hU]
        clear hU
        go_wp2_with fail
        go_loopw [79] (fun i wr => ∃ (k : Nat), k ≤ U.length ∧ i = .int .i64 k ∧ Pl w0 wr (w0.heap.size + 1) w0.heap.size R p pz (.slice B L.length cc) L ∧ wr.ownsRow w5.heap.size 3 1 (.slice A6 U.length c6) U.length (ints U)) (fun i _ => U.length - (intOf i).toNat)
        case atStart => exact ⟨0, Nat.zero_le _, rfl, PP6.out, O6.out⟩
        case round =>
          obtain ⟨k2, hk2, rfl, hP, hO⟩ := hrel
          have P := hid_ hP
          have O := hid_ hO
          clear hP hO
          by_cases hlt : k2 < U.length
          · obtain ⟨g1, c6', e1, hg5, l1⟩ := O.out.form (by omega)
            obtain ⟨rfl, rfl⟩ : A6 = some ⟨g1, 0, none⟩ ∧ c6 = c6' := by injection e1 with a b c; exact ⟨a, c⟩
            obtain ⟨u, hu⟩ : ∃ u, U[k2]? = some u := ⟨_, List.getElem?_eq_getElem hlt⟩
            have hx : (ints U)[k2]? = some (.int .i64 u) := by unfold ints; rw [List.getElem?_map, hu]; rfl
            have d1 := O.out.cells (g := g1) rfl k2 _ hx
            rw [add_lit, Nat.zero_add] at d1
            obtain ⟨sv, gv, hpu⟩ := used_hit (by rw [← HU.out]; exact hu)
            clear e1
            go_wp2_with fail
            refine (head_ok _ _ pz u sv gv _ P.out.tb hpu).mono ?_
            rintro e v7 ⟨rfl, hf7⟩
            have P7 := hid_ (P.out.keep hf7)
            have O7 := hid_ (own_none O.out hf7)
            have B7 := hid_ (B0.out.fr P7.out.fr id)
            have b0 : v7.cell? ⟨w.heap.size, 0, none⟩ = some (.int .i64 xs) := B7.out.cell' rfl
            have b1 : v7.cell? ⟨w.heap.size, 1, none⟩ = some (.int .i64 xg) := B7.out.cell' rfl
            have lb : w.heap.size < v7.heap.size := B7.out.lt
            have lg : w0.heap.size < v7.heap.size := by have := P7.out.tb.lt; omega
            clear hf7 d1
            go_wp2_with fail
            refine (swap_ok _ _ pz u sv gv sv gv xs xg _ (P7.out.keep ((Fr.refl none_ v7).alloc _)).tb hpu).mono ?_
            rintro e v8 ⟨rfl, ht8, hf8⟩
            rw [if_pos ⟨rfl, rfl⟩] at ht8
            have htrue : (sv == sv && gv == gv) = true := by simp
            rw [htrue]
            have X8 := hid_ ((Blk.new v7 32 #[.int .i64 sv, .int .i64 gv]).fr hf8 (only_ne (by omega)))
            have D8 := (P7.out.keep ((Fr.refl none_ v7).alloc (.cells #[.int .i64 sv, .int .i64 gv] 32))).did ht8 hf8
            have W8 := rown_G (P7.out.keep ((Fr.refl none_ v7).alloc (.cells #[.int .i64 sv, .int .i64 gv] 32))).own (P7.out.keep ((Fr.refl none_ v7).alloc (.cells #[.int .i64 sv, .int .i64 gv] 32))).tb hf8
            have O8 : Hid (v8.ownsRow w5.heap.size 3 1 (.slice (some ⟨g1, 0, none⟩) U.length c6) U.length (ints U)) := hid_ (by
              obtain ⟨cs, hg⟩ := (P7.out.keep ((Fr.refl none_ v7).alloc (.cells #[.int .i64 sv, .int .i64 gv] 32))).tb.blkG
              have ho := own_none O7.out ((Fr.refl none_ v7).alloc (.cells #[.int .i64 sv, .int .i64 gv] 32))
              exact own_fr ho hf8 (fun k hk e => own_blk_ne ho hg (by decide) (by rw [hk, show k = w0.heap.size from e])))
            have B8 := hid_ (B0.out.fr D8.2.1 id)
            have T8 := hid_ ht8
            have D8' := hid_ (And.intro D8 W8)
            have b80 : v8.cell? ⟨w.heap.size, 0, none⟩ = some (.int .i64 xs) := B8.out.cell' rfl
            have b81 : v8.cell? ⟨w.heap.size, 1, none⟩ = some (.int .i64 xg) := B8.out.cell' rfl
            have x80 : v8.cell? ⟨v7.heap.size, 0, none⟩ = some (.int .i64 sv) := X8.out.cell' rfl
            have x81 : v8.cell? ⟨v7.heap.size, 1, none⟩ = some (.int .i64 gv) := X8.out.cell' rfl
            clear hf8 ht8 D8 W8 b0 b1 htrue
            have hul := (List.getElem?_eq_some_iff.1 hpu).1
            go_wp2_with fail
            refine (swap_ok _ _ _ u xs xg xs xg sv gv _ T8.out (List.getElem?_set_self hul)).mono ?_
            rintro e v9 ⟨rfl, ht9, hf9⟩
            rw [if_pos ⟨rfl, rfl⟩, List.set_set, List.set_getElem?_self_ hpu] at ht9
            have htrue : (xs == xs && xg == xg) = true := by simp
            rw [htrue]
            have P9 : Hid (Pl w0 v9 (w0.heap.size + 1) w0.heap.size R p pz (.slice B L.length cc) L) := hid_ (by
              obtain ⟨⟨q2, q3, q4⟩, q5⟩ := D8'.out
              have hGR : R ≠ w0.heap.size := by obtain ⟨cs, hg⟩ := T8.out.blkG; exact fun e => absurd (Blk.uniq q2 (e ▸ hg)).1 (by decide)
              exact ⟨q2.fr hf9 (only_ne hGR), ht9, rown_G q5 T8.out hf9, P.out.sim, q4.fr hf9 (only_ne P.out.gne), q3.then_only hf9 (.inr (Nat.le_refl _)), P.out.hR, P.out.hG, P.out.h0, P.out.len⟩)
            have O9 : Hid (v9.ownsRow w5.heap.size 3 1 (.slice (some ⟨g1, 0, none⟩) U.length c6) U.length (ints U)) := hid_ (by
              obtain ⟨cs, hg⟩ := T8.out.blkG
              exact own_fr O8.out hf9 (fun k hk e => own_blk_ne O8.out hg (by decide) (by rw [hk, show k = w0.heap.size from e])))
            clear hf9 ht9 b80 b81 x80 x81 htrue hul hpu hx hu
            go_wp2
            go_roundw
            case rel => exact ⟨k2 + 1, by omega, by go_num, P9.out, O9.out⟩
            case measure => simp [intOf]; omega
          · obtain rfl : k2 = U.length := by omega
            have r0 : wr.cell? ⟨R, 0, none⟩ = some (.int .i64 p) := P.out.b.cell' rfl
            have r1 : wr.cell? ⟨R, 1, none⟩ = some (.slice B L.length cc) := P.out.b.cell' rfl
            go_wp2_with fail
            refine (same_pl P.out).mono ?_
            rintro e v7 ⟨rfl, hf7⟩
            have F7 := hid_ (P.out.fr.then_none hf7)
            clear hf7
            go_wp2_with fail
            refine (awake5 _).mono ?_
            rintro e v8 ⟨rfl, hf8⟩
            have F8 := hid_ (F0.out.then_none (F7.out.then_none hf8))
            clear hf8
            go_wp2
            go_ret
            exact ⟨rfl, F8.out⟩
      | some i =>
        have e1 : takeP ps = ((i : Int), 0, ps.set i (true, 0, 0)) := by unfold takeP; rw [hfr]
        rw [e1] at Q4 ⊢
        obtain ⟨⟨s0, g0, hi⟩, _⟩ := freeP_some hfr
        have hil := (List.getElem?_eq_some_iff.1 hi).1
        have S1 := hid_ (P.out.sim.take_ hi)
        have S2 : Hid (Sim ((ps.set i (true, 0, 0)).set i (false, 0, 0)) L) := hid_ (by
          have h := S1.out.give_ (i := i) (j := L.length) (s := 0) (g := 0) (List.getElem?_set_self hil) (by simp)
          rwa [List.eraseIdx_append_of_length_le (Nat.le_refl _), Nat.sub_self, List.eraseIdx_cons_zero, List.append_nil] at h)
        rw [show errOf 0 = Value.nilIface from rfl]
        clear e1 hfr
        go_wp2_with fail
        refine (give_ok _ _ _ i 0 0 w4 Q4.out.1 (List.getElem?_set_self hil)).mono ?_
        rintro e w6 ⟨rfl, hw6⟩
        have hf6 : Fr (only w0.heap.size) w4 w6 := by rw [hw6]; exact setPg_only _ _ _ _
        have ht6 : Tbl w6 (w0.heap.size + 1) w0.heap.size ((ps.set i (true, 0, 0)).set i (false, 0, 0)) := by rw [hw6]; exact Q4.out.1.set_ (by simpa using hil) _
        clear hw6
        have P6 : Hid (Pl w0 w6 (w0.heap.size + 1) w0.heap.size R p ((ps.set i (true, 0, 0)).set i (false, 0, 0)) (.slice B L.length cc) L) := hid_ (by
          obtain ⟨q1, q2, q3, q4, q5⟩ := Q4.out
          have hGR : R ≠ w0.heap.size := by obtain ⟨cs, hg⟩ := q1.blkG; exact fun e => absurd (Blk.uniq q2 (e ▸ hg)).1 (by decide)
          exact ⟨q2.fr hf6 (only_ne hGR), ht6, rown_G q5 q1 hf6, S2.out, q4.fr hf6 (only_ne P.out.gne), q3.then_only hf6 (.inr (Nat.le_refl _)), P.out.hR, P.out.hG, P.out.h0, by simpa using P.out.len⟩)
        clear Q4 hf6 ht6
        have r0 : w6.cell? ⟨R, 0, none⟩ = some (.int .i64 p) := P6.out.b.cell' rfl
        have r1 : w6.cell? ⟨R, 1, none⟩ = some (.slice B L.length cc) := P6.out.b.cell' rfl
        go_wp2_with fail
        refine (same_pl P6.out).mono ?_
        rintro e w5 ⟨rfl, hf5⟩
        have P5 := hid_ (P6.out.keep hf5)
        clear hf5 r0 r1
        have r0 : w5.cell? ⟨R, 0, none⟩ = some (.int .i64 p) := P5.out.b.cell' rfl
        have r1 : w5.cell? ⟨R, 1, none⟩ = some (.slice B L.length cc) := P5.out.b.cell' rfl
        go_wp2_with fail
        obtain ⟨pz, hpz⟩ : ∃ pz, pz = ((ps.set i (true, 0, 0)).set i (false, 0, 0)) := ⟨_, rfl⟩
        rw [← hpz] at P5
        clear hpz
        refine (rpages_pl P5.out).mono ?_
        rintro e v6 ⟨A6, c6, rfl, ho6, hf6⟩
        have PP6 := hid_ (P5.out.keep hf6)
        have O6 := hid_ ho6
        clear hf6 ho6 r0 r1
        obtain ⟨U, hU⟩ : ∃ U, U = usedTo pz pz.length := ⟨_, rfl⟩
        have HU := hid_ hU
        have hUl : U.length ≤ 1000 := by
          have h1 := List.length_filter_le (fun i => (pz[i]?.map (·.1)).getD false) (List.range pz.length)
          have h2 := PP6.out.sim.len
          rw [hU]
          unfold usedTo
          simp at h1
          omega
        rw [← hU] at O6
        simp only [← hU]
        clear hU
        go_wp2_with fail
        go_loopw [79] (fun i wr => ∃ (k : Nat), k ≤ U.length ∧ i = .int .i64 k ∧ Pl w0 wr (w0.heap.size + 1) w0.heap.size R p pz (.slice B L.length cc) L ∧ wr.ownsRow w5.heap.size 3 1 (.slice A6 U.length c6) U.length (ints U)) (fun i _ => U.length - (intOf i).toNat)
        case atStart => exact ⟨0, Nat.zero_le _, rfl, PP6.out, O6.out⟩
        case round =>
          obtain ⟨k2, hk2, rfl, hP, hO⟩ := hrel
          have P := hid_ hP
          have O := hid_ hO
          clear hP hO
          by_cases hlt : k2 < U.length
          · obtain ⟨g1, c6', e1, hg5, l1⟩ := O.out.form (by omega)
            obtain ⟨rfl, rfl⟩ : A6 = some ⟨g1, 0, none⟩ ∧ c6 = c6' := by injection e1 with a b c; exact ⟨a, c⟩
            obtain ⟨u, hu⟩ : ∃ u, U[k2]? = some u := ⟨_, List.getElem?_eq_getElem hlt⟩
            have hx : (ints U)[k2]? = some (.int .i64 u) := by unfold ints; rw [List.getElem?_map, hu]; rfl
            have d1 := O.out.cells (g := g1) rfl k2 _ hx
            rw [add_lit, Nat.zero_add] at d1
            obtain ⟨sv, gv, hpu⟩ := used_hit (by rw [← HU.out]; exact hu)
            clear e1
            go_wp2_with fail
            refine (head_ok _ _ pz u sv gv _ P.out.tb hpu).mono ?_
            rintro e v7 ⟨rfl, hf7⟩
            have P7 := hid_ (P.out.keep hf7)
            have O7 := hid_ (own_none O.out hf7)
            have B7 := hid_ (B0.out.fr P7.out.fr id)
            have b0 : v7.cell? ⟨w.heap.size, 0, none⟩ = some (.int .i64 xs) := B7.out.cell' rfl
            have b1 : v7.cell? ⟨w.heap.size, 1, none⟩ = some (.int .i64 xg) := B7.out.cell' rfl
            have lb : w.heap.size < v7.heap.size := B7.out.lt
            have lg : w0.heap.size < v7.heap.size := by have := P7.out.tb.lt; omega
            clear hf7 d1
            go_wp2_with fail
            refine (swap_ok _ _ pz u sv gv sv gv xs xg _ (P7.out.keep ((Fr.refl none_ v7).alloc _)).tb hpu).mono ?_
            rintro e v8 ⟨rfl, ht8, hf8⟩
            rw [if_pos ⟨rfl, rfl⟩] at ht8
            have htrue : (sv == sv && gv == gv) = true := by simp
            rw [htrue]
            have X8 := hid_ ((Blk.new v7 32 #[.int .i64 sv, .int .i64 gv]).fr hf8 (only_ne (by omega)))
            have D8 := (P7.out.keep ((Fr.refl none_ v7).alloc (.cells #[.int .i64 sv, .int .i64 gv] 32))).did ht8 hf8
            have W8 := rown_G (P7.out.keep ((Fr.refl none_ v7).alloc (.cells #[.int .i64 sv, .int .i64 gv] 32))).own (P7.out.keep ((Fr.refl none_ v7).alloc (.cells #[.int .i64 sv, .int .i64 gv] 32))).tb hf8
            have O8 : Hid (v8.ownsRow w5.heap.size 3 1 (.slice (some ⟨g1, 0, none⟩) U.length c6) U.length (ints U)) := hid_ (by
              obtain ⟨cs, hg⟩ := (P7.out.keep ((Fr.refl none_ v7).alloc (.cells #[.int .i64 sv, .int .i64 gv] 32))).tb.blkG
              have ho := own_none O7.out ((Fr.refl none_ v7).alloc (.cells #[.int .i64 sv, .int .i64 gv] 32))
              exact own_fr ho hf8 (fun k hk e => own_blk_ne ho hg (by decide) (by rw [hk, show k = w0.heap.size from e])))
            have B8 := hid_ (B0.out.fr D8.2.1 id)
            have T8 := hid_ ht8
            have D8' := hid_ (And.intro D8 W8)
            have b80 : v8.cell? ⟨w.heap.size, 0, none⟩ = some (.int .i64 xs) := B8.out.cell' rfl
            have b81 : v8.cell? ⟨w.heap.size, 1, none⟩ = some (.int .i64 xg) := B8.out.cell' rfl
            have x80 : v8.cell? ⟨v7.heap.size, 0, none⟩ = some (.int .i64 sv) := X8.out.cell' rfl
            have x81 : v8.cell? ⟨v7.heap.size, 1, none⟩ = some (.int .i64 gv) := X8.out.cell' rfl
            clear hf8 ht8 D8 W8 b0 b1 htrue
            have hul := (List.getElem?_eq_some_iff.1 hpu).1
            go_wp2_with fail
            refine (swap_ok _ _ _ u xs xg xs xg sv gv _ T8.out (List.getElem?_set_self hul)).mono ?_
            rintro e v9 ⟨rfl, ht9, hf9⟩
            rw [if_pos ⟨rfl, rfl⟩, List.set_set, List.set_getElem?_self_ hpu] at ht9
            have htrue : (xs == xs && xg == xg) = true := by simp
            rw [htrue]
            have P9 : Hid (Pl w0 v9 (w0.heap.size + 1) w0.heap.size R p pz (.slice B L.length cc) L) := hid_ (by
              obtain ⟨⟨q2, q3, q4⟩, q5⟩ := D8'.out
              have hGR : R ≠ w0.heap.size := by obtain ⟨cs, hg⟩ := T8.out.blkG; exact fun e => absurd (Blk.uniq q2 (e ▸ hg)).1 (by decide)
              exact ⟨q2.fr hf9 (only_ne hGR), ht9, rown_G q5 T8.out hf9, P.out.sim, q4.fr hf9 (only_ne P.out.gne), q3.then_only hf9 (.inr (Nat.le_refl _)), P.out.hR, P.out.hG, P.out.h0, P.out.len⟩)
            have O9 : Hid (v9.ownsRow w5.heap.size 3 1 (.slice (some ⟨g1, 0, none⟩) U.length c6) U.length (ints U)) := hid_ (by
              obtain ⟨cs, hg⟩ := T8.out.blkG
              exact own_fr O8.out hf9 (fun k hk e => own_blk_ne O8.out hg (by decide) (by rw [hk, show k = w0.heap.size from e])))
            clear hf9 ht9 b80 b81 x80 x81 htrue hul hpu hx hu
            go_wp2
            go_roundw
            case rel => exact ⟨k2 + 1, by omega, by go_num, P9.out, O9.out⟩
            case measure => simp [intOf]; omega
          · obtain rfl : k2 = U.length := by omega
            have r0 : wr.cell? ⟨R, 0, none⟩ = some (.int .i64 p) := P.out.b.cell' rfl
            have r1 : wr.cell? ⟨R, 1, none⟩ = some (.slice B L.length cc) := P.out.b.cell' rfl
            go_wp2_with fail
            refine (same_pl P.out).mono ?_
            rintro e v7 ⟨rfl, hf7⟩
            have F7 := hid_ (P.out.fr.then_none hf7)
            clear hf7
            go_wp2_with fail
            refine (awake5 _).mono ?_
            rintro e v8 ⟨rfl, hf8⟩
            have F8 := hid_ (F0.out.then_none (F7.out.then_none hf8))
            clear hf8
            go_wp2
            go_ret
            exact ⟨rfl, F8.out⟩
end Go.Proofs.YtnlpnbllnddaaaaDoor

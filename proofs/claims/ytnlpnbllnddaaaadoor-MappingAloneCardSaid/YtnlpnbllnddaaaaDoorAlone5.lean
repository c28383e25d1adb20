/- MappingAlone's walk. -/
import Derived.Test.YtnlpnbllnddaaaaDoorPl5
namespace Go.Proofs.YtnlpnbllnddaaaaDoor
open Go.RowKit
set_option linter.unusedVariables false

theorem whyP_set (ps : List Pg) (i : Nat) (q : Pg) (o : Int) (h : o ≠ i) : whyP (ps.set i q) o = whyP ps o := by
  unfold whyP
  rw [List.length_set]
  split
  · rfl
  · rw [List.getElem?_set_ne (by omega)]
theorem headP_set (ps : List Pg) (i : Nat) (q : Pg) (o : Int) (h : o ≠ i) : headP (ps.set i q) o = headP ps o := by
  unfold headP
  rw [whyP_set ps i q o h]
  by_cases hk : whyP ps o = 0
  · obtain ⟨j, s, g, rfl, hj⟩ := whyP_zero hk
    rw [if_pos hk, if_pos hk, List.getElem?_set_ne (by omega)]
  · rw [if_neg hk, if_neg hk]
theorem doesP_other (ps : List Pg) (verb n : Int) (r : Bool) (a b c d o : Int) (hv : verb ≠ 0) (hn : n ≠ o) : whyP (doesP ps verb n r a b c d) o = whyP ps o ∧ headP (doesP ps verb n r a b c d) o = headP ps o := by
  unfold doesP
  rw [if_neg hv]
  split
  · unfold giveP
    split
    · rename_i hk
      obtain ⟨j, s, g, rfl, hj⟩ := whyP_zero hk
      rw [Int.toNat_natCast]
      exact ⟨whyP_set _ _ _ _ (fun e => hn e.symm), headP_set _ _ _ _ (fun e => hn e.symm)⟩
    · exact ⟨rfl, rfl⟩
  · split
    · unfold swapP
      split
      · rename_i hb
        have hk : whyP ps n = 0 := by unfold swapB at hb; simp at hb; exact hb.1.1
        obtain ⟨j, s, g, rfl, hj⟩ := whyP_zero hk
        rw [Int.toNat_natCast]
        exact ⟨whyP_set _ _ _ _ (fun e => hn e.symm), headP_set _ _ _ _ (fun e => hn e.symm)⟩
      · exact ⟨rfl, rfl⟩
    · exact ⟨rfl, rfl⟩

set_option maxHeartbeats 4000000 in
theorem alone_walk (p : Int) (hp : (Lit.int .i64 p).wf = true) (A : Option Addr) (n cap : Nat) (hc : n ≤ cap) (hm : cap ≤ maxLen) (v m : Int) (r : Bool) (a b c d other : Int) (w : World) (hrd : Do5At w A n) (hL : Laid w) :
    Calls Tryd.prog 5 #[.int .i64 p, .slice A n cap, .agg #[.int .i64 v, .int .i64 m, .bool r, .int .i64 a, .int .i64 b, .int .i64 c, .int .i64 d], .int .i64 other] w fun e w' => e = .returned (.bool true) ∧ Fr none_ w w' := by
  unfold maxLen at hm
  by_cases hn : 100 < n
  · go_enter Tryd.func5, Tryd.ntmps5
    go_wp2_with (go_at_call 7; refine (awake5 _).mono ?_; rintro e w1 ⟨rfl, hf1⟩)
    go_ret
    exact ⟨rfl, ((Fr.refl none_ w).alloc _).then_none hf1⟩
  by_cases hp1 : p < 1
  · go_enter Tryd.func5, Tryd.ntmps5
    go_wp2_with (go_at_call 7; refine (awake5 _).mono ?_; rintro e w1 ⟨rfl, hf1⟩)
    go_ret
    exact ⟨rfl, ((Fr.refl none_ w).alloc _).then_none hf1⟩
  by_cases hp2 : 100 < p
  · go_enter Tryd.func5, Tryd.ntmps5
    go_wp2_with (go_at_call 7; refine (awake5 _).mono ?_; rintro e w1 ⟨rfl, hf1⟩)
    go_ret
    exact ⟨rfl, ((Fr.refl none_ w).alloc _).then_none hf1⟩
  by_cases hv : v = 0
  · subst hv
    go_enter Tryd.func5, Tryd.ntmps5
    go_wp2_with (go_at_call 7; refine (awake5 _).mono ?_; rintro e w1 ⟨rfl, hf1⟩)
    go_ret
    exact ⟨rfl, ((Fr.refl none_ w).alloc _).then_none hf1⟩
  by_cases ho : m = other
  · subst ho
    go_enter Tryd.func5, Tryd.ntmps5
    go_wp2_with (go_at_call 7; refine (awake5 _).mono ?_; rintro e w1 ⟨rfl, hf1⟩)
    go_ret
    exact ⟨rfl, ((Fr.refl none_ w).alloc _).then_none hf1⟩
  obtain ⟨p, rfl⟩ : ∃ q : Nat, p = q := ⟨p.toNat, by omega⟩
  have hp5 : 1 ≤ p := by omega
  have hp6 : p ≤ 100 := by omega
  clear hp1 hp2
  have HO := hid_ (fun ps r a b c d => doesP_other ps v m r a b c d other hv ho)
  have hv1 : (v == 0) = false := by simpa using hv
  have ho1 : (m == other) = false := by simpa using ho
  have HL := hid_ hL
  have HR := hid_ hrd
  clear hL hrd
  go_enter Tryd.func5, Tryd.ntmps5
  have B0 := hid_ (Blk.new w 34 #[.int .i64 v, .int .i64 m, .bool r, .int .i64 a, .int .i64 b, .int .i64 c, .int .i64 d])
  obtain ⟨w0, hw0⟩ : ∃ w0, w0 = w.alloc (.cells #[.int .i64 v, .int .i64 m, .bool r, .int .i64 a, .int .i64 b, .int .i64 c, .int .i64 d] 34) := ⟨_, rfl⟩
  have F0 : Hid (Fr none_ w w0) := by rw [hw0]; exact hid_ ((Fr.refl none_ w).alloc _)
  go_wp2_with fail
  change Calls _ _ _ (w.alloc (.cells #[.int .i64 v, .int .i64 m, .bool r, .int .i64 a, .int .i64 b, .int .i64 c, .int .i64 d] 34)) _
  rw [← hw0] at B0 ⊢
  clear hw0
  refine (mapNew_ok p w0 hp5 (by omega)).mono ?_
  rintro e w1 ⟨rfl, ht1, hf1, _⟩
  have T1 := hid_ ht1
  have F1 := hid_ hf1
  clear ht1 hf1
  go_wp2_with fail
  refine (rnew p _).mono ?_
  rintro e w2 ⟨rfl, hf2⟩
  obtain ⟨w3, hw3⟩ : ∃ w3, w3 = w2.alloc (rbox p (.slice none 0 0)) := ⟨_, rfl⟩
  have hf3 : Fr none_ w2 w3 := by rw [hw3]; exact (Fr.refl none_ w2).alloc _
  have h0le := F0.out.size
  have P3 : Hid (Pl w0 w3 (w0.heap.size + 1) w0.heap.size w2.heap.size p (List.replicate p (false, 0, 0)) (.slice none 0 0) []) := by
    have ha := (F1.out.then_none hf2).then_none hf3
    have h23 := (F1.out.then_none hf2).size
    exact hid_ ⟨by rw [hw3]; exact Blk.new w2 _ _, (T1.out.fr hf2 id id).fr hf3 id id, World.ownsRow_nil _ _ _ _, Sim.init p (by omega), (HL.out.fr F0.out id).fr ha id, ha, h23, Nat.le_refl _, (HL.out.fr F0.out id).lt, by simp⟩
  clear hf2 hf3
  go_wp2_with fail
  change Code.wp _ _ _ _ (w2.alloc (rbox p (.slice none 0 0)))
  rw [← hw3]
  clear hw3 T1 F1
  obtain ⟨R, hR⟩ : ∃ R, R = w2.heap.size := ⟨_, rfl⟩
  rw [← hR] at P3
  simp only [← hR]
  clear hR
  go_loopw [52] (fun i wr => ∃ (k : Nat) (ps : List Pg) (B : Option Addr) (c : Nat) (L : List Rp), k ≤ n ∧ i = .int .i64 k ∧ Pl w0 wr (w0.heap.size + 1) w0.heap.size R p ps (.slice B L.length c) L) (fun i _ => n - (intOf i).toNat)
  case atStart => exact ⟨0, _, none, 0, [], Nat.zero_le _, rfl, P3.out⟩
  case round =>
    obtain ⟨k, ps, B, cc, L, hk, rfl, hP⟩ := hrel
    have P := hid_ hP
    clear hP
    by_cases hlt : k < n
    · obtain ⟨bb, off, rfl, hb, x0, x1, x2, x3, x4, x5, x6, d0, d1, d2, d3, d4, d5, d6⟩ := HR.out.at (F0.out.then_none P.out.fr) hlt
      have r0 : wr.cell? ⟨R, 0, none⟩ = some (.int .i64 p) := P.out.b.cell' rfl
      have r1 : wr.cell? ⟨R, 1, none⟩ = some (.slice B L.length cc) := P.out.b.cell' rfl
      have hRl : R < wr.heap.size := P.out.b.lt
      go_wp2_with fail
      refine (does_pl (P.out.keep ((Fr.refl none_ wr).alloc _)) x0 x1 x2 x3 x4 x5 x6).mono ?_
      rintro e w4 ⟨B4, c4, L4, rfl, ht4, ho4, hs4, hl4, hb4, hf4, hla4, _⟩
      obtain ⟨ps4, hps4⟩ : ∃ ps4, ps4 = doesP ps x0 x1 x2 x3 x4 x5 x6 := ⟨_, rfl⟩
      rw [← hps4] at ht4 hs4 hl4
      have hR4 : R < w4.heap.size := hb4.lt
      have fz0 : w4.frozen? ⟨R, 0, none⟩ = false := hb4.frozen 0
      have fz1 : w4.frozen? ⟨R, 1, none⟩ = false := hb4.frozen 1
      have r40 : w4.cell? ⟨R, 0, none⟩ = some (.int .i64 p) := hb4.cell' rfl
      have r41 : w4.cell? ⟨R, 1, none⟩ = some (.slice B L.length cc) := hb4.cell' rfl
      have P5 := hid_ (Pl.put hb4 ht4 ho4 hs4 hla4 hf4 P.out.hR P.out.hG P.out.h0 hl4)
      clear ht4 ho4 hs4 hl4 hb4 hf4 hla4 hps4 d0 d1 d2 d3 d4 d5 d6
      go_wp2
      go_roundw
      case rel => exact ⟨k + 1, ps4, B4, c4, L4, by omega, by go_num, P5.out⟩
      case measure => simp [intOf]; omega
    · obtain rfl : k = n := by omega
      go_wp2_with fail
      refine (head_any _ _ ps _ P.out.tb other).mono ?_
      rintro e w4 ⟨rfl, hf4⟩
      have P4 := hid_ (P.out.keep hf4)
      have B4 := hid_ (B0.out.fr P4.out.fr id)
      have l1 : R < w4.heap.size := P4.out.b.lt
      have l2 : w.heap.size < w4.heap.size := B4.out.lt
      have r0 : w4.cell? ⟨R, 0, none⟩ = some (.int .i64 p) := P4.out.b.cell' rfl
      have r1 : w4.cell? ⟨R, 1, none⟩ = some (.slice B L.length cc) := P4.out.b.cell' rfl
      have d0 : w4.cell? ⟨w.heap.size, 0, none⟩ = some (.int .i64 v) := B4.out.cell' rfl
      have d1 : w4.cell? ⟨w.heap.size, 1, none⟩ = some (.int .i64 m) := B4.out.cell' rfl
      have d2 : w4.cell? ⟨w.heap.size, 2, none⟩ = some (.bool r) := B4.out.cell' rfl
      have d3 : w4.cell? ⟨w.heap.size, 3, none⟩ = some (.int .i64 a) := B4.out.cell' rfl
      have d4 : w4.cell? ⟨w.heap.size, 4, none⟩ = some (.int .i64 b) := B4.out.cell' rfl
      have d5 : w4.cell? ⟨w.heap.size, 5, none⟩ = some (.int .i64 c) := B4.out.cell' rfl
      have d6 : w4.cell? ⟨w.heap.size, 6, none⟩ = some (.int .i64 d) := B4.out.cell' rfl
      clear hf4
      go_wp2_with fail
      have Pa := hid_ (P4.out.keep ((Fr.refl none_ w4).alloc (.cells #[.int .i64 (headP ps other).1, .int .i64 (headP ps other).2] 32)))
      have hw04 : w0.heap.size < w4.heap.size := by have := P4.out.hR; omega
      refine (does_pl Pa.out v m r a b c d).mono ?_
      rintro e w5 ⟨B5, c5, L5, rfl, ht5, _, _, _, _, hf5, hla5, hg5⟩
      have X5 := hid_ ((Blk.new w4 32 #[.int .i64 (headP ps other).1, .int .i64 (headP ps other).2]).fr hg5 (only_ne (by omega)))
      have T5 := hid_ ht5
      have F5 := hid_ hf5
      have L5 := hid_ hla5
      clear ht5 hf5 hla5 hg5 r0 r1 d0 d1 d2 d3 d4 d5 d6 l1 l2
      go_wp2_with fail
      refine (head_any _ _ _ _ T5.out other).mono ?_
      rintro e w6 ⟨rfl, hf6⟩
      rw [(HO.out ps r a b c d).1, (HO.out ps r a b c d).2]
      have X6 := hid_ (X5.out.fr hf6 id)
      have L6 := hid_ (L5.out.fr hf6 id)
      have F6 := hid_ (F5.out.then_none hf6)
      have l6 := X6.out.lt
      have e0 : w6.cell? ⟨w4.heap.size, 0, none⟩ = some (.int .i64 (headP ps other).1) := X6.out.cell' rfl
      have e1 : w6.cell? ⟨w4.heap.size, 1, none⟩ = some (.int .i64 (headP ps other).2) := X6.out.cell' rfl
      clear hf6
      go_wp2_with fail
      have F7 := hid_ (F6.out.alloc (.cells #[.int .i64 (headP ps other).1, .int .i64 (headP ps other).2] 32))
      have L7 := hid_ (L6.out.alloc (.cells #[.int .i64 (headP ps other).1, .int .i64 (headP ps other).2] 32))
      clear e0 e1
      refine (code_any (whyP ps other) _ L7.out).mono ?_
      rintro e w8 ⟨rfl, hf8⟩
      have F8 := hid_ (F7.out.then_none hf8)
      have L8 := hid_ (L7.out.fr hf8 id)
      clear hf8
      go_wp2_with fail
      refine (code_any (whyP ps other) _ L8.out).mono ?_
      rintro e w9 ⟨rfl, hf9⟩
      have F9 := hid_ (F8.out.then_none hf9)
      clear hf9
      go_wp2_with fail
      refine (awake5 _).mono ?_
      rintro e w10 ⟨rfl, hf10⟩
      have F10 := hid_ (F0.out.then_none (F9.out.then_none hf10))
      clear hf10
      go_wp2
      go_ret
      exact ⟨rfl, F10.out⟩
end Go.Proofs.YtnlpnbllnddaaaaDoor

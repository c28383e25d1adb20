/- MappingPlays' walk. -/
import Derived.Test.YtnlpnbllnddaaaaDoorPl5
namespace Go.Proofs.YtnlpnbllnddaaaaDoor
open Go.RowKit
set_option linter.unusedVariables false

set_option maxHeartbeats 4000000 in
theorem plays_walk (p : Int) (hp : (Lit.int .i64 p).wf = true) (A : Option Addr) (n cap : Nat) (hc : n ≤ cap) (hm : cap ≤ maxLen) (w : World) (hrd : Do5At w A n) (hL : Laid w) :
    Calls Tryd.prog 3 #[.int .i64 p, .slice A n cap] w fun e w' => e = .returned (.bool true) ∧ Fr none_ w w' := by
  unfold maxLen at hm
  by_cases hn : 100 < n
  · go_enter Tryd.func3, Tryd.ntmps3
    go_wp2_with (go_at_call 7; refine (awake5 _).mono ?_; rintro e w1 ⟨rfl, hf1⟩)
    go_ret
    exact ⟨rfl, hf1⟩
  by_cases hp1 : 100 < p ∧ p ≤ 256
  · obtain ⟨hp1, hp2⟩ := hp1
    go_enter Tryd.func3, Tryd.ntmps3
    go_wp2_with (go_at_call 7; refine (awake5 _).mono ?_; rintro e w1 ⟨rfl, hf1⟩)
    go_ret
    exact ⟨rfl, hf1⟩
  by_cases hp3 : p < 1 ∨ 256 < p
  · have hp4 : (decide (1 ≤ p) && decide (p ≤ 256)) = false := by simp; omega
    have H3 := hid_ hp3
    have H4 := hid_ hp4
    have fin : ∀ (w2 : World), Fr none_ w w2 → Fr none_ w (w2.alloc (.cells #[.int .i64 p, .slice none 0 0] 28)) := fun w2 h => h.alloc _
    clear hp4
    rcases hp3 with hp3 | hp3
    · clear hp1
      go_enter Tryd.func3, Tryd.ntmps3
      go_wp2_with fail
      refine (mapNew_no p w H3.out).mono ?_
      rintro e w1 ⟨rfl, rfl⟩
      go_wp2_with fail
      refine (rnew p _).mono ?_
      rintro e w2 ⟨rfl, hf2⟩
      rw [H4.out]
      have F2 := hid_ (fin w2 hf2)
      clear hf2 fin
      go_wp2_with (go_at_call 7; refine (awake5 _).mono ?_; rintro e w3 ⟨rfl, hf3⟩)
      go_ret
      exact ⟨rfl, F2.out.then_none hf3⟩
    · clear hp1
      go_enter Tryd.func3, Tryd.ntmps3
      go_wp2_with fail
      refine (mapNew_no p w H3.out).mono ?_
      rintro e w1 ⟨rfl, rfl⟩
      go_wp2_with fail
      refine (rnew p _).mono ?_
      rintro e w2 ⟨rfl, hf2⟩
      rw [H4.out]
      have F2 := hid_ (fin w2 hf2)
      clear hf2 fin
      go_wp2_with (go_at_call 7; refine (awake5 _).mono ?_; rintro e w3 ⟨rfl, hf3⟩)
      go_ret
      exact ⟨rfl, F2.out.then_none hf3⟩
  obtain ⟨p, rfl⟩ : ∃ q : Nat, p = q := ⟨p.toNat, by omega⟩
  have hp5 : 1 ≤ p := by omega
  have hp6 : p ≤ 100 := by omega
  clear hp1 hp3
  have hd : (decide (1 ≤ (p : Int)) && decide ((p : Int) ≤ 256)) = true := by simp; omega
  have HD := hid_ hd
  have HL := hid_ hL
  have HR := hid_ hrd
  clear hd hL hrd
  go_enter Tryd.func3, Tryd.ntmps3
  go_wp2_with fail
  refine (mapNew_ok p w hp5 (by omega)).mono ?_
  rintro e w1 ⟨rfl, ht1, hf1, _⟩
  have T1 := hid_ ht1
  have F1 := hid_ hf1
  clear ht1 hf1
  go_wp2_with fail
  refine (rnew p _).mono ?_
  rintro e w2 ⟨rfl, hf2⟩
  rw [HD.out]
  obtain ⟨w3, hw3⟩ : ∃ w3, w3 = w2.alloc (rbox p (.slice none 0 0)) := ⟨_, rfl⟩
  have P3 : Hid (Pl w w3 (w.heap.size + 1) w.heap.size w2.heap.size p (List.replicate p (false, 0, 0)) (.slice none 0 0) []) := by
    have hf3 : Fr none_ w2 w3 := by rw [hw3]; exact (Fr.refl none_ w2).alloc _
    have ha := (F1.out.then_none hf2).then_none hf3
    have h23 := (F1.out.then_none hf2).size
    exact hid_ ⟨by rw [hw3]; exact Blk.new w2 _ _, (T1.out.fr hf2 id id).fr hf3 id id, by unfold ROwn; exact World.ownsRow_nil _ _ _ _, Sim.init p (by omega), HL.out.fr ha id, ha, h23, Nat.le_refl _, HL.out.lt, by simp⟩
  clear hf2
  go_wp2_with fail
  change Code.wp _ _ _ _ (w2.alloc (rbox p (.slice none 0 0)))
  rw [← hw3]
  clear hw3 T1 F1
  obtain ⟨R, hR⟩ : ∃ R, R = w2.heap.size := ⟨_, rfl⟩
  rw [← hR] at P3
  simp only [← hR]
  clear hR
  go_loopw [48] (fun i wr => ∃ (k : Nat) (ps : List Pg) (B : Option Addr) (c : Nat) (L : List Rp), k ≤ n ∧ i = .int .i64 k ∧ Pl w wr (w.heap.size + 1) w.heap.size R p ps (.slice B L.length c) L) (fun i _ => n - (intOf i).toNat)
  case atStart => exact ⟨0, _, none, 0, [], Nat.zero_le _, rfl, P3.out⟩
  case round =>
    obtain ⟨k, ps, B, c, L, hk, rfl, hP⟩ := hrel
    have P := hid_ hP
    clear hP
    by_cases hlt : k < n
    · obtain ⟨b, off, rfl, hb, x0, x1, x2, x3, x4, x5, x6, d0, d1, d2, d3, d4, d5, d6⟩ := HR.out.at P.out.fr hlt
      have r0 : wr.cell? ⟨R, 0, none⟩ = some (.int .i64 p) := P.out.b.cell' rfl
      have r1 : wr.cell? ⟨R, 1, none⟩ = some (.slice B L.length c) := P.out.b.cell' rfl
      have hRl : R < wr.heap.size := P.out.b.lt
      go_wp2_with fail
      refine (does_pl (P.out.keep ((Fr.refl none_ wr).alloc _)) x0 x1 x2 x3 x4 x5 x6).mono ?_
      rintro e w4 ⟨B4, c4, L4, rfl, ht4, ho4, hs4, hl4, hb4, hf4, hla4⟩
      obtain ⟨ps4, hps4⟩ : ∃ ps4, ps4 = doesP ps x0 x1 x2 x3 x4 x5 x6 := ⟨_, rfl⟩
      rw [← hps4] at ht4 hs4 hl4
      have hR4 : R < w4.heap.size := hb4.lt
      have fz0 : w4.frozen? ⟨R, 0, none⟩ = false := hb4.frozen 0
      have fz1 : w4.frozen? ⟨R, 1, none⟩ = false := hb4.frozen 1
      have r40 : w4.cell? ⟨R, 0, none⟩ = some (.int .i64 p) := hb4.cell' rfl
      have r41 : w4.cell? ⟨R, 1, none⟩ = some (.slice B L.length c) := hb4.cell' rfl
      have P5 := hid_ ((Pl.put hb4 ht4 ho4 hs4 hla4 hf4 P.out.hR P.out.hG P.out.h0 hl4).keep ((Fr.refl none_ _).alloc (rbox p (.slice B4 L4.length c4))))
      clear ht4 ho4 hs4 hl4 hb4 hf4 hla4 hps4 d0 d1 d2 d3 d4 d5 d6
      go_wp2_with fail
      refine (same_pl P5.out).mono ?_
      rintro e w6 ⟨rfl, hf6⟩
      have P6 := hid_ (P5.out.keep hf6)
      clear hf6
      go_wp2
      go_roundw
      case rel => exact ⟨k + 1, ps4, B4, c4, L4, by omega, by go_num, P6.out⟩
      case measure => simp [intOf]; omega
    · obtain rfl : k = n := by omega
      go_wp2_with (go_at_call 7; refine (awake5 _).mono ?_; rintro e w4 ⟨rfl, hf4⟩)
      go_ret
      exact ⟨rfl, P.out.fr.then_none hf4⟩
end Go.Proofs.YtnlpnbllnddaaaaDoor

/- EpochRises' walk. -/
import Derived.Test.YtmindkphdakflaaDoorPlays6
namespace Go.Proofs.YtmindkphdakflaaDoor
open Go.RowKit
set_option maxRecDepth 100000
set_option linter.unusedVariables false

theorem Ck.oldB {w : World} {C M k : Nat} {now last : Int} {S : List Int} (h : Ck w C M now last S k) : 1 ≤ oldS now S ∧ oldS now S ≤ now := by
  obtain ⟨b1, b2, b3, b4, b5, b6⟩ := h.bd
  have ho := oldS_is S now
  refine ⟨?_, ho.le⟩
  rcases ho.hit with e | ⟨_, e⟩ <;> omega
theorem stN_le (now last verb : Int) (h : now ≤ last) : now ≤ stN now last verb := by
  unfold stN bumpN
  split
  · split <;> omega
  · omega

set_option maxHeartbeats 4000000 in
theorem rises6_walk (p last : Int) (A : Option Addr) (n cap : Nat) (L : List St6) (w : World) (hn : n ≤ cap) (hm : cap ≤ maxLen) (hrd : StReads w A n L) (hL : Laid w) :
    Calls Tryd.prog 3 #[.int .i64 p, .int .i64 last, .slice A n cap] w fun e w' => e = .returned (.bool true) ∧ Fr none_ w w' := by
  unfold maxLen at hm
  by_cases hbad : p < 1 ∨ 64 < p ∨ last < 1 ∨ 1099511627776 < last
  · have Hb := hid_ hbad
    clear hbad
    go_enter Tryd.func3, Tryd.ntmps3
    go_wp2_with fail
    refine (clkNew_no p last w Hb.out).mono ?_
    rintro e w1 ⟨rfl, rfl⟩
    go_wp2_with (go_at_call 10; refine (awake6 _).mono ?_; rintro e w3 ⟨rfl, hf3⟩)
    go_ret
    exact ⟨rfl, hf3⟩
  obtain ⟨p, rfl⟩ : ∃ q : Nat, p = q := ⟨p.toNat, by omega⟩
  have g1 : 1 ≤ p := by omega
  have g2 : p ≤ 64 := by omega
  have g3 : 1 ≤ last := by omega
  have g4 : last ≤ 1099511627776 := by omega
  have HL := hid_ hL
  have HR := hid_ hrd
  clear hbad hL hrd
  by_cases hn2 : 200 < n
  · go_enter Tryd.func3, Tryd.ntmps3
    go_wp2_with fail
    refine (clkNew_ok p last w (by omega) (by omega) g3 g4).mono ?_
    rintro e w1 ⟨C, M, rfl, h1, hf1, hC, hM⟩
    have F1 := hid_ hf1
    clear h1 hf1
    go_wp2_with (go_at_call 10; refine (awake6 _).mono ?_; rintro e w3 ⟨rfl, hf3⟩)
    go_ret
    exact ⟨rfl, F1.out.then_none hf3⟩
  go_enter Tryd.func3, Tryd.ntmps3
  go_wp2_with fail
  refine (clkNew_ok p last w (by omega) (by omega) g3 g4).mono ?_
  rintro e w1 ⟨C, M, rfl, h1, hf1, hC, hM⟩
  have K1 := hid_ h1
  have F1 := hid_ hf1
  clear h1 hf1
  go_wp2_with fail
  refine (rnew_ok p last _ g1 g2 g3 g4).mono ?_
  rintro e w2 ⟨A2, c2, rfl, ho2, hf2⟩
  obtain ⟨w3, hw3⟩ : ∃ w3, w3 = w2.alloc (rclkB 1 last (.slice A2 (List.replicate p (0 : Int)).length c2)) := ⟨_, rfl⟩
  have P3 := hid_ (pl6_start K1.out F1.out hC hM ho2 hf2 HL.out hw3 g1 g2 g3 g4)
  obtain ⟨S0, hS0⟩ : ∃ S, S = List.replicate p (0 : Int) := ⟨_, rfl⟩
  rw [← hS0] at hw3 P3
  simp only [← hS0]
  clear ho2 hf2 hS0
  go_wp2_with fail
  rw [← hw3]
  clear hw3 K1 F1
  obtain ⟨R, hR⟩ : ∃ R, R = w2.heap.size := ⟨_, rfl⟩
  rw [← hR] at P3
  simp only [← hR]
  clear hR
  refine (now_ck P3.out.ck).mono ?_
  rintro e w4 ⟨rfl, rfl⟩
  go_wp2_with fail
  go_loopw [34, 10] (fun i m wr => ∃ (k : Nat) (now : Int) (B : Option Addr) (c : Nat) (S : List Int), k ≤ n ∧ i = .int .i64 k ∧ m = .int .i64 now ∧ Pl6 w wr C M R now last (.slice B S.length c) S k) (fun i _ _ => n - (intOf i).toNat)
  case atStart => exact ⟨0, _, _, _, _, Nat.zero_le _, rfl, rfl, P3.out⟩
  case round =>
    obtain ⟨k, now, B, c, S, hk, rfl, rfl, hP⟩ := hrel
    have P := hid_ hP
    clear hP
    by_cases hlt : k < n
    · obtain ⟨b, off, x0, x1, x2, rfl, hb, _, hwa, d0, d1, d2⟩ := HR.out.at P.out.fr hlt
      have Hwa := hid_ hwa
      have r0 : wr.cell? ⟨R, 0, none⟩ = some (.int .i64 now) := P.out.b.cell' rfl
      have r1 : wr.cell? ⟨R, 1, none⟩ = some (.int .i64 last) := P.out.b.cell' rfl
      have r2 : wr.cell? ⟨R, 2, none⟩ = some (.slice B S.length c) := P.out.b.cell' rfl
      have hRl : R < wr.heap.size := P.out.b.lt
      clear hwa
      go_wp2_with fail
      refine (does_pl6 (P.out.keep ((Fr.refl none_ wr).alloc _)) (by omega) x0 x1 x2 Hwa.out).mono ?_
      rintro e w4 ⟨B4, c4, rfl, hD⟩
      have hle := stN_le now last x0 P.out.ck.bd.2.2.2.1
      obtain ⟨now4, hnow4⟩ : ∃ q, q = stN now last x0 := ⟨_, rfl⟩
      obtain ⟨S4, hS4⟩ : ∃ q, q = stS now S x0 x1 x2 := ⟨_, rfl⟩
      rw [← hnow4, ← hS4] at hD
      rw [← hnow4] at hle
      simp only [← hnow4, ← hS4]
      have hR4 : R < w4.heap.size := hD.b.lt
      have fz0 : w4.frozen? ⟨R, 0, none⟩ = false := hD.b.frozen 0
      have fz1 : w4.frozen? ⟨R, 1, none⟩ = false := hD.b.frozen 1
      have fz2 : w4.frozen? ⟨R, 2, none⟩ = false := hD.b.frozen 2
      have r40 : w4.cell? ⟨R, 0, none⟩ = some (.int .i64 now) := hD.b.cell' rfl
      have r41 : w4.cell? ⟨R, 1, none⟩ = some (.int .i64 last) := hD.b.cell' rfl
      have r42 : w4.cell? ⟨R, 2, none⟩ = some (.slice B S.length c) := hD.b.cell' rfl
      obtain ⟨w5, hw5⟩ : ∃ w5, w5 = ((w4.setCell ⟨R, 0, none⟩ (.int .i64 now4)).setCell ⟨R, 1, none⟩ (.int .i64 last)).setCell ⟨R, 2, none⟩ (.slice B4 S4.length c4) := ⟨_, rfl⟩
      have P5 := hid_ (hD.put hw5)
      obtain ⟨o1, o2⟩ := P5.out.ck.oldB
      have o3 := P5.out.ck.bd.2.2.2.1
      clear hD hnow4 hS4 d0 d1 d2
      go_wp2_with fail
      rw [← hw5]
      clear hw5
      refine (now_ck P5.out.ck).mono ?_
      rintro e w6 ⟨rfl, rfl⟩
      go_wp2_with fail
      refine (now_ck P5.out.ck).mono ?_
      rintro e w6 ⟨rfl, rfl⟩
      go_wp2_with fail
      refine (oldest_ck P5.out.ck).mono ?_
      rintro e w6 ⟨rfl, hf6⟩
      have P6 := hid_ (P5.out.keep hf6)
      clear hf6
      go_wp2_with fail
      refine (now_ck P6.out.ck).mono ?_
      rintro e w7 ⟨rfl, rfl⟩
      go_wp2_with fail
      refine (oldest_ck P6.out.ck).mono ?_
      rintro e w7 ⟨rfl, hf7⟩
      have P7 := hid_ (P6.out.keep hf7)
      clear hf7
      go_wp2_with fail
      refine (now_ck P7.out.ck).mono ?_
      rintro e w8 ⟨rfl, rfl⟩
      go_wp2
      go_roundw
      case rel => exact ⟨k + 1, now4, B4, c4, S4, by omega, by go_num, rfl, P7.out⟩
      case measure => simp [intOf]; omega
    · obtain rfl : k = n := by omega
      go_wp2_with (go_at_call 10; refine (awake6 _).mono ?_; rintro e w4 ⟨rfl, hf4⟩)
      go_ret
      exact ⟨rfl, P.out.fr.then_none hf4⟩
theorem rises6_walk_i (p : Int) (wp : (Lit.int .i64 p).wf = true) (last : Int) (wl : (Lit.int .i64 last).wf = true) (A : Option Addr) (n cap : Nat) (hn : n ≤ cap) (hm : cap ≤ maxLen) (w : World) (hrd : Do6At w A n) (hL : Laid w) :
    Calls Tryd.prog 3 #[.int .i64 p, .int .i64 last, .slice A n cap] w fun e w' => e = .returned (.bool true) ∧ Fr none_ w w' := by
  obtain ⟨L, hL'⟩ := steps_of hrd
  exact rises6_walk p last A n cap L w hn hm hL' hL
end Go.Proofs.YtmindkphdakflaaDoor

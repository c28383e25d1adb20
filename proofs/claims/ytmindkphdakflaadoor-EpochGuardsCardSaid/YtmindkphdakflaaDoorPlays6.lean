/- EpochPlays' walk. -/
import Derived.Test.YtmindkphdakflaaDoorPl6
namespace Go.Proofs.YtmindkphdakflaaDoor
open Go.RowKit
set_option maxRecDepth 100000
set_option linter.unusedVariables false

theorem pl6_start {w w1 w2 w3 : World} {C M : Nat} {last : Int} {A : Option Addr} {c n : Nat} (h1 : Clk w1 C M 1 last n 0 (.map [])) (hf1 : Fr none_ w w1) (hC : w.heap.size ≤ C) (hM : w.heap.size ≤ M)
    (h2 : SOwn w2 (.slice A (List.replicate n (0 : Int)).length c) (List.replicate n 0)) (hf2 : Fr none_ w1 w2) (hL : Laid w) (hw3 : w3 = w2.alloc (rclkB 1 last (.slice A (List.replicate n (0 : Int)).length c))) (n1 : 1 ≤ n) (n2 : n ≤ 64) (l1 : 1 ≤ last) (l2 : last ≤ 1099511627776) :
    Pl6 w w3 C M w2.heap.size 1 last (.slice A (List.replicate n (0 : Int)).length c) (List.replicate n 0) 0 := by
  subst hw3
  have f3 := (hf1.then_none hf2).alloc (rclkB 1 last (.slice A (List.replicate n (0 : Int)).length c))
  have f13 := hf2.alloc (rclkB 1 last (.slice A (List.replicate n (0 : Int)).length c))
  refine ⟨Blk.new w2 _ _, ⟨0, .map [], Nat.le_refl _, ?_, Sim6.start n last n1 n2 l1 l2⟩, h2.alloc _, hL.fr f3 id, f3, (hf1.then_none hf2).size, hC, hM, hL.lt⟩
  rw [show (((List.replicate n (0 : Int)).length : Nat) : Int) = (n : Int) by simp]
  exact Clk.fr (S := none_) h1 f13 (fun e => e) (fun e => e)

set_option maxHeartbeats 4000000 in
theorem plays6_walk (p last : Int) (A : Option Addr) (n cap : Nat) (L : List St6) (w : World) (hn : n ≤ cap) (hm : cap ≤ maxLen) (hrd : StReads w A n L) (hL : Laid w) :
    Calls Tryd.prog 7 #[.int .i64 p, .int .i64 last, .slice A n cap] w fun e w' => e = .returned (.bool true) ∧ Fr none_ w w' := by
  unfold maxLen at hm
  by_cases hn2 : 200 < n
  · go_enter Tryd.func7, Tryd.ntmps7
    go_wp2_with (go_at_call 10; refine (awake6 _).mono ?_; rintro e w1 ⟨rfl, hf1⟩)
    go_ret
    exact ⟨rfl, hf1⟩
  by_cases hbad : p < 1 ∨ 64 < p ∨ last < 1 ∨ 1099511627776 < last
  · have Hb := hid_ hbad
    clear hbad
    go_enter Tryd.func7, Tryd.ntmps7
    go_wp2_with fail
    refine (clkNew_no p last w Hb.out).mono ?_
    rintro e w1 ⟨rfl, rfl⟩
    go_wp2_with fail
    refine (rnew_no p last w Hb.out).mono ?_
    rintro e w2 ⟨rfl, hf2⟩
    have F2 := hid_ (hf2.alloc (rclkB 0 0 (.slice none 0 0)))
    clear hf2
    go_wp2_with (go_at_call 10; refine (awake6 _).mono ?_; rintro e w3 ⟨rfl, hf3⟩)
    go_ret
    exact ⟨rfl, F2.out.then_none hf3⟩
  obtain ⟨p, rfl⟩ : ∃ q : Nat, p = q := ⟨p.toNat, by omega⟩
  have g1 : 1 ≤ p := by omega
  have g2 : p ≤ 64 := by omega
  have g3 : 1 ≤ last := by omega
  have g4 : last ≤ 1099511627776 := by omega
  have HL := hid_ hL
  have HR := hid_ hrd
  clear hbad hL hrd
  go_enter Tryd.func7, Tryd.ntmps7
  go_wp2_with fail
  refine (clkNew_ok p last w (by omega) (by omega) g3 g4).mono ?_
  rintro e w1 ⟨C, M, rfl, h1, hf1, hC, hM⟩
  have K1 := hid_ h1
  have F1 := hid_ hf1
  clear h1 hf1
  go_wp2_with fail
  refine (rnew_ok p last _ g1 g2 g3 g4).mono ?_
  rintro e w2 ⟨A2, c2, rfl, ho2, hf2⟩
  obtain ⟨w3, hw3⟩ : ∃ w3, w3 = w2.alloc (rclkB 1 last (.slice A2 (List.replicate p (0 : Int)).length c2)) := ⟨_, rfl⟩
  have P3 := hid_ (pl6_start K1.out F1.out hC hM ho2 hf2 HL.out hw3 g1 g2 g3 g4)
  obtain ⟨S0, hS0⟩ : ∃ S, S = List.replicate p (0 : Int) := ⟨_, rfl⟩
  rw [← hS0] at hw3 P3
  simp only [← hS0]
  clear ho2 hf2 hS0
  go_wp2_with fail
  change Code.wp _ _ _ _ (w2.alloc (rclkB 1 last (.slice A2 S0.length c2)))
  rw [← hw3]
  clear hw3 K1 F1
  obtain ⟨R, hR⟩ : ∃ R, R = w2.heap.size := ⟨_, rfl⟩
  rw [← hR] at P3
  simp only [← hR]
  clear hR
  go_loopw [44] (fun i wr => ∃ (k : Nat) (now : Int) (B : Option Addr) (c : Nat) (S : List Int), k ≤ n ∧ i = .int .i64 k ∧ Pl6 w wr C M R now last (.slice B S.length c) S k) (fun i _ => n - (intOf i).toNat)
  case atStart => exact ⟨0, _, _, _, _, Nat.zero_le _, rfl, P3.out⟩
  case round =>
    obtain ⟨k, now, B, c, S, hk, rfl, hP⟩ := hrel
    have P := hid_ hP
    clear hP
    by_cases hlt : k < n
    · obtain ⟨b, off, x0, x1, x2, rfl, hb, _, hwa, d0, d1, d2⟩ := HR.out.at P.out.fr hlt
      have Hwa := hid_ hwa
      have r0 : wr.cell? ⟨R, 0, none⟩ = some (.int .i64 now) := P.out.b.cell' rfl
      have r1 : wr.cell? ⟨R, 1, none⟩ = some (.int .i64 last) := P.out.b.cell' rfl
      have r2 : wr.cell? ⟨R, 2, none⟩ = some (.slice B S.length c) := P.out.b.cell' rfl
      have hRl : R < wr.heap.size := P.out.b.lt
      clear hwa
      go_wp2_with fail
      refine (does_pl6 (P.out.keep ((Fr.refl none_ wr).alloc _)) (by omega) x0 x1 x2 Hwa.out).mono ?_
      rintro e w4 ⟨B4, c4, rfl, hD⟩
      obtain ⟨now4, hnow4⟩ : ∃ q, q = stN now last x0 := ⟨_, rfl⟩
      obtain ⟨S4, hS4⟩ : ∃ q, q = stS now S x0 x1 x2 := ⟨_, rfl⟩
      rw [← hnow4, ← hS4] at hD
      simp only [← hnow4, ← hS4]
      have D := hid_ hD
      have hR4 : R < w4.heap.size := hD.b.lt
      have fz0 : w4.frozen? ⟨R, 0, none⟩ = false := hD.b.frozen 0
      have fz1 : w4.frozen? ⟨R, 1, none⟩ = false := hD.b.frozen 1
      have fz2 : w4.frozen? ⟨R, 2, none⟩ = false := hD.b.frozen 2
      have r40 : w4.cell? ⟨R, 0, none⟩ = some (.int .i64 now) := hD.b.cell' rfl
      have r41 : w4.cell? ⟨R, 1, none⟩ = some (.int .i64 last) := hD.b.cell' rfl
      have r42 : w4.cell? ⟨R, 2, none⟩ = some (.slice B S.length c) := hD.b.cell' rfl
      have P5 := hid_ ((hD.put rfl).keep ((Fr.refl none_ _).alloc (rclkB now4 last (.slice B4 S4.length c4))))
      clear hD hnow4 hS4 d0 d1 d2
      go_wp2_with fail
      refine (same_pl6 P5.out).mono ?_
      rintro e w6 ⟨rfl, hf6⟩
      have P6 := hid_ (P5.out.keep hf6)
      clear hf6
      go_wp2
      go_roundw
      case rel => exact ⟨k + 1, now4, B4, c4, S4, by omega, by go_num, P6.out⟩
      case measure => simp [intOf]; omega
    · obtain rfl : k = n := by omega
      go_wp2_with (go_at_call 10; refine (awake6 _).mono ?_; rintro e w4 ⟨rfl, hf4⟩)
      go_ret
      exact ⟨rfl, P.out.fr.then_none hf4⟩
theorem plays6_walk_i (p : Int) (wp : (Lit.int .i64 p).wf = true) (last : Int) (wl : (Lit.int .i64 last).wf = true) (A : Option Addr) (n cap : Nat) (hn : n ≤ cap) (hm : cap ≤ maxLen) (w : World) (hrd : Do6At w A n) (hL : Laid w) :
    Calls Tryd.prog 7 #[.int .i64 p, .int .i64 last, .slice A n cap] w fun e w' => e = .returned (.bool true) ∧ Fr none_ w w' := by
  obtain ⟨L, hL'⟩ := steps_of hrd
  exact plays6_walk p last A n cap L w hn hm hL' hL
end Go.Proofs.YtmindkphdakflaaDoor

/- EpochLeast' walk. Written by gen_law6.py. -/
import Derived.Test.YtmindkphdakflaaDoorRises6
namespace Go.Proofs.YtmindkphdakflaaDoor
open Go.RowKit
set_option maxRecDepth 100000
set_option linter.unusedVariables false

/-- Is the oldest number that of the clock, or of one of the first j slots? -/
def fndS (now : Int) (S : List Int) (j : Nat) : Bool := (oldS now S == now) || (S.take j).any (fun x => decide (0 < x) && (x == oldS now S))
theorem fndS_next (now : Int) (S : List Int) (j : Nat) (x : Int) (h : S[j]? = some x) : fndS now S (j + 1) = (fndS now S j || (decide (0 < x) && (x == oldS now S))) := by
  have : S.take (j + 1) = S.take j ++ [x] := by rw [List.take_add_one, h]; rfl
  unfold fndS
  rw [this, List.any_append, Bool.or_assoc]
  simp
theorem fndS_all (now : Int) (S : List Int) : fndS now S S.length = true := by
  have h := (oldS_is S now).hit
  unfold fndS
  rw [List.take_length]
  rcases h with h | ⟨h1, h2⟩
  · simp [h]
  · simp only [Bool.or_eq_true, List.any_eq_true]
    exact .inr ⟨_, h1, by simp [h2]⟩

set_option maxHeartbeats 4000000 in
theorem least6_walk (p last : Int) (A : Option Addr) (n cap : Nat) (L : List St6) (w : World) (hn : n ≤ cap) (hm : cap ≤ maxLen) (hrd : StReads w A n L) (hL : Laid w) :
    Calls Tryd.prog 4 #[.int .i64 p, .int .i64 last, .slice A n cap] w fun e w' => e = .returned (.bool true) ∧ Fr none_ w w' := by
  unfold maxLen at hm
  by_cases hbad : p < 1 ∨ 64 < p ∨ last < 1 ∨ 1099511627776 < last
  · have Hb := hid_ hbad
    clear hbad
    go_enter Tryd.func4, Tryd.ntmps4
    go_wp2_with fail
    refine (clkNew_no p last w Hb.out).mono ?_
    rintro e w1 ⟨rfl, rfl⟩
    go_wp2_with (go_at_call 10; refine (awake6 _).mono ?_; rintro e w3 ⟨rfl, hf3⟩)
    go_ret
    exact ⟨rfl, hf3⟩
  obtain ⟨p, rfl⟩ : ∃ q : Nat, p = q := ⟨p.toNat, by omega⟩
  have g1 : 1 ≤ p := by omega
  have g2 : p ≤ 64 := by omega
  have g3 : 1 ≤ last := by omega
  have g4 : last ≤ 1099511627776 := by omega
  have HL := hid_ hL
  have HR := hid_ hrd
  clear hbad hL hrd
  by_cases hn2 : 200 < n
  · go_enter Tryd.func4, Tryd.ntmps4
    go_wp2_with fail
    refine (clkNew_ok p last w (by omega) (by omega) g3 g4).mono ?_
    rintro e w1 ⟨C, M, rfl, h1, hf1, hC, hM⟩
    have F1 := hid_ hf1
    clear h1 hf1
    go_wp2_with (go_at_call 10; refine (awake6 _).mono ?_; rintro e w3 ⟨rfl, hf3⟩)
    go_ret
    exact ⟨rfl, F1.out.then_none hf3⟩
  go_enter Tryd.func4, Tryd.ntmps4
  go_wp2_with fail
  refine (clkNew_ok p last w (by omega) (by omega) g3 g4).mono ?_
  rintro e w1 ⟨C, M, rfl, h1, hf1, hC, hM⟩
  have K1 := hid_ h1
  have F1 := hid_ hf1
  clear h1 hf1
  go_wp2_with fail
  refine (rnew_ok p last _ g1 g2 g3 g4).mono ?_
  rintro e w2 ⟨A2, c2, rfl, ho2, hf2⟩
  obtain ⟨w3, hw3⟩ : ∃ w3, w3 = w2.alloc (rclkB 1 last (.slice A2 (List.replicate p (0 : Int)).length c2)) := ⟨_, rfl⟩
  have P3 := hid_ (pl6_start K1.out F1.out hC hM ho2 hf2 HL.out hw3 g1 g2 g3 g4)
  obtain ⟨S0, hS0⟩ : ∃ S, S = List.replicate p (0 : Int) := ⟨_, rfl⟩
  rw [← hS0] at hw3 P3
  simp only [← hS0]
  have HS0 : Hid (S0.length = p) := hid_ (by rw [hS0]; simp)
  clear ho2 hf2 hS0
  go_wp2_with fail
  change Code.wp _ _ _ _ (w2.alloc (rclkB 1 last (.slice A2 S0.length c2)))
  rw [← hw3]
  clear hw3 K1 F1
  obtain ⟨R, hR⟩ : ∃ R, R = w2.heap.size := ⟨_, rfl⟩
  rw [← hR] at P3
  simp only [← hR]
  clear hR
  go_loopw [36] (fun i wr => ∃ (k : Nat) (now : Int) (B : Option Addr) (c : Nat) (S : List Int), k ≤ n ∧ i = .int .i64 k ∧ S.length = p ∧ Pl6 w wr C M R now last (.slice B S.length c) S k) (fun i _ => n - (intOf i).toNat)
  case atStart => exact ⟨0, _, _, _, _, Nat.zero_le _, rfl, HS0.out, P3.out⟩
  case round =>
    obtain ⟨k, now, B, c, S, hk, rfl, hSp, hP⟩ := hrel
    have P := hid_ hP
    have HSp := hid_ hSp
    clear hP hSp
    by_cases hlt : k < n
    · obtain ⟨b, off, x0, x1, x2, rfl, hb, _, hwa, d0, d1, d2⟩ := HR.out.at P.out.fr hlt
      have Hwa := hid_ hwa
      have r0 : wr.cell? ⟨R, 0, none⟩ = some (.int .i64 now) := P.out.b.cell' rfl
      have r1 : wr.cell? ⟨R, 1, none⟩ = some (.int .i64 last) := P.out.b.cell' rfl
      have r2 : wr.cell? ⟨R, 2, none⟩ = some (.slice B S.length c) := P.out.b.cell' rfl
      have hRl : R < wr.heap.size := P.out.b.lt
      clear hwa
      go_wp2_with fail
      refine (does_pl6 (P.out.keep ((Fr.refl none_ wr).alloc _)) (by omega) x0 x1 x2 Hwa.out).mono ?_
      rintro e w4 ⟨B4, c4, rfl, hD⟩
      have hlen := stS_len now S x0 x1 x2
      have hle := stN_le now last x0 P.out.ck.bd.2.2.2.1
      obtain ⟨now4, hnow4⟩ : ∃ q, q = stN now last x0 := ⟨_, rfl⟩
      obtain ⟨S4, hS4⟩ : ∃ q, q = stS now S x0 x1 x2 := ⟨_, rfl⟩
      rw [← hnow4, ← hS4] at hD
      rw [← hnow4] at hle
      rw [← hS4, HSp.out] at hlen
      have HS4 := hid_ hlen
      clear hlen
      simp only [← hnow4, ← hS4]
      have hR4 : R < w4.heap.size := hD.b.lt
      have fz0 : w4.frozen? ⟨R, 0, none⟩ = false := hD.b.frozen 0
      have fz1 : w4.frozen? ⟨R, 1, none⟩ = false := hD.b.frozen 1
      have fz2 : w4.frozen? ⟨R, 2, none⟩ = false := hD.b.frozen 2
      have r40 : w4.cell? ⟨R, 0, none⟩ = some (.int .i64 now) := hD.b.cell' rfl
      have r41 : w4.cell? ⟨R, 1, none⟩ = some (.int .i64 last) := hD.b.cell' rfl
      have r42 : w4.cell? ⟨R, 2, none⟩ = some (.slice B S.length c) := hD.b.cell' rfl
      obtain ⟨w5, hw5⟩ : ∃ w5, w5 = ((w4.setCell ⟨R, 0, none⟩ (.int .i64 now4)).setCell ⟨R, 1, none⟩ (.int .i64 last)).setCell ⟨R, 2, none⟩ (.slice B4 S4.length c4) := ⟨_, rfl⟩
      have P5 := hid_ (hD.put hw5)
      obtain ⟨o1, o2⟩ := P5.out.ck.oldB
      have o3 := P5.out.ck.bd.2.2.2.1
      clear hD hnow4 hS4 d0 d1 d2
      go_wp2_with fail
      rw [← hw5]
      clear hw5
      refine (oldest_ck P5.out.ck).mono ?_
      rintro e w6 ⟨rfl, hf6⟩
      have P6 := hid_ (P5.out.keep hf6)
      clear hf6
      go_wp2_with fail
      refine (now_ck P6.out.ck).mono ?_
      rintro e w7 ⟨rfl, rfl⟩
      go_wp2_with fail
      obtain ⟨oo, hoo⟩ : ∃ q, q = oldS now4 S4 := ⟨_, rfl⟩
      have hst : (oo == now4) = fndS now4 S4 0 := by rw [hoo]; simp [fndS]
      have Hoo := hid_ hoo
      simp only [← hoo]
      rw [hst]
      clear hst hoo
      go_loopw [53, 12] (fun i f wx => ∃ (j : Nat), j ≤ p ∧ i = .int .i64 j ∧ f = .bool (fndS now4 S4 j) ∧ Pl6 w wx C M R now4 last (.slice B4 S4.length c4) S4 (k + 1)) (fun i _ _ => p - (intOf i).toNat)
      case atStart => exact ⟨0, Nat.zero_le _, rfl, rfl, P6.out⟩
      case round =>
        obtain ⟨j, hj, rfl, rfl, hP7⟩ := hrel
        obtain ⟨wx, rfl⟩ : ∃ wx : World, wx = wr := ⟨_, rfl⟩
        have P7 := hid_ hP7
        clear hP7
        by_cases hlj : j < p
        · obtain ⟨x, hx⟩ : ∃ x, S4[j]? = some x := ⟨_, List.getElem?_eq_getElem (by rw [HS4.out]; exact hlj)⟩
          have hnx := fndS_next now4 S4 j x hx
          have Hx := hid_ hx
          have hlow : 0 < x → oo ≤ x := fun h0 => by rw [Hoo.out]; exact (oldS_is S4 now4).low x (List.mem_of_getElem? hx) h0
          have Hlow := hid_ hlow
          obtain ⟨f0, hf0⟩ : ∃ q, q = fndS now4 S4 j := ⟨_, rfl⟩
          rw [← hf0, ← Hoo.out] at hnx
          simp only [← hf0]
          have Hnx := hid_ hnx
          clear hx hlow hnx hf0
          go_wp2_with fail
          refine (at_ck P7.out.ck Hx.out).mono ?_
          rintro e w8 ⟨rfl, rfl⟩
          by_cases h0 : 0 < x
          · have hd : decide (0 < x) = true := by simpa using h0
            rw [hd]
            have hl := Hlow.out h0
            clear hd
            go_wp2_with fail
            refine (oldest_ck P7.out.ck).mono ?_
            rintro e w9 ⟨rfl, hf9⟩
            have P9 := hid_ (P7.out.keep hf9)
            clear hf9
            rw [← Hoo.out]
            cases f0 with
            | true =>
              have hn1 : fndS now4 S4 (j + 1) = true := by rw [Hnx.out]; rfl
              have Hn1 := hid_ hn1
              clear hn1
              go_wp2
              go_roundw
              case rel => exact ⟨j + 1, by omega, by go_num, by rw [Hn1.out], P9.out⟩
              case measure => simp [intOf]; omega
            | false =>
              have hn1 : fndS now4 S4 (j + 1) = (x == oo) := by rw [Hnx.out]; simp [h0]
              have Hn1 := hid_ hn1
              clear hn1
              go_wp2_with fail
              refine (oldest_ck P9.out.ck).mono ?_
              rintro e wa ⟨rfl, hfa⟩
              have Pa := hid_ (P9.out.keep hfa)
              clear hfa
              rw [← Hoo.out]
              go_wp2
              go_roundw
              case rel => exact ⟨j + 1, by omega, by go_num, by rw [Hn1.out], Pa.out⟩
              case measure => simp [intOf]; omega
          · have hd : decide (0 < x) = false := by simpa using h0
            rw [hd]
            clear hd
            have hn1 : fndS now4 S4 (j + 1) = f0 := by rw [Hnx.out]; simp [h0]
            have Hn1 := hid_ hn1
            clear hn1
            cases f0 with
            | true =>
              go_wp2
              go_roundw
              case rel => exact ⟨j + 1, by omega, by go_num, by rw [Hn1.out], P7.out⟩
              case measure => simp [intOf]; omega
            | false =>
              go_wp2
              go_roundw
              case rel => exact ⟨j + 1, by omega, by go_num, by rw [Hn1.out], P7.out⟩
              case measure => simp [intOf]; omega
        · obtain rfl : j = p := by omega
          have hall : fndS now4 S4 j = true := by rw [← HS4.out]; exact fndS_all now4 S4
          simp only [hall]
          clear hall
          go_wp2
          go_roundw
          case rel => exact ⟨k + 1, now4, B4, c4, S4, by omega, by go_num, HS4.out, P7.out⟩
          case measure => simp [intOf]; omega
    · obtain rfl : k = n := by omega
      go_wp2_with (go_at_call 10; refine (awake6 _).mono ?_; rintro e w4 ⟨rfl, hf4⟩)
      go_ret
      exact ⟨rfl, P.out.fr.then_none hf4⟩
theorem least6_walk_i (p : Int) (wp : (Lit.int .i64 p).wf = true) (last : Int) (wl : (Lit.int .i64 last).wf = true) (A : Option Addr) (n cap : Nat) (hn : n ≤ cap) (hm : cap ≤ maxLen) (w : World) (hrd : Do6At w A n) (hL : Laid w) :
    Calls Tryd.prog 4 #[.int .i64 p, .int .i64 last, .slice A n cap] w fun e w' => e = .returned (.bool true) ∧ Fr none_ w w' := by
  obtain ⟨L, hL'⟩ := steps_of hrd
  exact least6_walk p last A n cap L w hn hm hL' hL
end Go.Proofs.YtmindkphdakflaaDoor

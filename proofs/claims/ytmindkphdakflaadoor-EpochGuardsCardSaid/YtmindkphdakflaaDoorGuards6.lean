/- EpochGuards' walk. Written by gen_guards6.py. -/
import Derived.Test.YtmindkphdakflaaDoorEmpty6
import Derived.Test.YtmindkphdakflaaDoorFree6
namespace Go.Proofs.YtmindkphdakflaaDoor
open Go.RowKit
set_option maxRecDepth 100000
set_option linter.unusedVariables false

theorem stS_keep {now : Int} {S : List Int} {verb t a x : Int} {i : Nat} (h : S[i]? = some x) (h0 : 0 < x) (hv : ¬ (verb = 2 ∧ t = i)) : (stS now S verb t a)[i]? = some x := by
  have hil := (List.getElem?_eq_some_iff.1 h).1
  unfold stS
  split
  · unfold enterS
    split
    · rename_i hc
      by_cases e : t = i
      · subst e
        exfalso
        unfold enterC at hc
        rw [if_neg (by omega)] at hc
        have hg : S.getD (i : Int).toNat 0 = x := by simp [List.getD, h]
        rw [hg, if_pos h0] at hc
        cases hc
      · rw [List.getElem?_set]
        split
        · rename_i e2
          exfalso
          have hr : ¬ (t < 0 ∨ (S.length : Int) ≤ t) := by
            intro hr
            unfold enterC at hc
            rw [if_pos hr] at hc
            cases hc
          omega
        · exact h
    · exact h
  · split
    · unfold leaveS
      split
      · rename_i hv2 hc
        rw [List.getElem?_set]
        split
        · rename_i e2
          exfalso
          have hr : ¬ (t < 0 ∨ (S.length : Int) ≤ t) := by
            intro hr
            unfold leaveC at hc
            rw [if_pos hr] at hc
            cases hc
          exact hv ⟨hv2, by omega⟩
        · exact h
      · exact h
    · exact h
theorem ripe_none {o : Int} {L : List It} (h : ∀ p ∈ L, o ≤ p.1) : ripeOf o L = [] ∧ stayOf o L = L := by
  constructor
  · unfold ripeOf
    rw [List.filter_eq_nil_iff]
    intro p hp
    have := h p hp
    simp
    omega
  · unfold stayOf
    rw [List.filter_eq_self]
    intro p hp
    have := h p hp
    simp
    omega
theorem Bn.offCk {w : World} {C M k B : Nat} {now last : Int} {vb : Value} {S : List Int} {L : List It} (h : Bn w B vb L) (p : Ck w C M now last S k) : ∀ b, (b = B ∨ vb.ownBlock = some b) → ¬ either C M b := by
  intro b hb hh
  rcases hb with rfl | hb
  · rcases hh with rfl | rfl
    · obtain ⟨cs, hc⟩ := p.blkC
      exact absurd (Blk.uniq h.hB hc).1 (by decide)
    · obtain ⟨es, cl, hm⟩ := p.objM
      have := h.hB
      unfold Blk at this
      rw [this] at hm
      cases hm
  · exact p.off h.own (by decide) b hb hh

/-- The clock goes on, the document's stays where it was; a bin. -/
structure Gd6 (w w' : World) (C M R B : Nat) (rn now last : Int) (v vb : Value) (D0 S : List Int) (L : List It) (k : Nat) : Prop where
  b : Blk w' R 28 #[.int .i64 rn, .int .i64 last, v]
  ck : Ck w' C M now last S k
  own : SOwn w' v D0
  la : Laid w'
  fr : Fr none_ w w'
  bn : Bn w' B vb L
  hR : w.heap.size ≤ R
  hC : w.heap.size ≤ C
  hM : w.heap.size ≤ M
  hB : w.heap.size ≤ B
  h0 : 0 < w.heap.size
  ne : R ≠ C ∧ R ≠ M
section
variable {w w' w2 : World} {C M R B k k2 : Nat} {rn now now2 last : Int} {v vb vb2 : Value} {D0 S S2 : List Int} {L L2 : List It}
theorem Gd6.keep (h : Gd6 w w' C M R B rn now last v vb D0 S L k) (hf : Fr none_ w' w2) : Gd6 w w2 C M R B rn now last v vb D0 S L k :=
  ⟨h.b.fr hf id, h.ck.keep hf, own_none h.own hf, h.la.fr hf id, h.fr.then_none hf, h.bn.none_fr hf, h.hR, h.hC, h.hM, h.hB, h.h0, h.ne⟩
theorem Gd6.stepC (h : Gd6 w w' C M R B rn now last v vb D0 S L k) (hf : Fr (either C M) w' w2) (hk : Ck w2 C M now2 last S2 k2) (hl : Laid w2) : Gd6 w w2 C M R B rn now2 last v vb D0 S2 L k2 :=
  ⟨h.b.fr hf (either_ne h.ne.1 h.ne.2), hk, own_fr h.own hf (h.ck.off h.own (by decide)), hl, h.fr.trans hf (fun _ _ e => e) (fun i hi e => by
    have := h.hC
    have := h.hM
    rcases e with e | e <;> omega), h.bn.far hf (h.bn.offCk h.ck), h.hR, h.hC, h.hM, h.hB, h.h0, h.ne⟩
theorem Gd6.stepB (h : Gd6 w w' C M R B rn now last v vb D0 S L k) (hf : Fr (only B) w' w2) (hb : Bn w2 B vb2 L2) : Gd6 w w2 C M R B rn now last v vb2 D0 S L2 k := by
  have h0 := h.h0
  have hB := h.hB
  exact ⟨h.b.fr hf (fun e => absurd (Blk.uniq h.bn.hB (show Blk w' B _ _ from (show R = B from e) ▸ h.b)).1 (by decide)), h.ck.fr hf (fun e => h.bn.offCk h.ck B (.inl rfl) (.inl e.symm)) (fun e => h.bn.offCk h.ck B (.inl rfl) (.inr e.symm)), own_fr h.own hf (fun j hj e => own_blk_ne h.own h.bn.hB (by decide) (by rw [hj, show j = B from e])), h.la.fr hf (only_ne (by omega)), h.fr.then_only hf (.inr hB), hb, h.hR, h.hC, h.hM, hB, h0, h.ne⟩
theorem Gd6.cne (h : Gd6 w w' C M R B rn now last v vb D0 S L k) : 0 ≠ C ∧ 0 ≠ M := by have := h.hC; have := h.hM; have := h.h0; omega
end

set_option maxHeartbeats 8000000 in
theorem guards6_walk (p last : Int) (A : Option Addr) (n cap : Nat) (L : List St6) (Y : Option Addr) (m cap2 : Nat) (L2 : List St6) (th : Int) (w : World) (hn : n ≤ cap) (hm : cap ≤ maxLen) (hm1 : m ≤ cap2) (hm2 : cap2 ≤ maxLen) (hrd : StReads w A n L) (hrd2 : StReads w Y m L2) (hL : Laid w) :
    Calls Tryd.prog 5 #[.int .i64 p, .int .i64 last, .slice A n cap, .slice Y m cap2, .int .i64 th] w fun e w' => e = .returned (.bool true) ∧ Fr none_ w w' := by
  unfold maxLen at hm hm2
  by_cases hn2 : 200 < n
  · go_enter Tryd.func5, Tryd.ntmps5
    go_wp2_with (go_at_call 10; refine (awake6 _).mono ?_; rintro e w1 ⟨rfl, hf1⟩)
    go_ret
    exact ⟨rfl, hf1⟩
  by_cases hn3 : 200 < m
  · go_enter Tryd.func5, Tryd.ntmps5
    go_wp2_with (go_at_call 10; refine (awake6 _).mono ?_; rintro e w1 ⟨rfl, hf1⟩)
    go_ret
    exact ⟨rfl, hf1⟩
  by_cases hbad : p < 1 ∨ 64 < p ∨ last < 1 ∨ 1099511627776 < last
  · have Hb := hid_ hbad
    clear hbad
    go_enter Tryd.func5, Tryd.ntmps5
    go_wp2_with fail
    refine (clkNew_no p last w Hb.out).mono ?_
    rintro e w1 ⟨rfl, rfl⟩
    go_wp2_with (go_at_call 10; refine (awake6 _).mono ?_; rintro e w1 ⟨rfl, hf1⟩)
    go_ret
    exact ⟨rfl, hf1⟩
  obtain ⟨p, rfl⟩ : ∃ q : Nat, p = q := ⟨p.toNat, by omega⟩
  have g1 : 1 ≤ p := by omega
  have g2 : p ≤ 64 := by omega
  have g3 : 1 ≤ last := by omega
  have g4 : last ≤ 1099511627776 := by omega
  have HL := hid_ hL
  have HR := hid_ hrd
  have HR2 := hid_ hrd2
  clear hbad hL hrd hrd2
  go_enter Tryd.func5, Tryd.ntmps5
  go_wp2_with fail
  refine (clkNew_ok p last w (by omega) (by omega) g3 g4).mono ?_
  rintro e w1 ⟨C, M, rfl, h1, hf1, hC, hM⟩
  have K1 := hid_ h1
  have F1 := hid_ hf1
  clear h1 hf1
  go_wp2_with fail
  refine (rnew_ok p last _ g1 g2 g3 g4).mono ?_
  rintro e w2 ⟨A2, c2, rfl, ho2, hf2⟩
  obtain ⟨w3, hw3⟩ : ∃ w3, w3 = w2.alloc (rclkB 1 last (.slice A2 (List.replicate p (0 : Int)).length c2)) := ⟨_, rfl⟩
  have P3 := hid_ (pl6_start K1.out F1.out hC hM ho2 hf2 HL.out hw3 g1 g2 g3 g4)
  obtain ⟨S0, hS0⟩ : ∃ S, S = List.replicate p (0 : Int) := ⟨_, rfl⟩
  rw [← hS0] at hw3 P3
  simp only [← hS0]
  clear ho2 hf2 hS0
  go_wp2_with fail
  change Code.wp _ _ _ _ (w2.alloc (rclkB 1 last (.slice A2 S0.length c2)))
  rw [← hw3]
  clear hw3 K1 F1
  obtain ⟨R, hR⟩ : ∃ R, R = w2.heap.size := ⟨_, rfl⟩
  rw [← hR] at P3
  simp only [← hR]
  clear hR
  go_loopw [45] (fun i wr => ∃ (k : Nat) (now : Int) (B : Option Addr) (c : Nat) (S : List Int), k ≤ n ∧ i = .int .i64 k ∧ Pl6 w wr C M R now last (.slice B S.length c) S k) (fun i _ => n - (intOf i).toNat)
  case atStart => exact ⟨0, _, _, _, _, Nat.zero_le _, rfl, P3.out⟩
  case round =>
    obtain ⟨k, now, B, c, S, hk, rfl, hP⟩ := hrel
    have P := hid_ hP
    clear hP
    by_cases hlt : k < n
    · obtain ⟨b, off, x0, x1, x2, rfl, hb, _, hwa, d0, d1, d2⟩ := HR.out.at P.out.fr hlt
      have Hwa := hid_ hwa
      have r0 : wr.cell? ⟨R, 0, none⟩ = some (.int .i64 now) := P.out.b.cell' rfl
      have r1 : wr.cell? ⟨R, 1, none⟩ = some (.int .i64 last) := P.out.b.cell' rfl
      have r2 : wr.cell? ⟨R, 2, none⟩ = some (.slice B S.length c) := P.out.b.cell' rfl
      have hRl : R < wr.heap.size := P.out.b.lt
      clear hwa
      go_wp2_with fail
      refine (does_pl6 (P.out.keep ((Fr.refl none_ wr).alloc _)) (by omega) x0 x1 x2 Hwa.out).mono ?_
      rintro e w4 ⟨B4, c4, rfl, hD⟩
      have hle := stN_le now last x0 P.out.ck.bd.2.2.2.1
      obtain ⟨now4, hnow4⟩ : ∃ q, q = stN now last x0 := ⟨_, rfl⟩
      obtain ⟨S4, hS4⟩ : ∃ q, q = stS now S x0 x1 x2 := ⟨_, rfl⟩
      rw [← hnow4, ← hS4] at hD
      rw [← hnow4] at hle
      simp only [← hnow4, ← hS4]
      have hR4 : R < w4.heap.size := hD.b.lt
      have fz0 : w4.frozen? ⟨R, 0, none⟩ = false := hD.b.frozen 0
      have fz1 : w4.frozen? ⟨R, 1, none⟩ = false := hD.b.frozen 1
      have fz2 : w4.frozen? ⟨R, 2, none⟩ = false := hD.b.frozen 2
      have r40 : w4.cell? ⟨R, 0, none⟩ = some (.int .i64 now) := hD.b.cell' rfl
      have r41 : w4.cell? ⟨R, 1, none⟩ = some (.int .i64 last) := hD.b.cell' rfl
      have r42 : w4.cell? ⟨R, 2, none⟩ = some (.slice B S.length c) := hD.b.cell' rfl
      obtain ⟨w5, hw5⟩ : ∃ w5, w5 = ((w4.setCell ⟨R, 0, none⟩ (.int .i64 now4)).setCell ⟨R, 1, none⟩ (.int .i64 last)).setCell ⟨R, 2, none⟩ (.slice B4 S4.length c4) := ⟨_, rfl⟩
      have P5 := hid_ (hD.put hw5)
      clear hD hnow4 hS4 d0 d1 d2
      go_wp2_with fail
      rw [← hw5]
      clear hw5
      go_roundw
      case rel => exact ⟨k + 1, now4, B4, c4, S4, by omega, by go_num, P5.out⟩
      case measure => simp [intOf]; omega
    · obtain rfl : k = n := by omega
      have bd := hid_ P.out.ck.bd
      have hSl := P.out.ck.bd.2.1
      by_cases hth : th < 0 ∨ (S.length : Int) ≤ th
      · have Hth := hid_ hth
        clear hth
        go_wp2_with fail
        refine (at_ck_no P.out.ck Hth.out).mono ?_
        rintro e w4 ⟨rfl, rfl⟩
        go_wp2_with (go_at_call 10; refine (awake6 _).mono ?_; rintro e w4 ⟨rfl, hf4⟩)
        go_ret
        exact ⟨rfl, P.out.fr.then_none hf4⟩
      obtain ⟨th, rfl⟩ : ∃ q : Nat, th = q := ⟨th.toNat, by omega⟩
      obtain ⟨x, hx⟩ : ∃ x, S[th]? = some x := ⟨_, List.getElem?_eq_getElem (by omega)⟩
      have Hx := hid_ hx
      clear hx hth
      go_wp2_with fail
      refine (at_ck P.out.ck Hx.out).mono ?_
      rintro e w4 ⟨rfl, rfl⟩
      by_cases h0 : 0 < x
      · have hd : decide (0 < x) = true := by simpa using h0
        rw [hd]
        clear hd
        go_wp2_with fail
        obtain ⟨BB, hBB⟩ : ∃ b, b = wr.heap.size := ⟨_, rfl⟩
        obtain ⟨wb, hwb⟩ : ∃ wb, wb = wr.alloc (.cells #[.slice none 0 0] 42) := ⟨_, rfl⟩
        have G0 : Hid (Gd6 w wb C M R BB now now last (.slice B S.length c) (.slice none 0 0) S S [] k) := by
          have fb : Fr none_ wr wb := by rw [hwb]; exact (Fr.refl none_ wr).alloc _
          have Pb := P.out.keep fb
          exact hid_ ⟨Pb.b, Pb.ck, Pb.own, Pb.la, Pb.fr, ⟨by rw [hBB, hwb]; exact Blk.new wr _ _, World.ownsRow_nil _ _ _ _⟩, Pb.hR, Pb.hC, Pb.hM, by rw [hBB]; exact P.out.fr.size, Pb.h0, Pb.ne⟩
        simp only [← hBB]
        rw [← hwb]
        clear hwb hBB P
        refine (now_ck G0.out.ck).mono ?_
        rintro e w5 ⟨rfl, rfl⟩
        go_wp2_with fail
        refine (binAdd_ok BB none 0 [] now 0 0 0 _ G0.out.bn (by simp)).mono ?_
        rintro e w5 ⟨vb, rfl, hN5, hf5⟩
        obtain ⟨A6, c6, rfl⟩ := hN5.own.shape
        have G5 := hid_ (G0.out.stepB hf5 hN5)
        have hxn : x ≤ now := (bd.out.2.2.2.2.2 x (List.mem_of_getElem? Hx.out)).2
        clear hN5 hf5 G0
        go_wp2_with fail
        go_loopw [77] (fun i wx => ∃ (j kk : Nat) (nw : Int) (S' : List Int) (Lb : List It) (Ab : Option Addr) (cb : Nat), j ≤ m ∧ i = .int .i64 j ∧ kk ≤ k + j ∧ S'[th]? = some x ∧ Lb.length ≤ j + 1 ∧ 1 ≤ Lb.length ∧ (∀ q ∈ Lb, x ≤ q.1) ∧ Gd6 w wx C M R BB now nw last (.slice B S.length c) (.slice Ab Lb.length cb) S S' Lb kk) (fun i _ => m - (intOf i).toNat)
        case atStart => exact ⟨0, k, now, S, _, A6, c6, Nat.zero_le _, rfl, Nat.le_refl _, Hx.out, by simp, by simp, (fun q hq => by simp at hq; subst hq; exact hxn), G5.out⟩
        case round =>
          clear G5
          obtain ⟨j, kk, nw, S', Lb, Ab, cb, hj, rfl, hkk, hSx, hLl, hL1, hst, hG⟩ := hrel
          obtain ⟨wx, rfl⟩ : ∃ wx : World, wx = wr := ⟨_, rfl⟩
          have G := hid_ hG
          have HSx := hid_ hSx
          have Hst := hid_ hst
          clear hG hSx hst
          by_cases hlj : j < m
          · obtain ⟨b, off, x0, x1, x2, rfl, hb, _, hwa, d0, d1, d2⟩ := HR2.out.at G.out.fr hlj
            have Hwa := hid_ hwa
            have r0 : wx.cell? ⟨R, 0, none⟩ = some (.int .i64 now) := G.out.b.cell' rfl
            have r1 : wx.cell? ⟨R, 1, none⟩ = some (.int .i64 last) := G.out.b.cell' rfl
            have r2 : wx.cell? ⟨R, 2, none⟩ = some (.slice B S.length c) := G.out.b.cell' rfl
            have hRl : R < wx.heap.size := G.out.b.lt
            clear hwa
            by_cases hsk : x0 = 2 ∧ x1 = th
            · obtain ⟨rfl, rfl⟩ := hsk
              go_wp2
              go_roundw
              case rel => exact ⟨j + 1, kk, nw, S', Lb, Ab, cb, by omega, by go_num, by omega, HSx.out, by omega, hL1, Hst.out, G.out.keep ((Fr.refl none_ wx).alloc _)⟩
              case measure => simp [intOf]; omega
            · have hbl : (x0 == 2 && x1 == (th : Int)) = false := by
                rw [Bool.eq_false_iff]
                intro h
                simp at h
                exact hsk h
              have hkeep := stS_keep (now := nw) (a := x2) HSx.out h0 hsk
              have Hkeep := hid_ hkeep
              clear hkeep
              have G1 := hid_ (G.out.keep ((Fr.refl none_ wx).alloc (.cells #[.int .i64 x0, .int .i64 x1, .int .i64 x2] 33)))
              have hwk : ∀ K : Prop, (x0 = 2 → x1 ≠ th) := fun _ h e => hsk ⟨h, e⟩
              by_cases h2 : x0 = 2
              · subst h2
                have hx1 : (x1 == (th : Int)) = false := by simpa using hwk True rfl
                clear hsk hbl hwk
                go_wp2_with fail
                refine (free6_any C M kk now nw last B c S S' 2 x1 x2 _ G1.out.ck (by omega) Hwa.out G1.out.own hSl (fun q hq => (bd.out.2.2.2.2.2 q hq).1) bd.out.2.2.1 bd.out.2.2.2.1 G1.out.la G1.out.cne).mono ?_
                rintro e w6 ⟨vv, bb, rfl, hck6, hf6, hla6⟩
                obtain ⟨nw4, hnw4⟩ : ∃ q, q = stN nw last 2 := ⟨_, rfl⟩
                obtain ⟨S4, hS4⟩ : ∃ q, q = stS nw S' 2 x1 x2 := ⟨_, rfl⟩
                rw [← hnw4, ← hS4] at hck6
                have HS4 : Hid (S4[th]? = some x) := hid_ (by rw [hS4]; exact Hkeep.out)
                have G6 := hid_ (G1.out.stepC hf6 hck6 hla6)
                have hx4 : x ≤ nw4 := (G6.out.ck.bd.2.2.2.2.2 x (List.mem_of_getElem? HS4.out)).2
                have hol : oldS nw4 S4 ≤ x := (oldS_is S4 nw4).low x (List.mem_of_getElem? HS4.out) h0
                clear hck6 hf6 hla6 hnw4 hS4 d0 d1 d2 r0 r1 r2
                go_wp2_with fail
                refine (now_ck G6.out.ck).mono ?_
                rintro e w7 ⟨rfl, rfl⟩
                go_wp2_with fail
                refine (binAdd_ok BB Ab cb Lb nw4 0 0 0 _ G6.out.bn (by omega)).mono ?_
                rintro e w7 ⟨vb, rfl, hN7, hf7⟩
                obtain ⟨A7, c7, rfl⟩ := hN7.own.shape
                have G7 := hid_ (G6.out.stepB hf7 hN7)
                have hst7 : ∀ q ∈ Lb ++ [(nw4, 0, 0, 0)], x ≤ q.1 := by
                  intro q hq
                  rcases List.mem_append.1 hq with hq | hq
                  · exact Hst.out q hq
                  · obtain rfl : q = (nw4, 0, 0, 0) := by simpa using hq
                    exact hx4
                obtain ⟨L7, hL7⟩ : ∃ q, q = Lb ++ [(nw4, (0 : Int), (0 : Int), (0 : Int))] := ⟨_, rfl⟩
                have hl7 : L7.length = Lb.length + 1 := by rw [hL7]; simp
                rw [← hL7] at G7 hst7
                have Hst7 := hid_ hst7
                have hl7' : L7.length ≤ j + 2 := by omega
                have hl71 : 1 ≤ L7.length := by omega
                clear hN7 hf7 hst7 hL7 hl7
                go_wp2_with fail
                refine (oldest_ck G7.out.ck).mono ?_
                rintro e w8 ⟨rfl, hf8⟩
                have G8 := hid_ (G7.out.keep hf8)
                obtain ⟨rp1, rp2⟩ := ripe_none (o := oldS nw4 S4) (L := L7) (fun q hq => Int.le_trans hol (Hst7.out q hq))
                clear hf8
                go_wp2_with fail
                refine (binRipe_ok BB A7 c7 L7 (oldS nw4 S4) _ G8.out.bn (by omega)).mono ?_
                rintro e w9 ⟨Ag, cg, Ac, cc, rfl, _, hN9, hf9⟩
                rw [rp2] at hN9
                rw [rp1]
                have G9 := hid_ (G8.out.stepB hf9 hN9)
                clear hN9 hf9 rp1 rp2
                go_wp2
                go_roundw
                case rel => exact ⟨j + 1, kk + 1, nw4, S4, L7, Ac, cc, by omega, by go_num, by omega, HS4.out, by omega, hl71, Hst7.out, G9.out⟩
                case measure => simp [intOf]; omega
              · have hx0 : (x0 == 2) = false := by simpa using h2
                clear hsk hbl hwk h2
                go_wp2_with fail
                refine (free6_any C M kk now nw last B c S S' x0 x1 x2 _ G1.out.ck (by omega) Hwa.out G1.out.own hSl (fun q hq => (bd.out.2.2.2.2.2 q hq).1) bd.out.2.2.1 bd.out.2.2.2.1 G1.out.la G1.out.cne).mono ?_
                rintro e w6 ⟨vv, bb, rfl, hck6, hf6, hla6⟩
                obtain ⟨nw4, hnw4⟩ : ∃ q, q = stN nw last x0 := ⟨_, rfl⟩
                obtain ⟨S4, hS4⟩ : ∃ q, q = stS nw S' x0 x1 x2 := ⟨_, rfl⟩
                rw [← hnw4, ← hS4] at hck6
                have HS4 : Hid (S4[th]? = some x) := hid_ (by rw [hS4]; exact Hkeep.out)
                have G6 := hid_ (G1.out.stepC hf6 hck6 hla6)
                have hx4 : x ≤ nw4 := (G6.out.ck.bd.2.2.2.2.2 x (List.mem_of_getElem? HS4.out)).2
                have hol : oldS nw4 S4 ≤ x := (oldS_is S4 nw4).low x (List.mem_of_getElem? HS4.out) h0
                clear hck6 hf6 hla6 hnw4 hS4 d0 d1 d2 r0 r1 r2
                go_wp2_with fail
                refine (now_ck G6.out.ck).mono ?_
                rintro e w7 ⟨rfl, rfl⟩
                go_wp2_with fail
                refine (binAdd_ok BB Ab cb Lb nw4 0 0 0 _ G6.out.bn (by omega)).mono ?_
                rintro e w7 ⟨vb, rfl, hN7, hf7⟩
                obtain ⟨A7, c7, rfl⟩ := hN7.own.shape
                have G7 := hid_ (G6.out.stepB hf7 hN7)
                have hst7 : ∀ q ∈ Lb ++ [(nw4, 0, 0, 0)], x ≤ q.1 := by
                  intro q hq
                  rcases List.mem_append.1 hq with hq | hq
                  · exact Hst.out q hq
                  · obtain rfl : q = (nw4, 0, 0, 0) := by simpa using hq
                    exact hx4
                obtain ⟨L7, hL7⟩ : ∃ q, q = Lb ++ [(nw4, (0 : Int), (0 : Int), (0 : Int))] := ⟨_, rfl⟩
                have hl7 : L7.length = Lb.length + 1 := by rw [hL7]; simp
                rw [← hL7] at G7 hst7
                have Hst7 := hid_ hst7
                have hl7' : L7.length ≤ j + 2 := by omega
                have hl71 : 1 ≤ L7.length := by omega
                clear hN7 hf7 hst7 hL7 hl7
                go_wp2_with fail
                refine (oldest_ck G7.out.ck).mono ?_
                rintro e w8 ⟨rfl, hf8⟩
                have G8 := hid_ (G7.out.keep hf8)
                obtain ⟨rp1, rp2⟩ := ripe_none (o := oldS nw4 S4) (L := L7) (fun q hq => Int.le_trans hol (Hst7.out q hq))
                clear hf8
                go_wp2_with fail
                refine (binRipe_ok BB A7 c7 L7 (oldS nw4 S4) _ G8.out.bn (by omega)).mono ?_
                rintro e w9 ⟨Ag, cg, Ac, cc, rfl, _, hN9, hf9⟩
                rw [rp2] at hN9
                rw [rp1]
                have G9 := hid_ (G8.out.stepB hf9 hN9)
                clear hN9 hf9 rp1 rp2
                go_wp2
                go_roundw
                case rel => exact ⟨j + 1, kk + 1, nw4, S4, L7, Ac, cc, by omega, by go_num, by omega, HS4.out, by omega, hl71, Hst7.out, G9.out⟩
                case measure => simp [intOf]; omega
          · obtain rfl : j = m := by omega
            go_wp2_with fail
            refine (binLen_ok BB Ab cb Lb _ G.out.bn).mono ?_
            rintro e w6 ⟨rfl, rfl⟩
            go_wp2_with (go_at_call 10; refine (awake6 _).mono ?_; rintro e w4 ⟨rfl, hf4⟩)
            go_ret
            exact ⟨rfl, G.out.fr.then_none hf4⟩
      · have hd : decide (0 < x) = false := by simpa using h0
        rw [hd]
        clear hd
        go_wp2_with (go_at_call 10; refine (awake6 _).mono ?_; rintro e w4 ⟨rfl, hf4⟩)
        go_ret
        exact ⟨rfl, P.out.fr.then_none hf4⟩
theorem guards6_walk_i (p : Int) (wp : (Lit.int .i64 p).wf = true) (last : Int) (wl : (Lit.int .i64 last).wf = true) (A : Option Addr) (n cap : Nat) (hn : n ≤ cap) (hm : cap ≤ maxLen) (Y : Option Addr) (m cap2 : Nat) (hm1 : m ≤ cap2) (hm2 : cap2 ≤ maxLen) (th : Int) (wth : (Lit.int .i64 th).wf = true) (w : World) (hrd : Do6At w A n) (hrd2 : Do6At w Y m) (hL : Laid w) :
    Calls Tryd.prog 5 #[.int .i64 p, .int .i64 last, .slice A n cap, .slice Y m cap2, .int .i64 th] w fun e w' => e = .returned (.bool true) ∧ Fr none_ w w' := by
  obtain ⟨L, hL'⟩ := steps_of hrd
  obtain ⟨L2, hL2⟩ := steps_of hrd2
  exact guards6_walk p last A n cap L Y m cap2 L2 th w hn hm hm1 hm2 hL' hL2 hL
end Go.Proofs.YtmindkphdakflaaDoor

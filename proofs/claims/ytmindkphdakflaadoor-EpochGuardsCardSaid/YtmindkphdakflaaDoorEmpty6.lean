/- EpochEmpty' walk. Written by gen_law6.py. -/
import Derived.Test.YtmindkphdakflaaDoorRises6
import Derived.Test.YtmindkphdakflaaDoorBin3
namespace Go.Proofs.YtmindkphdakflaaDoor
open Go.RowKit
set_option maxRecDepth 100000
set_option linter.unusedVariables false

theorem stay_le (o : Int) (L : List It) : (stayOf o L).length ≤ L.length := List.length_filter_le _ _
/-- A bin beside a play. -/
theorem Bn.none_fr {w w' : World} {B : Nat} {v : Value} {L : List It} (h : Bn w B v L) (hf : Fr none_ w w') : Bn w' B v L := ⟨h.hB.fr hf id, own_none h.own hf⟩
theorem Bn.offPl {w w' : World} {C M R k B : Nat} {now last : Int} {v vb : Value} {S : List Int} {L : List It} (h : Bn w' B vb L) (p : Pl6 w w' C M R now last v S k) : ∀ b, (b = B ∨ vb.ownBlock = some b) → ¬ (b = C ∨ b = M ∨ b = R) := by
  intro b hb hh
  rcases hb with rfl | hb
  · rcases hh with rfl | rfl | rfl
    · obtain ⟨cs, hc⟩ := p.ck.blkC
      exact absurd (Blk.uniq h.hB hc).1 (by decide)
    · obtain ⟨es, cl, hm⟩ := p.ck.objM
      have := h.hB
      unfold Blk at this
      rw [this] at hm
      cases hm
    · exact absurd (Blk.uniq h.hB p.b).1 (by decide)
  · rcases hh with hh | hh | rfl
    · exact p.ck.off h.own (by decide) b hb (.inl hh)
    · exact p.ck.off h.own (by decide) b hb (.inr hh)
    · exact own_blk_ne h.own p.b (by decide) hb
theorem Bn.far {w w' : World} {B : Nat} {v : Value} {L : List It} {T : Nat → Prop} (h : Bn w B v L) (hf : Fr T w w') (hT : ∀ b, (b = B ∨ v.ownBlock = some b) → ¬ T b) : Bn w' B v L := ⟨h.hB.fr hf (hT B (.inl rfl)), own_fr h.own hf (fun k hk => hT k (.inr hk))⟩
theorem Pl6.beside {w w' w2 : World} {C M R k B : Nat} {now last : Int} {v vb : Value} {S : List Int} {L : List It} (p : Pl6 w w' C M R now last v S k) (h : Bn w' B vb L) (hge : w.heap.size ≤ B) (hf : Fr (only B) w' w2) : Pl6 w w2 C M R now last v S k := by
  have n := h.offPl p B (.inl rfl)
  have h0 := p.h0
  refine ⟨p.b.fr hf (fun e => n (.inr (.inr e.symm))), p.ck.fr hf (fun e => n (.inl e.symm)) (fun e => n (.inr (.inl e.symm))), own_fr p.own hf (fun j hj e => own_blk_ne p.own h.hB (by decide) (by rw [hj, show j = B from e])), p.la.fr hf (only_ne (by omega)), p.fr.then_only hf (.inr hge), p.hR, p.hC, p.hM, h0⟩
theorem old_zero {now : Int} {S : List Int} (h : ∀ x ∈ S, x = 0) : oldS now S = now :=
  (oldS_is S now).uniq ⟨Int.le_refl _, fun x hx h0 => by rw [h x hx] at h0; omega, .inl rfl⟩

set_option maxHeartbeats 4000000 in
theorem empty6_walk (p last : Int) (A : Option Addr) (n cap : Nat) (L : List St6) (w : World) (hn : n ≤ cap) (hm : cap ≤ maxLen) (hrd : StReads w A n L) (hL : Laid w) :
    Calls Tryd.prog 6 #[.int .i64 p, .int .i64 last, .slice A n cap] w fun e w' => e = .returned (.bool true) ∧ Fr none_ w w' := by
  unfold maxLen at hm
  by_cases hbad : p < 1 ∨ 64 < p ∨ last < 1 ∨ 1099511627776 < last
  · have Hb := hid_ hbad
    clear hbad
    go_enter Tryd.func6, Tryd.ntmps6
    go_wp2_with fail
    refine (clkNew_no p last w Hb.out).mono ?_
    rintro e w1 ⟨rfl, rfl⟩
    go_wp2_with (go_at_call 10; refine (awake6 _).mono ?_; rintro e w3 ⟨rfl, hf3⟩)
    go_ret
    exact ⟨rfl, hf3⟩
  obtain ⟨p, rfl⟩ : ∃ q : Nat, p = q := ⟨p.toNat, by omega⟩
  have g1 : 1 ≤ p := by omega
  have g2 : p ≤ 64 := by omega
  have g3 : 1 ≤ last := by omega
  have g4 : last ≤ 1099511627776 := by omega
  have HL := hid_ hL
  have HR := hid_ hrd
  clear hbad hL hrd
  by_cases hn2 : 200 < n
  · go_enter Tryd.func6, Tryd.ntmps6
    go_wp2_with fail
    refine (clkNew_ok p last w (by omega) (by omega) g3 g4).mono ?_
    rintro e w1 ⟨C, M, rfl, h1, hf1, hC, hM⟩
    have F1 := hid_ hf1
    clear h1 hf1
    go_wp2_with (go_at_call 10; refine (awake6 _).mono ?_; rintro e w3 ⟨rfl, hf3⟩)
    go_ret
    exact ⟨rfl, F1.out.then_none hf3⟩
  go_enter Tryd.func6, Tryd.ntmps6
  go_wp2_with fail
  refine (clkNew_ok p last w (by omega) (by omega) g3 g4).mono ?_
  rintro e w1 ⟨C, M, rfl, h1, hf1, hC, hM⟩
  have K1 := hid_ h1
  have F1 := hid_ hf1
  clear h1 hf1
  go_wp2_with fail
  refine (rnew_ok p last _ g1 g2 g3 g4).mono ?_
  rintro e w2 ⟨A2, c2, rfl, ho2, hf2⟩
  obtain ⟨w3, hw3⟩ : ∃ w3, w3 = w2.alloc (rclkB 1 last (.slice A2 (List.replicate p (0 : Int)).length c2)) := ⟨_, rfl⟩
  have P3 := hid_ (pl6_start K1.out F1.out hC hM ho2 hf2 HL.out hw3 g1 g2 g3 g4)
  obtain ⟨S0, hS0⟩ : ∃ S, S = List.replicate p (0 : Int) := ⟨_, rfl⟩
  rw [← hS0] at hw3 P3
  simp only [← hS0]
  have HS0 : Hid (S0.length = p) := hid_ (by rw [hS0]; simp)
  clear ho2 hf2 hS0
  go_wp2_with fail
  change Code.wp _ _ _ _ ((w2.alloc (rclkB 1 last (.slice A2 S0.length c2))).alloc (.cells #[.slice none 0 0] 42))
  rw [← hw3]
  have hsz : w3.heap.size = w2.heap.size + 1 := by rw [hw3]; simp
  have HSZ := hid_ hsz
  clear hsz
  clear hw3 K1 F1
  obtain ⟨R, hR⟩ : ∃ R, R = w2.heap.size := ⟨_, rfl⟩
  rw [← hR] at P3 HSZ
  simp only [← hR]
  clear hR
  obtain ⟨BB, hBB⟩ : ∃ b, b = R + 1 := ⟨_, rfl⟩
  have N3 : Hid (Bn (w3.alloc (.cells #[.slice none 0 0] 42)) BB (.slice none 0 0) []) := hid_ ⟨by rw [hBB, ← HSZ.out]; exact Blk.new w3 _ _, World.ownsRow_nil _ _ _ _⟩
  have P4 := hid_ (P3.out.keep ((Fr.refl none_ w3).alloc (.cells #[.slice none 0 0] 42)))
  have hBge : w.heap.size ≤ BB := by rw [hBB, ← HSZ.out]; exact P3.out.fr.size
  simp only [← hBB]
  clear hBB
  go_loopw [40] (fun i wr => ∃ (k : Nat) (now : Int) (B : Option Addr) (c : Nat) (S : List Int) (Lb : List It) (Ab : Option Addr) (cb : Nat), k ≤ n ∧ i = .int .i64 k ∧ S.length = p ∧ Lb.length = k ∧ (∀ q ∈ Lb, q.1 ≤ now) ∧ Bn wr BB (.slice Ab Lb.length cb) Lb ∧ Pl6 w wr C M R now last (.slice B S.length c) S k) (fun i _ => n - (intOf i).toNat)
  case atStart => exact ⟨0, _, _, _, _, [], none, 0, Nat.zero_le _, rfl, HS0.out, rfl, (fun q hq => by cases hq), N3.out, P4.out⟩
  case round =>
    obtain ⟨k, now, B, c, S, Lb, Ab, cb, hk, rfl, hSp, hLb, hst, hN, hP⟩ := hrel
    have P := hid_ hP
    have HSp := hid_ hSp
    have N := hid_ hN
    have HLb := hid_ hLb
    have Hst := hid_ hst
    clear hP hSp hN hLb hst
    by_cases hlt : k < n
    · obtain ⟨b, off, x0, x1, x2, rfl, hb, _, hwa, d0, d1, d2⟩ := HR.out.at P.out.fr hlt
      have Hwa := hid_ hwa
      have r0 : wr.cell? ⟨R, 0, none⟩ = some (.int .i64 now) := P.out.b.cell' rfl
      have r1 : wr.cell? ⟨R, 1, none⟩ = some (.int .i64 last) := P.out.b.cell' rfl
      have r2 : wr.cell? ⟨R, 2, none⟩ = some (.slice B S.length c) := P.out.b.cell' rfl
      have hRl : R < wr.heap.size := P.out.b.lt
      clear hwa
      go_wp2_with fail
      refine (does_pl6 (P.out.keep ((Fr.refl none_ wr).alloc _)) (by omega) x0 x1 x2 Hwa.out).mono ?_
      rintro e w4 ⟨B4, c4, rfl, hD⟩
      have hlen := stS_len now S x0 x1 x2
      have hle := stN_le now last x0 P.out.ck.bd.2.2.2.1
      obtain ⟨now4, hnow4⟩ : ∃ q, q = stN now last x0 := ⟨_, rfl⟩
      obtain ⟨S4, hS4⟩ : ∃ q, q = stS now S x0 x1 x2 := ⟨_, rfl⟩
      rw [← hnow4, ← hS4] at hD
      rw [← hnow4] at hle
      rw [← hS4, HSp.out] at hlen
      have HS4 := hid_ hlen
      clear hlen
      simp only [← hnow4, ← hS4]
      have hR4 : R < w4.heap.size := hD.b.lt
      have fz0 : w4.frozen? ⟨R, 0, none⟩ = false := hD.b.frozen 0
      have fz1 : w4.frozen? ⟨R, 1, none⟩ = false := hD.b.frozen 1
      have fz2 : w4.frozen? ⟨R, 2, none⟩ = false := hD.b.frozen 2
      have r40 : w4.cell? ⟨R, 0, none⟩ = some (.int .i64 now) := hD.b.cell' rfl
      have r41 : w4.cell? ⟨R, 1, none⟩ = some (.int .i64 last) := hD.b.cell' rfl
      have r42 : w4.cell? ⟨R, 2, none⟩ = some (.slice B S.length c) := hD.b.cell' rfl
      obtain ⟨w5, hw5⟩ : ∃ w5, w5 = ((w4.setCell ⟨R, 0, none⟩ (.int .i64 now4)).setCell ⟨R, 1, none⟩ (.int .i64 last)).setCell ⟨R, 2, none⟩ (.slice B4 S4.length c4) := ⟨_, rfl⟩
      have P5 := hid_ (hD.put hw5)
      have N4 := hid_ (N.out.none_fr ((Fr.refl none_ wr).alloc (.cells #[.int .i64 x0, .int .i64 x1, .int .i64 x2] 33)))
      have N5 := hid_ (N4.out.far (hD.frPut hw5) (N4.out.offPl (P.out.keep ((Fr.refl none_ wr).alloc _))))
      obtain ⟨o1, o2⟩ := P5.out.ck.oldB
      have o3 := P5.out.ck.bd.2.2.2.1
      have Hle := hid_ hle
      clear hle
      clear hD hnow4 hS4 d0 d1 d2
      go_wp2_with fail
      rw [← hw5]
      clear hw5
      refine (now_ck P5.out.ck).mono ?_
      rintro e w6 ⟨rfl, rfl⟩
      go_wp2_with fail
      refine (binAdd_ok BB Ab cb Lb now4 0 0 0 _ N5.out (by have := HLb.out; omega)).mono ?_
      rintro e w6 ⟨vb, rfl, hN6, hf6⟩
      obtain ⟨A6, c6, rfl⟩ := hN6.own.shape
      have P6 := hid_ (P5.out.beside N5.out hBge hf6)
      have N6 := hid_ hN6
      clear hN6 hf6
      go_wp2
      go_roundw
      case rel =>
        refine ⟨k + 1, now4, B4, c4, S4, _, A6, c6, by omega, by go_num, HS4.out, by simp [HLb.out], ?_, N6.out, P6.out⟩
        intro q hq
        rcases List.mem_append.1 hq with hq | hq
        · have := Hst.out q hq
          have := Hle.out
          omega
        · obtain rfl : q = (now4, 0, 0, 0) := by simpa using hq
          exact Int.le_refl _
      case measure => simp [intOf]; omega
    · obtain rfl : k = n := by omega
      have hnb := P.out.ck.bd.2.2.1
      have hLbl : Lb.length ≤ 200 := by have := HLb.out; omega
      have HckL := hid_ (show w.heap.size ≤ C ∧ w.heap.size ≤ M from ⟨P.out.hC, P.out.hM⟩)
      have N0 := hid_ N.out
      have offb : ∀ b, (b = BB ∨ (Value.slice Ab Lb.length cb).ownBlock = some b) → ¬ either C M b := fun b hb e => N.out.offPl P.out b hb (e.elim .inl (fun e => .inr (.inl e)))
      have Off := hid_ offb
      clear offb
      go_wp2_with fail
      go_loopw [57] (fun i wx => ∃ (j kk : Nat) (S' : List Int), j ≤ p ∧ i = .int .i64 j ∧ S'.length = p ∧ (∀ q : Nat, q < j → S'[q]? = some 0) ∧ kk ≤ k + j ∧ Ck wx C M now last S' kk ∧ Bn wx BB (.slice Ab Lb.length cb) Lb ∧ Fr none_ w wx) (fun i _ => p - (intOf i).toNat)
      case atStart => exact ⟨0, k, S, Nat.zero_le _, rfl, HSp.out, (fun q hq => absurd hq (by omega)), Nat.le_refl _, P.out.ck, N.out, P.out.fr⟩
      case round =>
        clear P N
        obtain ⟨j, kk, S', hj, rfl, hSl, hz, hkk, hck, hbn, hfr⟩ := hrel
        obtain ⟨wx, rfl⟩ : ∃ wx : World, wx = wr := ⟨_, rfl⟩
        have K := hid_ hck
        have NB := hid_ hbn
        have FX := hid_ hfr
        have HZ := hid_ hz
        have HSl := hid_ hSl
        clear hck hbn hfr hz hSl
        by_cases hlj : j < p
        · obtain ⟨x, hx⟩ : ∃ x, S'[j]? = some x := ⟨_, List.getElem?_eq_getElem (by rw [HSl.out]; exact hlj)⟩
          have Hx := hid_ hx
          have hx0 := (K.out.bd.2.2.2.2.2 x (List.mem_of_getElem? hx)).1
          clear hx
          go_wp2_with fail
          refine (at_ck K.out Hx.out).mono ?_
          rintro e w8 ⟨rfl, rfl⟩
          by_cases h0 : 0 < x
          · have hd : decide (0 < x) = true := by simpa using h0
            rw [hd]
            clear hd
            have hlc : leaveC S' j = 0 := by
              have hg : S'.getD (j : Int).toNat 0 = x := by simp [List.getD, Hx.out]
              unfold leaveC
              rw [if_neg (by have := HSl.out; omega), hg, if_neg (by omega)]
            have hls : leaveS S' j = S'.set j 0 := by unfold leaveS; rw [hlc, if_pos rfl]; simp
            have Hls := hid_ hls
            have Hlc := hid_ hlc
            clear hls hlc
            go_wp2_with fail
            refine (leave_ck K.out j).mono ?_
            rw [Hlc.out, Hls.out]
            rintro e w9 ⟨rfl, hk9, hf9⟩
            have K9 := hid_ hk9
            have NB9 := hid_ (NB.out.far hf9 Off.out)
            have F9 := hid_ (FX.out.trans hf9 (fun _ _ e => e) (fun i hi e => by have := HckL.out; rcases e with e | e <;> omega))
            rw [errOf_zero]
            clear hk9 hf9
            go_wp2
            go_roundw
            case rel =>
              refine ⟨j + 1, kk + 1, S'.set j 0, by omega, by go_num, by simp [HSl.out], fun q hq => ?_, by omega, K9.out, NB9.out, F9.out⟩
              rw [List.getElem?_set]
              have := HSl.out
              by_cases e : j = q
              · subst e
                simp
                omega
              · rw [if_neg e]
                exact HZ.out q (by omega)
            case measure => simp [intOf]; omega
          · have hd : decide (0 < x) = false := by simpa using h0
            rw [hd]
            clear hd
            go_wp2
            go_roundw
            case rel =>
              refine ⟨j + 1, kk, S', by omega, by go_num, HSl.out, fun q hq => ?_, by omega, K.out, NB.out, FX.out⟩
              by_cases e : j = q
              · subst e
                rw [Hx.out]
                congr 1
                omega
              · exact HZ.out q (by omega)
            case measure => simp [intOf]; omega
        · obtain rfl : j = p := by omega
          have hold : oldS now S' = now := old_zero (fun x hx => by
            obtain ⟨i, hi, he⟩ := List.mem_iff_getElem.1 hx
            have := HZ.out i (by rw [← HSl.out]; exact hi)
            rw [List.getElem?_eq_getElem hi, he] at this
            exact Option.some.inj this)
          have Hold := hid_ hold
          clear hold
          go_wp2_with fail
          refine (oldest_ck K.out).mono ?_
          rw [Hold.out]
          rintro e w8 ⟨rfl, hf8⟩
          have K8 := hid_ (K.out.keep hf8)
          have NB8 := hid_ (NB.out.none_fr hf8)
          have F8 := hid_ (FX.out.then_none hf8)
          clear hf8
          go_wp2_with fail
          refine (now_ck K8.out).mono ?_
          rintro e w9 ⟨rfl, rfl⟩
          go_wp2_with fail
          refine (binItems_ok BB Ab cb Lb _ NB8.out (by have := HLb.out; omega)).mono ?_
          rintro e w9 ⟨Ai, ci, rfl, hoi, hf9⟩
          have K9 := hid_ (K8.out.keep hf9)
          have NB9 := hid_ (NB8.out.none_fr hf9)
          have F9 := hid_ (F8.out.then_none hf9)
          have I9 := hid_ hoi
          clear hoi hf9
          go_wp2_with fail
          go_loopw [82] (fun i wy => ∃ q : Nat, q ≤ Lb.length ∧ i = .int .i64 q ∧ Fr none_ w9 wy) (fun i _ => Lb.length - (intOf i).toNat)
          case atStart => exact ⟨0, Nat.zero_le _, rfl, Fr.refl _ _⟩
          case round =>
            obtain ⟨q, hq, rfl, hfy⟩ := hrel
            obtain ⟨wy, rfl⟩ : ∃ wy : World, wy = wr := ⟨_, rfl⟩
            have FY := hid_ hfy
            clear hfy
            by_cases hlq : q < Lb.length
            · obtain ⟨it, hit⟩ : ∃ it, Lb[q]? = some it := ⟨_, List.getElem?_eq_getElem hlq⟩
              obtain ⟨g1, rfl, hg1, a0, a1, a2, a3⟩ := it_cell (own_none I9.out FY.out) hit
              have hle := Hst.out it (List.mem_of_getElem? hit)
              clear hit
              obtain ⟨wz, hwz⟩ : ∃ wz, wz = wy.alloc (.cells #[.int .i64 it.1, .int .i64 it.2.1, .int .i64 it.2.2.1, .int .i64 it.2.2.2] 47) := ⟨_, rfl⟩
              have FZ : Hid (Fr none_ w9 wz) := hid_ (by rw [hwz]; exact FY.out.alloc _)
              have XZ : Hid (Blk wz wy.heap.size 47 #[.int .i64 it.1, .int .i64 it.2.1, .int .i64 it.2.2.1, .int .i64 it.2.2.2]) := hid_ (by rw [hwz]; exact Blk.new wy _ _)
              have z0 : wz.cell? ⟨wy.heap.size, 0, none⟩ = some (.int .i64 it.1) := XZ.out.cell' rfl
              go_wp2_with fail
              change Code.wp _ _ _ _ (wy.alloc (.cells #[.int .i64 it.1, .int .i64 it.2.1, .int .i64 it.2.2.1, .int .i64 it.2.2.2] 47))
              rw [← hwz]
              clear hwz a0 a1 a2 a3
              go_region_held3 (fun w' => w'.cell? ⟨wy.heap.size, 0, none⟩ = some (.int .i64 it.1)) (first | exact z0) (first | (go_at_call 12; refine (now_ck (K9.out.keep (FZ.out.drew))).mono ?_; rintro e wq ⟨rfl, rfl⟩))
              clear z0
              go_wp2
              go_roundw
              case rel => exact ⟨q + 1, by omega, by go_num, FZ.out.drew⟩
              case measure => simp [intOf]; omega
            · obtain rfl : q = Lb.length := by omega
              have KY := hid_ (K9.out.keep FY.out)
              have NBY := hid_ (NB9.out.none_fr FY.out)
              have FYY := hid_ (F9.out.then_none FY.out)
              clear FY K9 NB9 F9 I9
              go_wp2_with fail
              refine (oldest_ck KY.out).mono ?_
              rw [Hold.out]
              rintro e wa ⟨rfl, hfa⟩
              have Ka := hid_ (KY.out.keep hfa)
              have NBa := hid_ (NBY.out.none_fr hfa)
              have Fa := hid_ (FYY.out.then_none hfa)
              clear hfa
              go_wp2_with fail
              refine (binRipe_ok BB Ab cb Lb now _ NBa.out (by have := HLb.out; omega)).mono ?_
              rintro e wb ⟨Ag, cg, Ac, cc, rfl, _, hNb, hfb⟩
              have Kb := hid_ (Ka.out.fr hfb (fun e => Off.out BB (.inl rfl) (.inl e.symm)) (fun e => Off.out BB (.inl rfl) (.inr e.symm)))
              have NBb := hid_ hNb
              have Fb := hid_ (Fa.out.then_only hfb (.inr hBge))
              clear hNb hfb
              go_wp2_with fail
              have hsl := stay_le now Lb
              refine (binItems_ok BB Ac cc (stayOf now Lb) _ NBb.out (by have := HLb.out; omega)).mono ?_
              rintro e wc ⟨Ai2, ci2, rfl, hoi, hfc⟩
              have Kc := hid_ (Kb.out.keep hfc)
              have Fc := hid_ (Fb.out.then_none hfc)
              have Ic := hid_ hoi
              clear hoi hfc
              have hl3 : (stayOf now Lb).length ≤ 1000 := by have := HLb.out; omega
              go_wp2_with fail
              go_loopw [97] (fun i wy => ∃ q : Nat, q ≤ (stayOf now Lb).length ∧ i = .int .i64 q ∧ Fr none_ wc wy) (fun i _ => (stayOf now Lb).length - (intOf i).toNat)
              case atStart => exact ⟨0, Nat.zero_le _, rfl, Fr.refl _ _⟩
              case round =>
                obtain ⟨q, hq, rfl, hfy⟩ := hrel
                obtain ⟨wy, rfl⟩ : ∃ wy : World, wy = wr := ⟨_, rfl⟩
                have FY := hid_ hfy
                clear hfy
                by_cases hlq : q < (stayOf now Lb).length
                · obtain ⟨it, hit⟩ : ∃ it, (stayOf now Lb)[q]? = some it := ⟨_, List.getElem?_eq_getElem hlq⟩
                  obtain ⟨g1, rfl, hg1, a0, a1, a2, a3⟩ := it_cell (own_none Ic.out FY.out) hit
                  have heq : it.1 = now := by
                    have hm := List.mem_of_getElem? hit
                    unfold stayOf at hm
                    obtain ⟨h1, h2⟩ := List.mem_filter.1 hm
                    have := Hst.out it h1
                    simp at h2
                    omega
                  rw [heq] at a0
                  clear hit heq
                  obtain ⟨wz, hwz⟩ : ∃ wz, wz = wy.alloc (.cells #[.int .i64 now, .int .i64 it.2.1, .int .i64 it.2.2.1, .int .i64 it.2.2.2] 47) := ⟨_, rfl⟩
                  have FZ : Hid (Fr none_ wc wz) := hid_ (by rw [hwz]; exact FY.out.alloc _)
                  have XZ : Hid (Blk wz wy.heap.size 47 #[.int .i64 now, .int .i64 it.2.1, .int .i64 it.2.2.1, .int .i64 it.2.2.2]) := hid_ (by rw [hwz]; exact Blk.new wy _ _)
                  have z0 : wz.cell? ⟨wy.heap.size, 0, none⟩ = some (.int .i64 now) := XZ.out.cell' rfl
                  go_wp2_with fail
                  change Code.wp _ _ _ _ (wy.alloc (.cells #[.int .i64 now, .int .i64 it.2.1, .int .i64 it.2.2.1, .int .i64 it.2.2.2] 47))
                  rw [← hwz]
                  clear hwz a0 a1 a2 a3
                  go_region_held3 (fun w' => w'.cell? ⟨wy.heap.size, 0, none⟩ = some (.int .i64 now)) (first | exact z0) (first | (go_at_call 12; refine (now_ck (Kc.out.keep (FZ.out.drew))).mono ?_; rintro e wq ⟨rfl, rfl⟩))
                  clear z0
                  go_wp2
                  go_roundw
                  case rel => exact ⟨q + 1, by omega, by go_num, FZ.out.drew⟩
                  case measure => simp [intOf]; omega
                · obtain rfl : q = (stayOf now Lb).length := by omega
                  go_wp2_with (go_at_call 10; refine (awake6 _).mono ?_; rintro e wd ⟨rfl, hfd⟩)
                  go_ret
                  exact ⟨rfl, (Fc.out.then_none FY.out).then_none hfd⟩
theorem empty6_walk_i (p : Int) (wp : (Lit.int .i64 p).wf = true) (last : Int) (wl : (Lit.int .i64 last).wf = true) (A : Option Addr) (n cap : Nat) (hn : n ≤ cap) (hm : cap ≤ maxLen) (w : World) (hrd : Do6At w A n) (hL : Laid w) :
    Calls Tryd.prog 6 #[.int .i64 p, .int .i64 last, .slice A n cap] w fun e w' => e = .returned (.bool true) ∧ Fr none_ w w' := by
  obtain ⟨L, hL'⟩ := steps_of hrd
  exact empty6_walk p last A n cap L w hn hm hL' hL
end Go.Proofs.YtmindkphdakflaaDoor

/- EpochCopies' walk. Written by gen_copies6.py. -/
import Derived.Test.YtmindkphdakflaaDoorRises6
import Derived.Test.YtmindkphdakflaaDoorCopy6
import Derived.Deep.RegionLaw
namespace Go.Proofs.YtmindkphdakflaaDoor
open Go.RowKit
set_option maxRecDepth 100000
set_option linter.unusedVariables false

def three (C M R : Nat) : Nat → Prop := fun b => b = C ∨ b = M ∨ b = R
theorem Pl6.far {w w' w2 : World} {C M R k : Nat} {now last : Int} {v : Value} {S : List Int} {T : Nat → Prop} (h : Pl6 w w' C M R now last v S k) (hf : Fr T w' w2) (hT : ∀ b, T b → w.heap.size ≤ b ∧ ¬ three C M R b ∧ ¬ v.ownBlock = some b) : Pl6 w w2 C M R now last v S k := by
  have h0 := h.h0
  refine ⟨h.b.fr hf (fun e => (hT R e).2.1 (.inr (.inr rfl))), h.ck.fr hf (fun e => (hT C e).2.1 (.inl rfl)) (fun e => (hT M e).2.1 (.inr (.inl rfl))), own_fr h.own hf (fun j hj e => (hT j e).2.2 hj), h.la.fr hf (fun e => by have := (hT 0 e).1; omega), h.fr.trans hf (fun _ _ e => e) (fun i hi e => by have := (hT i e).1; omega), h.hR, h.hC, h.hM, h0⟩
theorem StReads.from_ {w : World} {A : Option Addr} {n k cap : Nat} {L : List St6} (h : StReads w A n L) (hk : k ≤ n) (hc : n ≤ cap) : StReads w (if cap = k then A else A.map (·.add (k * 3))) (n - k) (L.drop k) := by
  refine ⟨by rw [List.length_drop, h.1], fun hn => ?_⟩
  obtain ⟨b, off, rfl, hb, hx⟩ := h.2 (by omega)
  rw [if_neg (by omega)]
  refine ⟨b, off + k * 3, by rw [Option.map_some, add_lit], hb, fun j p hp => ?_⟩
  have e : off + k * 3 + j * 3 = off + (k + j) * 3 := by omega
  rw [e]
  exact hx (k + j) p (by rw [← hp, List.getElem?_drop])
/-- Two clocks, and the document's two, at a time. -/
structure Two6 (w w' : World) (C M R C2 M2 Q : Nat) (now now2 last : Int) (v v2 : Value) (S S2 : List Int) (k k2 : Nat) : Prop where
  a : Pl6 w w' C M R now last v S k
  c : Pl6 w w' C2 M2 Q now2 last v2 S2 k2
  n : ∀ b, three C M R b → ¬ three C2 M2 Q b
section
variable {w w' w2 w9 : World} {C M R C2 M2 Q k k2 k3 : Nat} {now now2 now3 last : Int} {v v2 v3 : Value} {S S2 S3 : List Int}
theorem Two6.keep (h : Two6 w w' C M R C2 M2 Q now now2 last v v2 S S2 k k2) (hf : Fr none_ w' w2) : Two6 w w2 C M R C2 M2 Q now now2 last v v2 S S2 k k2 := ⟨h.a.keep hf, h.c.keep hf, h.n⟩
theorem Two6.swap (h : Two6 w w' C M R C2 M2 Q now now2 last v v2 S S2 k k2) : Two6 w w' C2 M2 Q C M R now2 now last v2 v S2 S k2 k := ⟨h.c, h.a, fun b e e2 => h.n b e2 e⟩
/-- A step of the first: the second is as it was. -/
theorem Two6.step (h : Two6 w w' C M R C2 M2 Q now now2 last v v2 S S2 k k2) (hD : Did6 w w' w2 C M R now last v now3 v3 S3 k3) (hw : w9 = ((w2.setCell ⟨R, 0, none⟩ (.int .i64 now3)).setCell ⟨R, 1, none⟩ (.int .i64 last)).setCell ⟨R, 2, none⟩ v3) :
    Two6 w w9 C M R C2 M2 Q now3 now2 last v3 v2 S3 S2 k3 k2 := by
  refine ⟨hD.put hw, h.c.far (hD.frPut hw) (fun b e => ⟨?_, h.n b e, fun hb => ?_⟩), h.n⟩
  · have := h.a.hC
    have := h.a.hM
    have := h.a.hR
    rcases e with e | e | e <;> omega
  · rcases e with e | e | e
    · exact h.a.ck.off h.c.own (by decide) b hb (.inl e)
    · exact h.a.ck.off h.c.own (by decide) b hb (.inr e)
    · subst e
      exact own_blk_ne h.c.own h.a.b (by decide) hb
end

set_option maxHeartbeats 8000000 in
theorem copies6_walk (p last : Int) (A : Option Addr) (n cap : Nat) (L : List St6) (hc : n ≤ cap) (hm : cap ≤ maxLen) (gv : Nat) (hgv : gv < 256) (w : World) (hrd : StReads w A n L) (hL : Laid w) :
    Calls Tryd.prog 8 #[.int .i64 p, .int .i64 last, .slice A n cap, .int .u8 gv] w fun e w' => e = .returned (.bool true) ∧ Fr none_ w w' := by
  unfold maxLen at hm
  by_cases hn : 200 < n
  · go_enter Tryd.func8, Tryd.ntmps8
    go_wp2_with (go_at_call 10; refine (awake6 _).mono ?_; rintro e w1 ⟨rfl, hf1⟩)
    go_ret
    exact ⟨rfl, hf1⟩
  by_cases hbad : p < 1 ∨ 64 < p ∨ last < 1 ∨ 1099511627776 < last
  · have Hb := hid_ hbad
    clear hbad
    go_enter Tryd.func8, Tryd.ntmps8
    go_wp2_with fail
    refine (clkNew_no p last w Hb.out).mono ?_
    rintro e w1 ⟨rfl, rfl⟩
    go_wp2_with fail
    refine (rnew_no p last w Hb.out).mono ?_
    rintro e w2 ⟨rfl, hf2⟩
    have F2 := hid_ (hf2.alloc (rclkB 0 0 (.slice none 0 0)))
    clear hf2
    go_wp2_with fail
    refine (clkCopy_nil6 _).mono ?_
    rintro e w3 ⟨rfl, rfl⟩
    go_wp2_with (go_at_call 10; refine (awake6 _).mono ?_; rintro e w3 ⟨rfl, hf3⟩)
    go_ret
    exact ⟨rfl, F2.out.then_none hf3⟩
  obtain ⟨p, rfl⟩ : ∃ q : Nat, p = q := ⟨p.toNat, by omega⟩
  have g1 : 1 ≤ p := by omega
  have g2 : p ≤ 64 := by omega
  have g3 : 1 ≤ last := by omega
  have g4 : last ≤ 1099511627776 := by omega
  have HL := hid_ hL
  have HR := hid_ hrd
  clear hbad hL hrd
  obtain ⟨m, hmd⟩ : ∃ m, m = gv % (n + 1) := ⟨_, rfl⟩
  have hmn : m ≤ n := by rw [hmd]; have := Nat.mod_lt gv (show 0 < n + 1 by omega); omega
  have hmI : (gv : Int) % ((n : Int) + 1) = (m : Int) := by rw [hmd]; push_cast; rfl
  have hbd : 0 ≤ (gv : Int) % ((n : Int) + 1) ∧ (gv : Int) % ((n : Int) + 1) ≤ (cap : Int) := by omega
  have HMI := hid_ hmI
  have HMD := hid_ hmd
  clear hmI hmd
  go_enter Tryd.func8, Tryd.ntmps8
  go_wp2_with fail
  refine (clkNew_ok p last w (by omega) (by omega) g3 g4).mono ?_
  rintro e w1 ⟨C, M, rfl, h1, hf1, hC, hM⟩
  have K1 := hid_ h1
  have F1 := hid_ hf1
  clear h1 hf1
  go_wp2_with fail
  refine (rnew_ok p last _ g1 g2 g3 g4).mono ?_
  rintro e w2 ⟨A2, c2, rfl, ho2, hf2⟩
  obtain ⟨w3, hw3⟩ : ∃ w3, w3 = w2.alloc (rclkB 1 last (.slice A2 (List.replicate p (0 : Int)).length c2)) := ⟨_, rfl⟩
  have P3 := hid_ (pl6_start K1.out F1.out hC hM ho2 hf2 HL.out hw3 g1 g2 g3 g4)
  obtain ⟨S0, hS0⟩ : ∃ S, S = List.replicate p (0 : Int) := ⟨_, rfl⟩
  rw [← hS0] at hw3 P3
  simp only [← hS0]
  clear ho2 hf2 hS0
  go_wp2_with fail
  change Code.wp _ _ _ _ (w2.alloc (rclkB 1 last (.slice A2 S0.length c2)))
  rw [← hw3]
  clear hw3 K1 F1
  obtain ⟨R, hR⟩ : ∃ R, R = w2.heap.size := ⟨_, rfl⟩
  rw [← hR] at P3
  simp only [← hR]
  clear hR
  simp only [HMI.out, ← HMD.out]
  clear hbd
  go_loopw [63] (fun i wr => ∃ (k : Nat) (now : Int) (B : Option Addr) (c : Nat) (S : List Int), k ≤ m ∧ i = .int .i64 k ∧ Pl6 w wr C M R now last (.slice B S.length c) S k) (fun i _ => m - (intOf i).toNat)
  case atStart => exact ⟨0, _, _, _, _, Nat.zero_le _, rfl, P3.out⟩
  case round =>
    obtain ⟨k, now, B, cc, S, hk, rfl, hP⟩ := hrel
    have P := hid_ hP
    clear hP
    by_cases hlt : k < m
    · obtain ⟨b, off, x0, x1, x2, rfl, hb, _, hwa, d0, d1, d2⟩ := HR.out.at P.out.fr (show k < n by omega)
      have Hwa := hid_ hwa
      have r0 : wr.cell? ⟨R, 0, none⟩ = some (.int .i64 now) := P.out.b.cell' rfl
      have r1 : wr.cell? ⟨R, 1, none⟩ = some (.int .i64 last) := P.out.b.cell' rfl
      have r2 : wr.cell? ⟨R, 2, none⟩ = some (.slice B S.length cc) := P.out.b.cell' rfl
      have hRl : R < wr.heap.size := P.out.b.lt
      clear hwa
      go_wp2_with fail
      refine (does_pl6 (P.out.keep ((Fr.refl none_ wr).alloc _)) (by omega) x0 x1 x2 Hwa.out).mono ?_
      rintro e w4 ⟨B4, c4, rfl, hD⟩
      obtain ⟨now4, hnow4⟩ : ∃ q, q = stN now last x0 := ⟨_, rfl⟩
      obtain ⟨S4, hS4⟩ : ∃ q, q = stS now S x0 x1 x2 := ⟨_, rfl⟩
      rw [← hnow4, ← hS4] at hD
      simp only [← hnow4, ← hS4]
      have hR4 : R < w4.heap.size := hD.b.lt
      have fz0 : w4.frozen? ⟨R, 0, none⟩ = false := hD.b.frozen 0
      have fz1 : w4.frozen? ⟨R, 1, none⟩ = false := hD.b.frozen 1
      have fz2 : w4.frozen? ⟨R, 2, none⟩ = false := hD.b.frozen 2
      have r40 : w4.cell? ⟨R, 0, none⟩ = some (.int .i64 now) := hD.b.cell' rfl
      have r41 : w4.cell? ⟨R, 1, none⟩ = some (.int .i64 last) := hD.b.cell' rfl
      have r42 : w4.cell? ⟨R, 2, none⟩ = some (.slice B S.length cc) := hD.b.cell' rfl
      have P5 := hid_ (hD.put rfl)
      clear hD hnow4 hS4 d0 d1 d2
      go_wp2
      go_roundw
      case rel => exact ⟨k + 1, now4, B4, c4, S4, by omega, by go_num, P5.out⟩
      case measure => simp [intOf]; omega
    · obtain rfl : k = m := by omega
      have r0 : wr.cell? ⟨R, 0, none⟩ = some (.int .i64 now) := P.out.b.cell' rfl
      have r1 : wr.cell? ⟨R, 1, none⟩ = some (.int .i64 last) := P.out.b.cell' rfl
      have r2 : wr.cell? ⟨R, 2, none⟩ = some (.slice B S.length cc) := P.out.b.cell' rfl
      have hRl : R < wr.heap.size := P.out.b.lt
      go_wp2_with fail
      go_region_held3 (fun w' => w'.cell? ⟨R, 0, none⟩ = some (.int .i64 now) ∧ w'.cell? ⟨R, 1, none⟩ = some (.int .i64 last) ∧ w'.cell? ⟨R, 2, none⟩ = some (.slice B S.length cc))
        (first | exact ⟨r0, r1, r2⟩ | (have T := P4.out; exact ⟨T.b.cell' rfl, T.b.cell' rfl, T.b.cell' rfl⟩) | (have T := P4.out.keep ((Fr.refl none_ _).alloc (rclkB 0 0 (.slice none 0 0))); exact ⟨T.b.cell' rfl, T.b.cell' rfl, T.b.cell' rfl⟩) | (have T := P4.out.keep ((Fr.refl none_ _).alloc (rclkB now last (.slice B S.length cc))); exact ⟨T.b.cell' rfl, T.b.cell' rfl, T.b.cell' rfl⟩) | (have T := P.out.keep (((Fr.refl none_ wr).drew).alloc (rclkB 0 0 (.slice none 0 0))); exact ⟨T.b.cell' rfl, T.b.cell' rfl, T.b.cell' rfl⟩) | (have FW := (box3 Y4.out (.int .i64 now) (.int .i64 last) (.slice B S.length cc)).2; have T := P4.out.b.fr FW (only_ne (by show R ≠ wr.heap.size; omega)); exact ⟨T.cell' rfl, T.cell' rfl, T.cell' rfl⟩))
        (first
          | (go_at_call 22; refine (clkCopy_ck (P.out.keep ((Fr.refl none_ wr).drew)).ck (by omega)).mono ?_; rintro e w4 ⟨C2, M2, rfl, hck4, hf4, hC2, hM2⟩; have C4 := hid_ (And.intro hck4 (And.intro hC2 hM2)); have F4 := hid_ (((Fr.refl none_ wr).drew).then_none hf4); have P4 := hid_ (P.out.keep F4.out); clear hck4 hf4 hC2 hM2)
          | (go_at_call 22; refine (clkCopy_ck (P.out.keep (((Fr.refl none_ wr).drew).alloc (rclkB 0 0 (.slice none 0 0)))).ck (by omega)).mono ?_; rintro e w4 ⟨C2, M2, rfl, hck4, hf4, hC2, hM2⟩; have C4 := hid_ (And.intro hck4 (And.intro hC2 hM2)); have F4 := hid_ (((((Fr.refl none_ wr).drew).alloc (rclkB 0 0 (.slice none 0 0)))).then_none hf4); have P4 := hid_ (P.out.keep F4.out); have Y4 : Hid (Blk w4 wr.heap.size 28 #[.int .i64 0, .int .i64 0, .slice none 0 0]) := hid_ ((Blk.new wr.drew 28 #[.int .i64 0, .int .i64 0, .slice none 0 0]).fr hf4 id); have q0 : w4.cell? ⟨wr.heap.size, 0, none⟩ = some (.int .i64 0) := Y4.out.cell' rfl; have q1 : w4.cell? ⟨wr.heap.size, 1, none⟩ = some (.int .i64 0) := Y4.out.cell' rfl; have q2 : w4.cell? ⟨wr.heap.size, 2, none⟩ = some (.slice none 0 0) := Y4.out.cell' rfl; have z0 : w4.frozen? ⟨wr.heap.size, 0, none⟩ = false := Y4.out.frozen 0; have z1 : w4.frozen? ⟨wr.heap.size, 1, none⟩ = false := Y4.out.frozen 1; have z2 : w4.frozen? ⟨wr.heap.size, 2, none⟩ = false := Y4.out.frozen 2; clear hck4 hf4 hC2 hM2))
      -- the two orders
      · obtain ⟨wz, hwz⟩ : ∃ wz, wz = w4.alloc (rclkB now last (.slice B S.length cc)) := ⟨_, rfl⟩
        have hfz : Fr none_ w4 wz := by rw [hwz]; exact (Fr.refl none_ w4).alloc _
        have Z : Hid (Two6 w wz C M R C2 M2 w4.heap.size now now last (.slice B S.length cc) (.slice B S.length cc) S S k k) := hid_ (by
          have h1 := P4.out.keep hfz
          have h2 := P4.out.b.lt
          have h3 := P.out.ck.ltC
          have h4 := P.out.ck.ltM
          have h5 := P.out.b.lt
          have h6 := P4.out.fr.size
          have h7 := F4.out.size
          have h8 : wr.heap.size ≤ C2 := C4.out.2.1
          have h9 : wr.heap.size ≤ M2 := C4.out.2.2
          have ha := P.out.fr.size
          refine ⟨h1, ⟨by rw [hwz]; exact Blk.new w4 _ _, C4.out.1.keep hfz, h1.own, h1.la, h1.fr, h6, by omega, by omega, h1.h0⟩, fun b e e2 => ?_⟩
          have hb4 : b < wr.heap.size := by rcases e with e | e | e <;> omega
          rcases e2 with e2 | e2 | e2 <;> omega)
        clear hfz r0 r1 r2 hRl
        change Exit.then _ _ _ _ (w4.alloc (rclkB now last (.slice B S.length cc)))
        obtain ⟨A5, hA5⟩ : ∃ A5, (if cap = k then A else Option.map (fun x => x.add (k * 3)) A) = A5 := ⟨_, rfl⟩
        have HR2 := hid_ (HR.out.from_ hmn hc)
        rw [hA5] at HR2
        go_wp2_with fail
        clear hA5
        rw [← hwz]
        clear hwz P4 P3 P
        obtain ⟨QQ, hQQ⟩ : ∃ QQ, QQ = w4.heap.size := ⟨_, rfl⟩
        rw [← hQQ] at Z
        simp only [← hQQ]
        clear hQQ
        go_loopw [82] (fun i wx => ∃ (k2 : Nat) (now2 : Int) (B2 : Option Addr) (c2 : Nat) (S2 : List Int), k2 ≤ n - k ∧ i = .int .i64 k2 ∧ Two6 w wx C M R C2 M2 QQ now2 now last (.slice B2 S2.length c2) (.slice B S.length cc) S2 S (k + k2) k) (fun i _ => (n - k) - (intOf i).toNat)
        case atStart => exact ⟨0, _, B, cc, S, Nat.zero_le _, rfl, Z.out⟩
        case round =>
          obtain ⟨k2, now2, B2, c2, S2, hk2, rfl, hP⟩ := hrel
          have P := hid_ hP
          clear hP Z
          by_cases hlt : k2 < n - k
          · obtain ⟨bb, off, x0, x1, x2, rfl, hb, _, hwa, d0, d1, d2⟩ := HR2.out.at P.out.a.fr hlt
            have Hwa := hid_ hwa
            have r0 : wr.cell? ⟨R, 0, none⟩ = some (.int .i64 now2) := P.out.a.b.cell' rfl
            have r1 : wr.cell? ⟨R, 1, none⟩ = some (.int .i64 last) := P.out.a.b.cell' rfl
            have r2 : wr.cell? ⟨R, 2, none⟩ = some (.slice B2 S2.length c2) := P.out.a.b.cell' rfl
            have hRl : R < wr.heap.size := P.out.a.b.lt
            clear hwa
            go_wp2_with fail
            refine (does_pl6 (P.out.a.keep ((Fr.refl none_ wr).alloc (.cells #[.int .i64 x0, .int .i64 x1, .int .i64 x2] 33))) (by omega) x0 x1 x2 Hwa.out).mono ?_
            rintro e w4 ⟨B4, c4, rfl, hD⟩
            obtain ⟨now4, hnow4⟩ : ∃ q, q = stN now2 last x0 := ⟨_, rfl⟩
            obtain ⟨S4, hS4⟩ : ∃ q, q = stS now2 S2 x0 x1 x2 := ⟨_, rfl⟩
            rw [← hnow4, ← hS4] at hD
            simp only [← hnow4, ← hS4]
            have hR4 : R < w4.heap.size := hD.b.lt
            have fz0 : w4.frozen? ⟨R, 0, none⟩ = false := hD.b.frozen 0
            have fz1 : w4.frozen? ⟨R, 1, none⟩ = false := hD.b.frozen 1
            have fz2 : w4.frozen? ⟨R, 2, none⟩ = false := hD.b.frozen 2
            have r40 : w4.cell? ⟨R, 0, none⟩ = some (.int .i64 now2) := hD.b.cell' rfl
            have r41 : w4.cell? ⟨R, 1, none⟩ = some (.int .i64 last) := hD.b.cell' rfl
            have r42 : w4.cell? ⟨R, 2, none⟩ = some (.slice B2 S2.length c2) := hD.b.cell' rfl
            have P5 := hid_ ((P.out.keep ((Fr.refl none_ wr).alloc (.cells #[.int .i64 x0, .int .i64 x1, .int .i64 x2] 33))).step hD rfl)
            clear hD hnow4 hS4 d0 d1 d2
            go_wp2
            go_roundw
            case rel => exact ⟨k2 + 1, now4, B4, c4, S4, by omega, by go_num, P5.out⟩
            case measure => simp [intOf]; omega
          · obtain rfl : k2 = n - k := by omega
            clear hlt
            go_wp2_with fail
            go_loopw [19] (fun i wx => ∃ (z : Int) (j kk : Nat) (now3 : Int) (B3 : Option Addr) (c3 : Nat) (S3 : List Int), k ≤ j ∧ j ≤ n ∧ z + 1 = j ∧ kk + j ≤ 400 ∧ i = .int .i64 z ∧ Two6 w wx C M R C2 M2 QQ now2 now3 last (.slice B2 S2.length c2) (.slice B3 S3.length c3) S2 S3 (k + (n - k)) kk) (fun i _ => (intOf i + 1).toNat)
            case atStart => exact ⟨_, n, k, _, B, cc, S, hmn, Nat.le_refl _, by omega, by omega, rfl, P.out⟩
            case round =>
              obtain ⟨z, j, kk, now3, B3, c3, S3, hkj, hjn, hzj, hkk, rfl, hP⟩ := hrel
              clear P
              have P := hid_ hP
              clear hP
              by_cases hlt : k < j
              · obtain ⟨z, rfl⟩ : ∃ z' : Nat, z = z' := ⟨j - 1, by omega⟩
                obtain ⟨bb, off, x0, x1, x2, hAb, hb, _, hwa, d0, d1, d2⟩ := HR.out.at P.out.a.fr (show z < n by omega)
                have Hwa := hid_ hwa
                have r0 : wr.cell? ⟨QQ, 0, none⟩ = some (.int .i64 now3) := P.out.c.b.cell' rfl
                have r1 : wr.cell? ⟨QQ, 1, none⟩ = some (.int .i64 last) := P.out.c.b.cell' rfl
                have r2 : wr.cell? ⟨QQ, 2, none⟩ = some (.slice B3 S3.length c3) := P.out.c.b.cell' rfl
                have hRl : QQ < wr.heap.size := P.out.c.b.lt
                have hkz : (k : Int) ≤ (z : Int) := by omega
                have hzn : (z : Int) < (n : Int) := by omega
                have hzn2 : z < n := by omega
                subst hAb
                have hb0 : bb < w.heap.size := by
                  obtain ⟨b', off', e, hb', _⟩ := HR.out.2 (by omega)
                  cases e
                  exact hb'
                have hbS : ¬ either C2 M2 bb := either_ne (by have := P.out.c.hC; omega) (by have := P.out.c.hM; omega)
                have hbQ : bb ≠ QQ := by have := P.out.c.hR; omega
                clear hwa
                go_wp2_with fail
                go_region_law (first
                  | (go_simp; go_at_call 13; refine (does_pl6 (P.out.c.keep ((Fr.refl none_ wr).drew)) (by omega) x0 x1 x2 Hwa.out).mono ?_; rintro e w4 ⟨B4, c4, rfl, hD⟩; have fz0 : w4.frozen? ⟨QQ, 0, none⟩ = false := hD.b.frozen 0; have fz1 : w4.frozen? ⟨QQ, 1, none⟩ = false := hD.b.frozen 1; have fz2 : w4.frozen? ⟨QQ, 2, none⟩ = false := hD.b.frozen 2; have r40 : w4.cell? ⟨QQ, 0, none⟩ = some (.int .i64 now3) := hD.b.cell' rfl; have r41 : w4.cell? ⟨QQ, 1, none⟩ = some (.int .i64 last) := hD.b.cell' rfl; have r42 : w4.cell? ⟨QQ, 2, none⟩ = some (.slice B3 S3.length c3) := hD.b.cell' rfl; have t0 : w4.cell? ⟨bb, off + z * 3, none⟩ = some (.int .i64 x0) := cellFrS (w := wr.drew) d0 hD.step hbS; have t1 : w4.cell? ⟨bb, off + z * 3 + 1, none⟩ = some (.int .i64 x1) := cellFrS (w := wr.drew) d1 hD.step hbS; have t2 : w4.cell? ⟨bb, off + z * 3 + 2, none⟩ = some (.int .i64 x2) := cellFrS (w := wr.drew) d2 hD.step hbS; have P5 := hid_ (((P.out.keep ((Fr.refl none_ wr).drew)).swap.step hD rfl).swap); clear hD)
                  | go_simp)
                all_goals
                  clear fz0 fz1 fz2 r40 r41 r42 t0 t1 t2 d0 d1 d2 r0 r1 r2
                  go_wp2
                  go_roundw
                  case rel => exact ⟨(z : Int) - 1, z, kk + 1, _, B4, c4, _, by omega, by omega, by omega, by omega, by go_num, P5.out⟩
                  case measure => simp [intOf]
              · have hjk : j = k := by omega
                have hkz : ¬ (k : Int) ≤ z := by omega
                have r0 : wr.cell? ⟨R, 0, none⟩ = some (.int .i64 now2) := P.out.a.b.cell' rfl
                have r1 : wr.cell? ⟨R, 1, none⟩ = some (.int .i64 last) := P.out.a.b.cell' rfl
                have r2 : wr.cell? ⟨R, 2, none⟩ = some (.slice B2 S2.length c2) := P.out.a.b.cell' rfl
                go_wp2_with fail
                refine (same_pl6 P.out.a).mono ?_
                rintro e w5 ⟨rfl, hf5⟩
                have P5 := hid_ (P.out.keep hf5)
                clear hf5 r0 r1 r2
                have r0 : w5.cell? ⟨QQ, 0, none⟩ = some (.int .i64 now3) := P5.out.c.b.cell' rfl
                have r1 : w5.cell? ⟨QQ, 1, none⟩ = some (.int .i64 last) := P5.out.c.b.cell' rfl
                have r2 : w5.cell? ⟨QQ, 2, none⟩ = some (.slice B3 S3.length c3) := P5.out.c.b.cell' rfl
                go_wp2_with fail
                refine (same_pl6 P5.out.c).mono ?_
                rintro e w6 ⟨rfl, hf6⟩
                have F6 := hid_ (P5.out.a.fr.then_none hf6)
                clear hf6 r0 r1 r2
                go_wp2_with fail
                refine (awake6 _).mono ?_
                rintro e w7 ⟨rfl, hf7⟩
                have F7 := hid_ (F6.out.then_none hf7)
                clear hf7
                go_wp2
                go_ret
                exact ⟨rfl, F7.out⟩
      · obtain ⟨wz, hwz⟩ : ∃ wz, wz = ((w4.setCell ⟨wr.heap.size, 0, none⟩ (.int .i64 now)).setCell ⟨wr.heap.size, 1, none⟩ (.int .i64 last)).setCell ⟨wr.heap.size, 2, none⟩ (.slice B S.length cc) := ⟨_, rfl⟩
        have Z : Hid (Two6 w wz C M R C2 M2 wr.heap.size now now last (.slice B S.length cc) (.slice B S.length cc) S S k k) := hid_ (by
          subst hwz
          obtain ⟨qb, qf⟩ := box3 Y4.out (.int .i64 now) (.int .i64 last) (.slice B S.length cc)
          have h3 := P.out.ck.ltC
          have h4 := P.out.ck.ltM
          have h5 := P.out.b.lt
          have ha := P.out.fr.size
          have h8 : wr.heap.size + 1 ≤ C2 := by have := C4.out.2.1; simpa using this
          have h9 : wr.heap.size + 1 ≤ M2 := by have := C4.out.2.2; simpa using this
          have h1 := P4.out.far qf (fun b e => ⟨by have : b = wr.heap.size := e; omega, fun e2 => by have : b = wr.heap.size := e; rcases e2 with e2 | e2 | e2 <;> omega, fun hb => own_blk_ne P4.out.own Y4.out (by decide) (by rw [hb, show b = wr.heap.size from e])⟩)
          refine ⟨h1, ⟨qb, C4.out.1.fr qf (only_ne (by omega)) (only_ne (by omega)), h1.own, h1.la, h1.fr, ha, by omega, by omega, h1.h0⟩, fun b e e2 => ?_⟩
          have hb4 : b < wr.heap.size := by rcases e with e | e | e <;> omega
          rcases e2 with e2 | e2 | e2 <;> omega)
        clear r0 r1 r2 hRl q0 q1 q2 z0 z1 z2
        obtain ⟨A5, hA5⟩ : ∃ A5, (if cap = k then A else Option.map (fun x => x.add (k * 3)) A) = A5 := ⟨_, rfl⟩
        have HR2 := hid_ (HR.out.from_ hmn hc)
        rw [hA5] at HR2
        go_wp2_with fail
        clear hA5
        rw [← hwz]
        clear hwz P4 P3 P
        obtain ⟨QQ, hQQ⟩ : ∃ QQ, QQ = wr.heap.size := ⟨_, rfl⟩
        rw [← hQQ] at Z
        simp only [← hQQ]
        clear hQQ
        go_loopw [82] (fun i wx => ∃ (k2 : Nat) (now2 : Int) (B2 : Option Addr) (c2 : Nat) (S2 : List Int), k2 ≤ n - k ∧ i = .int .i64 k2 ∧ Two6 w wx C M R C2 M2 QQ now2 now last (.slice B2 S2.length c2) (.slice B S.length cc) S2 S (k + k2) k) (fun i _ => (n - k) - (intOf i).toNat)
        case atStart => exact ⟨0, _, B, cc, S, Nat.zero_le _, rfl, Z.out⟩
        case round =>
          obtain ⟨k2, now2, B2, c2, S2, hk2, rfl, hP⟩ := hrel
          have P := hid_ hP
          clear hP Z
          by_cases hlt : k2 < n - k
          · obtain ⟨bb, off, x0, x1, x2, rfl, hb, _, hwa, d0, d1, d2⟩ := HR2.out.at P.out.a.fr hlt
            have Hwa := hid_ hwa
            have r0 : wr.cell? ⟨R, 0, none⟩ = some (.int .i64 now2) := P.out.a.b.cell' rfl
            have r1 : wr.cell? ⟨R, 1, none⟩ = some (.int .i64 last) := P.out.a.b.cell' rfl
            have r2 : wr.cell? ⟨R, 2, none⟩ = some (.slice B2 S2.length c2) := P.out.a.b.cell' rfl
            have hRl : R < wr.heap.size := P.out.a.b.lt
            clear hwa
            go_wp2_with fail
            refine (does_pl6 (P.out.a.keep ((Fr.refl none_ wr).alloc (.cells #[.int .i64 x0, .int .i64 x1, .int .i64 x2] 33))) (by omega) x0 x1 x2 Hwa.out).mono ?_
            rintro e w4 ⟨B4, c4, rfl, hD⟩
            obtain ⟨now4, hnow4⟩ : ∃ q, q = stN now2 last x0 := ⟨_, rfl⟩
            obtain ⟨S4, hS4⟩ : ∃ q, q = stS now2 S2 x0 x1 x2 := ⟨_, rfl⟩
            rw [← hnow4, ← hS4] at hD
            simp only [← hnow4, ← hS4]
            have hR4 : R < w4.heap.size := hD.b.lt
            have fz0 : w4.frozen? ⟨R, 0, none⟩ = false := hD.b.frozen 0
            have fz1 : w4.frozen? ⟨R, 1, none⟩ = false := hD.b.frozen 1
            have fz2 : w4.frozen? ⟨R, 2, none⟩ = false := hD.b.frozen 2
            have r40 : w4.cell? ⟨R, 0, none⟩ = some (.int .i64 now2) := hD.b.cell' rfl
            have r41 : w4.cell? ⟨R, 1, none⟩ = some (.int .i64 last) := hD.b.cell' rfl
            have r42 : w4.cell? ⟨R, 2, none⟩ = some (.slice B2 S2.length c2) := hD.b.cell' rfl
            have P5 := hid_ ((P.out.keep ((Fr.refl none_ wr).alloc (.cells #[.int .i64 x0, .int .i64 x1, .int .i64 x2] 33))).step hD rfl)
            clear hD hnow4 hS4 d0 d1 d2
            go_wp2
            go_roundw
            case rel => exact ⟨k2 + 1, now4, B4, c4, S4, by omega, by go_num, P5.out⟩
            case measure => simp [intOf]; omega
          · obtain rfl : k2 = n - k := by omega
            clear hlt
            go_wp2_with fail
            go_loopw [19] (fun i wx => ∃ (z : Int) (j kk : Nat) (now3 : Int) (B3 : Option Addr) (c3 : Nat) (S3 : List Int), k ≤ j ∧ j ≤ n ∧ z + 1 = j ∧ kk + j ≤ 400 ∧ i = .int .i64 z ∧ Two6 w wx C M R C2 M2 QQ now2 now3 last (.slice B2 S2.length c2) (.slice B3 S3.length c3) S2 S3 (k + (n - k)) kk) (fun i _ => (intOf i + 1).toNat)
            case atStart => exact ⟨_, n, k, _, B, cc, S, hmn, Nat.le_refl _, by omega, by omega, rfl, P.out⟩
            case round =>
              obtain ⟨z, j, kk, now3, B3, c3, S3, hkj, hjn, hzj, hkk, rfl, hP⟩ := hrel
              clear P
              have P := hid_ hP
              clear hP
              by_cases hlt : k < j
              · obtain ⟨z, rfl⟩ : ∃ z' : Nat, z = z' := ⟨j - 1, by omega⟩
                obtain ⟨bb, off, x0, x1, x2, hAb, hb, _, hwa, d0, d1, d2⟩ := HR.out.at P.out.a.fr (show z < n by omega)
                have Hwa := hid_ hwa
                have r0 : wr.cell? ⟨QQ, 0, none⟩ = some (.int .i64 now3) := P.out.c.b.cell' rfl
                have r1 : wr.cell? ⟨QQ, 1, none⟩ = some (.int .i64 last) := P.out.c.b.cell' rfl
                have r2 : wr.cell? ⟨QQ, 2, none⟩ = some (.slice B3 S3.length c3) := P.out.c.b.cell' rfl
                have hRl : QQ < wr.heap.size := P.out.c.b.lt
                have hkz : (k : Int) ≤ (z : Int) := by omega
                have hzn : (z : Int) < (n : Int) := by omega
                have hzn2 : z < n := by omega
                subst hAb
                have hb0 : bb < w.heap.size := by
                  obtain ⟨b', off', e, hb', _⟩ := HR.out.2 (by omega)
                  cases e
                  exact hb'
                have hbS : ¬ either C2 M2 bb := either_ne (by have := P.out.c.hC; omega) (by have := P.out.c.hM; omega)
                have hbQ : bb ≠ QQ := by have := P.out.c.hR; omega
                clear hwa
                go_wp2_with fail
                go_region_law (first
                  | (go_simp; go_at_call 13; refine (does_pl6 (P.out.c.keep ((Fr.refl none_ wr).drew)) (by omega) x0 x1 x2 Hwa.out).mono ?_; rintro e w4 ⟨B4, c4, rfl, hD⟩; have fz0 : w4.frozen? ⟨QQ, 0, none⟩ = false := hD.b.frozen 0; have fz1 : w4.frozen? ⟨QQ, 1, none⟩ = false := hD.b.frozen 1; have fz2 : w4.frozen? ⟨QQ, 2, none⟩ = false := hD.b.frozen 2; have r40 : w4.cell? ⟨QQ, 0, none⟩ = some (.int .i64 now3) := hD.b.cell' rfl; have r41 : w4.cell? ⟨QQ, 1, none⟩ = some (.int .i64 last) := hD.b.cell' rfl; have r42 : w4.cell? ⟨QQ, 2, none⟩ = some (.slice B3 S3.length c3) := hD.b.cell' rfl; have t0 : w4.cell? ⟨bb, off + z * 3, none⟩ = some (.int .i64 x0) := cellFrS (w := wr.drew) d0 hD.step hbS; have t1 : w4.cell? ⟨bb, off + z * 3 + 1, none⟩ = some (.int .i64 x1) := cellFrS (w := wr.drew) d1 hD.step hbS; have t2 : w4.cell? ⟨bb, off + z * 3 + 2, none⟩ = some (.int .i64 x2) := cellFrS (w := wr.drew) d2 hD.step hbS; have P5 := hid_ (((P.out.keep ((Fr.refl none_ wr).drew)).swap.step hD rfl).swap); clear hD)
                  | go_simp)
                all_goals
                  clear fz0 fz1 fz2 r40 r41 r42 t0 t1 t2 d0 d1 d2 r0 r1 r2
                  go_wp2
                  go_roundw
                  case rel => exact ⟨(z : Int) - 1, z, kk + 1, _, B4, c4, _, by omega, by omega, by omega, by omega, by go_num, P5.out⟩
                  case measure => simp [intOf]
              · have hjk : j = k := by omega
                have hkz : ¬ (k : Int) ≤ z := by omega
                have r0 : wr.cell? ⟨R, 0, none⟩ = some (.int .i64 now2) := P.out.a.b.cell' rfl
                have r1 : wr.cell? ⟨R, 1, none⟩ = some (.int .i64 last) := P.out.a.b.cell' rfl
                have r2 : wr.cell? ⟨R, 2, none⟩ = some (.slice B2 S2.length c2) := P.out.a.b.cell' rfl
                go_wp2_with fail
                refine (same_pl6 P.out.a).mono ?_
                rintro e w5 ⟨rfl, hf5⟩
                have P5 := hid_ (P.out.keep hf5)
                clear hf5 r0 r1 r2
                have r0 : w5.cell? ⟨QQ, 0, none⟩ = some (.int .i64 now3) := P5.out.c.b.cell' rfl
                have r1 : w5.cell? ⟨QQ, 1, none⟩ = some (.int .i64 last) := P5.out.c.b.cell' rfl
                have r2 : w5.cell? ⟨QQ, 2, none⟩ = some (.slice B3 S3.length c3) := P5.out.c.b.cell' rfl
                go_wp2_with fail
                refine (same_pl6 P5.out.c).mono ?_
                rintro e w6 ⟨rfl, hf6⟩
                have F6 := hid_ (P5.out.a.fr.then_none hf6)
                clear hf6 r0 r1 r2
                go_wp2_with fail
                refine (awake6 _).mono ?_
                rintro e w7 ⟨rfl, hf7⟩
                have F7 := hid_ (F6.out.then_none hf7)
                clear hf7
                go_wp2
                go_ret
                exact ⟨rfl, F7.out⟩

theorem copies6_walk_i (p : Int) (wp : (Lit.int .i64 p).wf = true) (last : Int) (wl : (Lit.int .i64 last).wf = true) (A : Option Addr) (n cap : Nat) (hc : n ≤ cap) (hm : cap ≤ maxLen) (g : Int) (hg : (Lit.int .u8 g).wf = true) (w : World) (hrd : Do6At w A n) (hL : Laid w) :
    Calls Tryd.prog 8 #[.int .i64 p, .int .i64 last, .slice A n cap, .int .u8 g] w fun e w' => e = .returned (.bool true) ∧ Fr none_ w w' := by
  obtain ⟨h0, h1⟩ := wf_u8 hg
  obtain ⟨gv, rfl⟩ : ∃ gv : Nat, g = gv := ⟨g.toNat, by omega⟩
  obtain ⟨L, hL'⟩ := steps_of hrd
  exact copies6_walk p last A n cap L hc hm gv (by omega) w hL' hL
end Go.Proofs.YtmindkphdakflaaDoor

/- MappingCopies' walk. -/
import Derived.Test.YtnlpnbllnddaaaaDoorCopy5
namespace Go.Proofs.YtnlpnbllnddaaaaDoor
open Go.RowKit
set_option maxRecDepth 100000
set_option linter.unusedVariables false

theorem Pl.far {w w' w2 : World} {T G R p X : Nat} {ps : List Pg} {v : Value} {L : List Rp} {t : TypeId} {cs : Array Value} (h : Pl w w' T G R p ps v L) (hf : Fr (only X) w' w2) (hX : w.heap.size ≤ X) (hb : Blk w' X t cs) (ht : t ≠ 57) (hp : t ≠ 76) (hG : G ≠ X) (hR : R ≠ X) : Pl w w2 T G R p ps v L := by
  have hT : T ≠ X := by obtain ⟨cap, cur, k⟩ := h.tb; exact Blk.ne_ k.hT hb (Ne.symm ht)
  have h0 := h.h0
  exact ⟨h.b.fr hf (only_ne hR), h.tb.fr hf (only_ne hT) (only_ne hG), own_fr h.own hf (fun k hk e => own_blk_ne h.own hb (Ne.symm hp) (by rw [hk, show k = X from e])), h.sim, h.la.fr hf (only_ne (by omega)), h.fr.then_only hf (.inr hX), h.hR, h.hG, h.h0, h.len⟩
theorem Do5At.from_ {w : World} {A : Option Addr} {n k cap : Nat} (h : Do5At w A n) (hk : k ≤ n) (hc : n ≤ cap) : Do5At w (if cap = k then A else A.map (·.add (k * 7))) (n - k) := by
  intro hn
  obtain ⟨b, off, rfl, hb, hx⟩ := h (by omega)
  rw [if_neg (by omega)]
  refine ⟨b, off + k * 7, by rw [Option.map_some, add_lit], hb, fun j hj => ?_⟩
  have e : off + k * 7 + j * 7 = off + (k + j) * 7 := by omega
  rw [e]
  exact hx (k + j) (by omega)
/-- Two tables, and the document's two, at a time. -/
structure Two (w w' : World) (T G R T2 G2 Q p : Nat) (ps ps2 : List Pg) (v v2 : Value) (L L2 : List Rp) : Prop where
  a : Pl w w' T G R p ps v L
  c : Pl w w' T2 G2 Q p ps2 v2 L2
  g : G ≠ G2
  q : R ≠ Q
section
variable {w w' w2 w3 : World} {T G R T2 G2 Q p : Nat} {ps ps2 ps' : List Pg} {v v2 v' : Value} {L L2 L' : List Rp}
theorem Two.keep (h : Two w w' T G R T2 G2 Q p ps ps2 v v2 L L2) (hf : Fr none_ w' w2) : Two w w2 T G R T2 G2 Q p ps ps2 v v2 L L2 := ⟨h.a.keep hf, h.c.keep hf, h.g, h.q⟩
theorem Two.swap (h : Two w w' T G R T2 G2 Q p ps ps2 v v2 L L2) : Two w w' T2 G2 Q T G R p ps2 ps v2 v L2 L := ⟨h.c, h.a, h.g.symm, h.q.symm⟩
/-- A step of the first: the second is as it was. -/
theorem Two.step (h : Two w w' T G R T2 G2 Q p ps ps2 v v2 L L2) (ht : Tbl w2 T G ps') (ho : ROwn w2 v' L') (hs : Sim ps' L') (hl : ps'.length = p) (hb : Blk w2 R 28 #[.int .i64 p, v]) (hf : Fr none_ w w2) (hla : Laid w2) (hg : Fr (only G) w' w2) :
    Two w ((w2.setCell ⟨R, 0, none⟩ (.int .i64 p)).setCell ⟨R, 1, none⟩ v') T G R T2 G2 Q p ps' ps2 v' v2 L' L2 := by
  obtain ⟨cs, hgb⟩ := h.a.tb.blkG
  have hQG : Q ≠ G := fun e => absurd (Blk.uniq h.c.b (e ▸ hgb)).1 (by decide)
  have hc2 := h.c.far hg h.a.hG hgb (by decide) (by decide) h.g.symm hQG
  obtain ⟨cs2, hgb2⟩ := hc2.tb.blkG
  have hG2R : G2 ≠ R := fun e => absurd (Blk.uniq hb (e ▸ hgb2)).1 (by decide)
  exact ⟨Pl.put hb ht ho hs hla hf h.a.hR h.a.hG h.a.h0 hl, hc2.far (Pl.put_fr R _ _ w2) h.a.hR hb (by decide) (by decide) hG2R h.q.symm, h.g, h.q⟩
end

set_option maxHeartbeats 4000000 in
theorem copies_walk (p : Int) (hp : (Lit.int .i64 p).wf = true) (A : Option Addr) (n cap : Nat) (hc : n ≤ cap) (hm : cap ≤ maxLen) (gv : Nat) (hgv : gv < 256) (w : World) (hrd : Do5At w A n) (hL : Laid w) :
    Calls Tryd.prog 6 #[.int .i64 p, .slice A n cap, .int .u8 gv] w fun e w' => e = .returned (.bool true) ∧ Fr none_ w w' := by
  unfold maxLen at hm
  by_cases hn : 100 < n
  · go_enter Tryd.func6, Tryd.ntmps6
    go_wp2_with (go_at_call 7; refine (awake5 _).mono ?_; rintro e w1 ⟨rfl, hf1⟩)
    go_ret
    exact ⟨rfl, hf1⟩
  by_cases hp1 : p < 1
  · go_enter Tryd.func6, Tryd.ntmps6
    go_wp2_with (go_at_call 7; refine (awake5 _).mono ?_; rintro e w1 ⟨rfl, hf1⟩)
    go_ret
    exact ⟨rfl, hf1⟩
  by_cases hp2 : 100 < p
  · go_enter Tryd.func6, Tryd.ntmps6
    go_wp2_with (go_at_call 7; refine (awake5 _).mono ?_; rintro e w1 ⟨rfl, hf1⟩)
    go_ret
    exact ⟨rfl, hf1⟩
  obtain ⟨p, rfl⟩ : ∃ q : Nat, p = q := ⟨p.toNat, by omega⟩
  have hp5 : 1 ≤ p := by omega
  have hp6 : p ≤ 100 := by omega
  clear hp1 hp2
  have HL := hid_ hL
  have HR := hid_ hrd
  clear hL hrd
  obtain ⟨m, hmd⟩ : ∃ m, m = gv % (n + 1) := ⟨_, rfl⟩
  have hmn : m ≤ n := by rw [hmd]; have := Nat.mod_lt gv (show 0 < n + 1 by omega); omega
  have hmI : (gv : Int) % ((n : Int) + 1) = (m : Int) := by rw [hmd]; push_cast; rfl
  have hbd : 0 ≤ (gv : Int) % ((n : Int) + 1) ∧ (gv : Int) % ((n : Int) + 1) ≤ (cap : Int) := by omega
  have HMI := hid_ hmI
  have HMD := hid_ hmd
  clear hmI hmd
  go_enter Tryd.func6, Tryd.ntmps6
  go_wp2_with fail
  refine (mapNew_ok p w hp5 (by omega)).mono ?_
  rintro e w1 ⟨rfl, ht1, hf1, _⟩
  have T1 := hid_ ht1
  have F1 := hid_ hf1
  clear ht1 hf1
  go_wp2_with fail
  refine (rnew p _).mono ?_
  rintro e w2 ⟨rfl, hf2⟩
  obtain ⟨w3, hw3⟩ : ∃ w3, w3 = w2.alloc (rbox p (.slice none 0 0)) := ⟨_, rfl⟩
  have hf3 : Fr none_ w2 w3 := by rw [hw3]; exact (Fr.refl none_ w2).alloc _
  have P3 : Hid (Pl w w3 (w.heap.size + 1) w.heap.size w2.heap.size p (List.replicate p (false, 0, 0)) (.slice none 0 0) []) := by
    have ha := (F1.out.then_none hf2).then_none hf3
    have h23 := (F1.out.then_none hf2).size
    exact hid_ ⟨by rw [hw3]; exact Blk.new w2 _ _, (T1.out.fr hf2 id id).fr hf3 id id, World.ownsRow_nil _ _ _ _, Sim.init p (by omega), (HL.out.fr (Fr.refl none_ w) id).fr ha id, ha, h23, Nat.le_refl _, (HL.out.fr (Fr.refl none_ w) id).lt, by simp⟩
  clear hf2 hf3
  go_wp2_with fail
  change Code.wp _ _ _ _ (w2.alloc (rbox p (.slice none 0 0)))
  rw [← hw3]
  clear hw3 T1 F1
  obtain ⟨R, hR⟩ : ∃ R, R = w2.heap.size := ⟨_, rfl⟩
  rw [← hR] at P3
  simp only [← hR]
  clear hR
  simp only [HMI.out, ← HMD.out]
  clear hbd
  go_loopw [49] (fun i wr => ∃ (k : Nat) (ps : List Pg) (B : Option Addr) (c : Nat) (L : List Rp), k ≤ m ∧ i = .int .i64 k ∧ Pl w wr (w.heap.size + 1) w.heap.size R p ps (.slice B L.length c) L) (fun i _ => m - (intOf i).toNat)
  case atStart => exact ⟨0, _, none, 0, [], Nat.zero_le _, rfl, P3.out⟩
  case round =>
    obtain ⟨k, ps, B, cc, L, hk, rfl, hP⟩ := hrel
    have P := hid_ hP
    clear hP
    by_cases hlt : k < m
    · obtain ⟨bb, off, rfl, hb, x0, x1, x2, x3, x4, x5, x6, d0, d1, d2, d3, d4, d5, d6⟩ := HR.out.at P.out.fr (show k < n by omega)
      have r0 : wr.cell? ⟨R, 0, none⟩ = some (.int .i64 p) := P.out.b.cell' rfl
      have r1 : wr.cell? ⟨R, 1, none⟩ = some (.slice B L.length cc) := P.out.b.cell' rfl
      have hRl : R < wr.heap.size := P.out.b.lt
      go_wp2_with fail
      refine (does_pl (P.out.keep ((Fr.refl none_ wr).alloc _)) x0 x1 x2 x3 x4 x5 x6).mono ?_
      rintro e w4 ⟨B4, c4, L4, rfl, ht4, ho4, hs4, hl4, hb4, hf4, hla4, _⟩
      obtain ⟨ps4, hps4⟩ : ∃ ps4, ps4 = doesP ps x0 x1 x2 x3 x4 x5 x6 := ⟨_, rfl⟩
      rw [← hps4] at ht4 hs4 hl4
      have hR4 : R < w4.heap.size := hb4.lt
      have fz0 : w4.frozen? ⟨R, 0, none⟩ = false := hb4.frozen 0
      have fz1 : w4.frozen? ⟨R, 1, none⟩ = false := hb4.frozen 1
      have r40 : w4.cell? ⟨R, 0, none⟩ = some (.int .i64 p) := hb4.cell' rfl
      have r41 : w4.cell? ⟨R, 1, none⟩ = some (.slice B L.length cc) := hb4.cell' rfl
      have P5 := hid_ (Pl.put hb4 ht4 ho4 hs4 hla4 hf4 P.out.hR P.out.hG P.out.h0 hl4)
      clear ht4 ho4 hs4 hl4 hb4 hf4 hla4 hps4 d0 d1 d2 d3 d4 d5 d6
      go_wp2
      go_roundw
      case rel => exact ⟨k + 1, ps4, B4, c4, L4, by omega, by go_num, P5.out⟩
      case measure => simp [intOf]; omega
    · obtain rfl : k = m := by omega
      have r0 : wr.cell? ⟨R, 0, none⟩ = some (.int .i64 p) := P.out.b.cell' rfl
      have r1 : wr.cell? ⟨R, 1, none⟩ = some (.slice B L.length cc) := P.out.b.cell' rfl
      have hRl : R < wr.heap.size := P.out.b.lt
      go_wp2_with fail
      go_region_held3 (fun w' => w'.cell? ⟨R, 0, none⟩ = some (.int .i64 p) ∧ w'.cell? ⟨R, 1, none⟩ = some (.slice B L.length cc))
        (first | exact ⟨r0, r1⟩ | (have T := P4.out; exact ⟨T.b.cell' rfl, T.b.cell' rfl⟩) | (have T := P4.out; exact ⟨cell_fr (T.b.cell' rfl) ((Fr.refl none_ _).alloc _), cell_fr (T.b.cell' rfl) ((Fr.refl none_ _).alloc _)⟩) | exact ⟨cell_fr r0 ((Fr.refl none_ _).drew.alloc _), cell_fr r1 ((Fr.refl none_ _).drew.alloc _)⟩ | (have FW := ((Fr.refl (only wr.heap.size) w4).setCell (p := ⟨wr.heap.size, 0, none⟩) (.inl (Eq.refl _)) (.int .i64 p)).setCell (p := ⟨wr.heap.size, 1, none⟩) (.inl (Eq.refl _)) (.slice B L.length cc); exact ⟨cell_frS (P4.out.b.cell' rfl) FW (only_ne (by show R ≠ wr.heap.size; omega)), cell_frS (P4.out.b.cell' rfl) FW (only_ne (by show R ≠ wr.heap.size; omega))⟩))
        (first
          | (go_at_call 18; refine (copy_ok _ _ ps _ (by rw [P.out.len]; omega) (P.out.keep ((Fr.refl none_ wr).drew)).tb).mono ?_; rintro e w4 ⟨T2, G2, rfl, ht4, hf4, hT2, hG2⟩; have C4 := hid_ (And.intro ht4 (And.intro hT2 hG2)); have F4 := hid_ (((Fr.refl none_ wr).drew).then_none hf4); have P4 := hid_ (P.out.keep F4.out); clear ht4 hf4 hT2 hG2)
          | (go_at_call 18; refine (copy_ok _ _ ps _ (by rw [P.out.len]; omega) (P.out.keep (((Fr.refl none_ wr).drew).alloc (.cells #[.int .i64 0, .slice none 0 0] 28))).tb).mono ?_; rintro e w4 ⟨T2, G2, rfl, ht4, hf4, hT2, hG2⟩; have C4 := hid_ (And.intro ht4 (And.intro hT2 hG2)); have F4 := hid_ (((((Fr.refl none_ wr).drew).alloc (.cells #[.int .i64 0, .slice none 0 0] 28))).then_none hf4); have P4 := hid_ (P.out.keep F4.out); have Y4 := hid_ ((Blk.new wr.drew 28 #[.int .i64 0, .slice none 0 0]).fr hf4 id : Blk w4 wr.heap.size _ _); have q0 : w4.cell? ⟨wr.heap.size, 0, none⟩ = some (.int .i64 0) := Y4.out.cell' rfl; have q1 : w4.cell? ⟨wr.heap.size, 1, none⟩ = some (.slice none 0 0) := Y4.out.cell' rfl; have q2 : w4.frozen? ⟨wr.heap.size, 0, none⟩ = false := Y4.out.frozen 0; have q3 : w4.frozen? ⟨wr.heap.size, 1, none⟩ = false := Y4.out.frozen 1; clear ht4 hf4 hT2 hG2))
      -- the two orders
      · obtain ⟨wz, hwz⟩ : ∃ wz, wz = w4.alloc (rbox p (.slice B L.length cc)) := ⟨_, rfl⟩
        have hfz : Fr none_ w4 wz := by rw [hwz]; exact (Fr.refl none_ w4).alloc _
        have Z : Hid (Two w wz (w.heap.size + 1) w.heap.size R T2 G2 w4.heap.size p ps ps (.slice B L.length cc) (.slice B L.length cc) L L) := hid_ (by
          have h1 := P4.out.keep hfz
          have h2 := P4.out.b.lt
          have h3 := P.out.tb.lt
          have h4 := P4.out.fr.size
          have h5 : wr.heap.size ≤ G2 := C4.out.2.2
          exact ⟨h1, ⟨by rw [hwz]; exact Blk.new w4 _ _, C4.out.1.fr hfz id id, h1.own, h1.sim, h1.la, h1.fr, h4, by omega, h1.h0, h1.len⟩, by omega, by omega⟩)
        clear hfz r0 r1 hRl
        change Exit.then _ _ _ _ (w4.alloc (rbox p (.slice B L.length cc)))
        obtain ⟨A5, hA5⟩ : ∃ A5, (if cap = k then A else Option.map (fun x => x.add (k * 7)) A) = A5 := ⟨_, rfl⟩
        have HR2 := hid_ (HR.out.from_ hmn hc)
        rw [hA5] at HR2
        go_wp2_with fail
        clear hA5
        rw [← hwz]
        clear hwz P4 P3 P
        obtain ⟨QQ, hQQ⟩ : ∃ QQ, QQ = w4.heap.size := ⟨_, rfl⟩
        rw [← hQQ] at Z
        simp only [← hQQ]
        clear hQQ
        go_loopw [68] (fun i wx => ∃ (k2 : Nat) (ps2 : List Pg) (B2 : Option Addr) (c2 : Nat) (L2 : List Rp), k2 ≤ n - k ∧ i = .int .i64 k2 ∧ Two w wx (w.heap.size + 1) w.heap.size R T2 G2 QQ p ps2 ps (.slice B2 L2.length c2) (.slice B L.length cc) L2 L) (fun i _ => (n - k) - (intOf i).toNat)
        case atStart => exact ⟨0, _, B, cc, L, Nat.zero_le _, rfl, Z.out⟩
        case round =>
          obtain ⟨k2, ps2, B2, c2, L2, hk2, rfl, hP⟩ := hrel
          have P := hid_ hP
          clear hP Z
          by_cases hlt : k2 < n - k
          · obtain ⟨bb, off, rfl, hb, x0, x1, x2, x3, x4, x5, x6, d0, d1, d2, d3, d4, d5, d6⟩ := HR2.out.at P.out.a.fr hlt
            have r0 : wr.cell? ⟨R, 0, none⟩ = some (.int .i64 p) := P.out.a.b.cell' rfl
            have r1 : wr.cell? ⟨R, 1, none⟩ = some (.slice B2 L2.length c2) := P.out.a.b.cell' rfl
            have hRl : R < wr.heap.size := P.out.a.b.lt
            go_wp2_with fail
            refine (does_pl (P.out.a.keep ((Fr.refl none_ wr).alloc (.cells #[.int .i64 x0, .int .i64 x1, .bool x2, .int .i64 x3, .int .i64 x4, .int .i64 x5, .int .i64 x6] 34))) x0 x1 x2 x3 x4 x5 x6).mono ?_
            rintro e w4 ⟨B4, c4, L4, rfl, ht4, ho4, hs4, hl4, hb4, hf4, hla4, hg4⟩
            obtain ⟨ps4, hps4⟩ : ∃ ps4, ps4 = doesP ps2 x0 x1 x2 x3 x4 x5 x6 := ⟨_, rfl⟩
            rw [← hps4] at ht4 hs4 hl4
            have hR4 : R < w4.heap.size := hb4.lt
            have fz0 : w4.frozen? ⟨R, 0, none⟩ = false := hb4.frozen 0
            have fz1 : w4.frozen? ⟨R, 1, none⟩ = false := hb4.frozen 1
            have r40 : w4.cell? ⟨R, 0, none⟩ = some (.int .i64 p) := hb4.cell' rfl
            have r41 : w4.cell? ⟨R, 1, none⟩ = some (.slice B2 L2.length c2) := hb4.cell' rfl
            have P5 := hid_ ((P.out.keep ((Fr.refl none_ wr).alloc (.cells #[.int .i64 x0, .int .i64 x1, .bool x2, .int .i64 x3, .int .i64 x4, .int .i64 x5, .int .i64 x6] 34))).step ht4 ho4 hs4 hl4 hb4 hf4 hla4 hg4)
            clear ht4 ho4 hs4 hl4 hb4 hf4 hla4 hg4 hps4 d0 d1 d2 d3 d4 d5 d6
            go_wp2
            go_roundw
            case rel => exact ⟨k2 + 1, ps4, B4, c4, L4, by omega, by go_num, P5.out⟩
            case measure => simp [intOf]; omega
          · obtain rfl : k2 = n - k := by omega
            clear hlt
            go_wp2_with fail
            go_loopw [17] (fun i wx => ∃ (z : Int) (j : Nat) (ps3 : List Pg) (B3 : Option Addr) (c3 : Nat) (L3 : List Rp), k ≤ j ∧ j ≤ n ∧ z + 1 = j ∧ i = .int .i64 z ∧ Two w wx (w.heap.size + 1) w.heap.size R T2 G2 QQ p ps2 ps3 (.slice B2 L2.length c2) (.slice B3 L3.length c3) L2 L3) (fun i _ => (intOf i + 1).toNat)
            case atStart => exact ⟨_, n, _, B, cc, L, hmn, Nat.le_refl _, by omega, rfl, P.out⟩
            case round =>
              obtain ⟨z, j, ps3, B3, c3, L3, hkj, hjn, hzj, rfl, hP⟩ := hrel
              clear P
              have P := hid_ hP
              clear hP
              by_cases hlt : k < j
              · obtain ⟨z, rfl⟩ : ∃ z' : Nat, z = z' := ⟨j - 1, by omega⟩
                obtain ⟨bb, off, hAb, hb, x0, x1, x2, x3, x4, x5, x6, d0, d1, d2, d3, d4, d5, d6⟩ := HR.out.at P.out.a.fr (show z < n by omega)
                have r0 : wr.cell? ⟨QQ, 0, none⟩ = some (.int .i64 p) := P.out.c.b.cell' rfl
                have r1 : wr.cell? ⟨QQ, 1, none⟩ = some (.slice B3 L3.length c3) := P.out.c.b.cell' rfl
                have hRl : QQ < wr.heap.size := P.out.c.b.lt
                have hkz : (k : Int) ≤ (z : Int) := by omega
                have hzn : (z : Int) < (n : Int) := by omega
                have hzn2 : z < n := by omega
                subst hAb
                have hbG : bb ≠ G2 := by have := P.out.c.hG; omega
                have hbQ : bb ≠ QQ := by have := P.out.c.hR; omega
                go_wp2_with fail
                go_region_law (first
                  | (go_simp; go_at_call 10; refine (does_pl (P.out.c.keep ((Fr.refl none_ wr).drew)) x0 x1 x2 x3 x4 x5 x6).mono ?_; rintro e w4 ⟨B4, c4, L4, rfl, ht4, ho4, hs4, hl4, hb4, hf4, hla4, hg4⟩; have fz0 : w4.frozen? ⟨QQ, 0, none⟩ = false := hb4.frozen 0; have fz1 : w4.frozen? ⟨QQ, 1, none⟩ = false := hb4.frozen 1; have r40 : w4.cell? ⟨QQ, 0, none⟩ = some (.int .i64 p) := hb4.cell' rfl; have r41 : w4.cell? ⟨QQ, 1, none⟩ = some (.slice B3 L3.length c3) := hb4.cell' rfl; have t0 : w4.cell? ⟨bb, off + z * 7, none⟩ = some (.int .i64 x0) := cell_frS (w := wr.drew) d0 hg4 (only_ne hbG); have t1 : w4.cell? ⟨bb, off + z * 7 + 1, none⟩ = some (.int .i64 x1) := cell_frS (w := wr.drew) d1 hg4 (only_ne hbG); have t2 : w4.cell? ⟨bb, off + z * 7 + 2, none⟩ = some (.bool x2) := cell_frS (w := wr.drew) d2 hg4 (only_ne hbG); have t3 : w4.cell? ⟨bb, off + z * 7 + 3, none⟩ = some (.int .i64 x3) := cell_frS (w := wr.drew) d3 hg4 (only_ne hbG); have t4 : w4.cell? ⟨bb, off + z * 7 + 4, none⟩ = some (.int .i64 x4) := cell_frS (w := wr.drew) d4 hg4 (only_ne hbG); have t5 : w4.cell? ⟨bb, off + z * 7 + 5, none⟩ = some (.int .i64 x5) := cell_frS (w := wr.drew) d5 hg4 (only_ne hbG); have t6 : w4.cell? ⟨bb, off + z * 7 + 6, none⟩ = some (.int .i64 x6) := cell_frS (w := wr.drew) d6 hg4 (only_ne hbG); have hl4' : (doesP ps3 x0 x1 x2 x3 x4 x5 x6).length = p := hl4; have P5 := hid_ (((P.out.keep ((Fr.refl none_ wr).drew)).swap.step ht4 ho4 hs4 hl4 hb4 hf4 hla4 hg4).swap); clear ht4 ho4 hs4 hl4 hb4 hf4 hla4 hg4)
                  | go_simp)
                all_goals
                  clear fz0 fz1 r40 r41 t0 t1 t2 t3 t4 t5 t6 d0 d1 d2 d3 d4 d5 d6 r0 r1
                  go_wp2
                  go_roundw
                  case rel => exact ⟨(z : Int) - 1, z, _, B4, c4, L4, by omega, by omega, by omega, by go_num, P5.out⟩
                  case measure => simp [intOf]
              · have hjk : j = k := by omega
                have hkz : ¬ (k : Int) ≤ z := by omega
                have r0 : wr.cell? ⟨R, 0, none⟩ = some (.int .i64 p) := P.out.a.b.cell' rfl
                have r1 : wr.cell? ⟨R, 1, none⟩ = some (.slice B2 L2.length c2) := P.out.a.b.cell' rfl
                go_wp2_with fail
                refine (same_pl P.out.a).mono ?_
                rintro e w5 ⟨rfl, hf5⟩
                have P5 := hid_ (P.out.keep hf5)
                clear hf5 r0 r1
                have r0 : w5.cell? ⟨QQ, 0, none⟩ = some (.int .i64 p) := P5.out.c.b.cell' rfl
                have r1 : w5.cell? ⟨QQ, 1, none⟩ = some (.slice B3 L3.length c3) := P5.out.c.b.cell' rfl
                go_wp2_with fail
                refine (same_pl P5.out.c).mono ?_
                rintro e w6 ⟨rfl, hf6⟩
                have F6 := hid_ (P5.out.a.fr.then_none hf6)
                clear hf6 r0 r1
                go_wp2_with fail
                refine (awake5 _).mono ?_
                rintro e w7 ⟨rfl, hf7⟩
                have F7 := hid_ (F6.out.then_none hf7)
                clear hf7
                go_wp2
                go_ret
                exact ⟨rfl, F7.out⟩
      · obtain ⟨wz, hwz⟩ : ∃ wz, wz = ((w4.setCell ⟨wr.heap.size, 0, none⟩ (.int .i64 p)).setCell ⟨wr.heap.size, 1, none⟩ (.slice B L.length cc)) := ⟨_, rfl⟩
        have hfz : Fr (only wr.heap.size) w4 wz := by rw [hwz]; exact ((Fr.refl (only wr.heap.size) w4).setCell (p := ⟨wr.heap.size, 0, none⟩) (.inl (Eq.refl _)) (.int .i64 p)).setCell (p := ⟨wr.heap.size, 1, none⟩) (.inl (Eq.refl _)) (.slice B L.length cc)
        have Z : Hid (Two w wz (w.heap.size + 1) w.heap.size R T2 G2 wr.heap.size p ps ps (.slice B L.length cc) (.slice B L.length cc) L L) := hid_ (by
          have h2 := P.out.b.lt
          have h3 := P.out.tb.lt
          have h4 := P.out.fr.size
          have h5 : wr.heap.size + 1 ≤ G2 := by have := C4.out.2.2; simpa using this
          have h6 : wr.heap.size + 1 ≤ T2 := by have := C4.out.2.1; simpa using this
          have h1 := P4.out.far hfz h4 Y4.out (by decide) (by decide) (by omega) (by omega)
          exact ⟨h1, ⟨by rw [hwz]; exact (Y4.out.set_ 0 _).set_ 1 _, C4.out.1.fr hfz (only_ne (by omega)) (only_ne (by omega)), h1.own, h1.sim, h1.la, h1.fr, h4, by omega, h1.h0, h1.len⟩, by omega, by omega⟩)
        clear hfz r0 r1 hRl q0 q1 q2 q3
        obtain ⟨A5, hA5⟩ : ∃ A5, (if cap = k then A else Option.map (fun x => x.add (k * 7)) A) = A5 := ⟨_, rfl⟩
        have HR2 := hid_ (HR.out.from_ hmn hc)
        rw [hA5] at HR2
        go_wp2_with fail
        clear hA5
        rw [← hwz]
        clear hwz P4 P3 P
        obtain ⟨QQ, hQQ⟩ : ∃ QQ, QQ = wr.heap.size := ⟨_, rfl⟩
        rw [← hQQ] at Z
        simp only [← hQQ]
        clear hQQ
        go_loopw [68] (fun i wx => ∃ (k2 : Nat) (ps2 : List Pg) (B2 : Option Addr) (c2 : Nat) (L2 : List Rp), k2 ≤ n - k ∧ i = .int .i64 k2 ∧ Two w wx (w.heap.size + 1) w.heap.size R T2 G2 QQ p ps2 ps (.slice B2 L2.length c2) (.slice B L.length cc) L2 L) (fun i _ => (n - k) - (intOf i).toNat)
        case atStart => exact ⟨0, _, B, cc, L, Nat.zero_le _, rfl, Z.out⟩
        case round =>
          obtain ⟨k2, ps2, B2, c2, L2, hk2, rfl, hP⟩ := hrel
          have P := hid_ hP
          clear hP Z
          by_cases hlt : k2 < n - k
          · obtain ⟨bb, off, rfl, hb, x0, x1, x2, x3, x4, x5, x6, d0, d1, d2, d3, d4, d5, d6⟩ := HR2.out.at P.out.a.fr hlt
            have r0 : wr.cell? ⟨R, 0, none⟩ = some (.int .i64 p) := P.out.a.b.cell' rfl
            have r1 : wr.cell? ⟨R, 1, none⟩ = some (.slice B2 L2.length c2) := P.out.a.b.cell' rfl
            have hRl : R < wr.heap.size := P.out.a.b.lt
            go_wp2_with fail
            refine (does_pl (P.out.a.keep ((Fr.refl none_ wr).alloc (.cells #[.int .i64 x0, .int .i64 x1, .bool x2, .int .i64 x3, .int .i64 x4, .int .i64 x5, .int .i64 x6] 34))) x0 x1 x2 x3 x4 x5 x6).mono ?_
            rintro e w4 ⟨B4, c4, L4, rfl, ht4, ho4, hs4, hl4, hb4, hf4, hla4, hg4⟩
            obtain ⟨ps4, hps4⟩ : ∃ ps4, ps4 = doesP ps2 x0 x1 x2 x3 x4 x5 x6 := ⟨_, rfl⟩
            rw [← hps4] at ht4 hs4 hl4
            have hR4 : R < w4.heap.size := hb4.lt
            have fz0 : w4.frozen? ⟨R, 0, none⟩ = false := hb4.frozen 0
            have fz1 : w4.frozen? ⟨R, 1, none⟩ = false := hb4.frozen 1
            have r40 : w4.cell? ⟨R, 0, none⟩ = some (.int .i64 p) := hb4.cell' rfl
            have r41 : w4.cell? ⟨R, 1, none⟩ = some (.slice B2 L2.length c2) := hb4.cell' rfl
            have P5 := hid_ ((P.out.keep ((Fr.refl none_ wr).alloc (.cells #[.int .i64 x0, .int .i64 x1, .bool x2, .int .i64 x3, .int .i64 x4, .int .i64 x5, .int .i64 x6] 34))).step ht4 ho4 hs4 hl4 hb4 hf4 hla4 hg4)
            clear ht4 ho4 hs4 hl4 hb4 hf4 hla4 hg4 hps4 d0 d1 d2 d3 d4 d5 d6
            go_wp2
            go_roundw
            case rel => exact ⟨k2 + 1, ps4, B4, c4, L4, by omega, by go_num, P5.out⟩
            case measure => simp [intOf]; omega
          · obtain rfl : k2 = n - k := by omega
            clear hlt
            go_wp2_with fail
            go_loopw [17] (fun i wx => ∃ (z : Int) (j : Nat) (ps3 : List Pg) (B3 : Option Addr) (c3 : Nat) (L3 : List Rp), k ≤ j ∧ j ≤ n ∧ z + 1 = j ∧ i = .int .i64 z ∧ Two w wx (w.heap.size + 1) w.heap.size R T2 G2 QQ p ps2 ps3 (.slice B2 L2.length c2) (.slice B3 L3.length c3) L2 L3) (fun i _ => (intOf i + 1).toNat)
            case atStart => exact ⟨_, n, _, B, cc, L, hmn, Nat.le_refl _, by omega, rfl, P.out⟩
            case round =>
              obtain ⟨z, j, ps3, B3, c3, L3, hkj, hjn, hzj, rfl, hP⟩ := hrel
              clear P
              have P := hid_ hP
              clear hP
              by_cases hlt : k < j
              · obtain ⟨z, rfl⟩ : ∃ z' : Nat, z = z' := ⟨j - 1, by omega⟩
                obtain ⟨bb, off, hAb, hb, x0, x1, x2, x3, x4, x5, x6, d0, d1, d2, d3, d4, d5, d6⟩ := HR.out.at P.out.a.fr (show z < n by omega)
                have r0 : wr.cell? ⟨QQ, 0, none⟩ = some (.int .i64 p) := P.out.c.b.cell' rfl
                have r1 : wr.cell? ⟨QQ, 1, none⟩ = some (.slice B3 L3.length c3) := P.out.c.b.cell' rfl
                have hRl : QQ < wr.heap.size := P.out.c.b.lt
                have hkz : (k : Int) ≤ (z : Int) := by omega
                have hzn : (z : Int) < (n : Int) := by omega
                have hzn2 : z < n := by omega
                subst hAb
                have hbG : bb ≠ G2 := by have := P.out.c.hG; omega
                have hbQ : bb ≠ QQ := by have := P.out.c.hR; omega
                go_wp2_with fail
                go_region_law (first
                  | (go_simp; go_at_call 10; refine (does_pl (P.out.c.keep ((Fr.refl none_ wr).drew)) x0 x1 x2 x3 x4 x5 x6).mono ?_; rintro e w4 ⟨B4, c4, L4, rfl, ht4, ho4, hs4, hl4, hb4, hf4, hla4, hg4⟩; have fz0 : w4.frozen? ⟨QQ, 0, none⟩ = false := hb4.frozen 0; have fz1 : w4.frozen? ⟨QQ, 1, none⟩ = false := hb4.frozen 1; have r40 : w4.cell? ⟨QQ, 0, none⟩ = some (.int .i64 p) := hb4.cell' rfl; have r41 : w4.cell? ⟨QQ, 1, none⟩ = some (.slice B3 L3.length c3) := hb4.cell' rfl; have t0 : w4.cell? ⟨bb, off + z * 7, none⟩ = some (.int .i64 x0) := cell_frS (w := wr.drew) d0 hg4 (only_ne hbG); have t1 : w4.cell? ⟨bb, off + z * 7 + 1, none⟩ = some (.int .i64 x1) := cell_frS (w := wr.drew) d1 hg4 (only_ne hbG); have t2 : w4.cell? ⟨bb, off + z * 7 + 2, none⟩ = some (.bool x2) := cell_frS (w := wr.drew) d2 hg4 (only_ne hbG); have t3 : w4.cell? ⟨bb, off + z * 7 + 3, none⟩ = some (.int .i64 x3) := cell_frS (w := wr.drew) d3 hg4 (only_ne hbG); have t4 : w4.cell? ⟨bb, off + z * 7 + 4, none⟩ = some (.int .i64 x4) := cell_frS (w := wr.drew) d4 hg4 (only_ne hbG); have t5 : w4.cell? ⟨bb, off + z * 7 + 5, none⟩ = some (.int .i64 x5) := cell_frS (w := wr.drew) d5 hg4 (only_ne hbG); have t6 : w4.cell? ⟨bb, off + z * 7 + 6, none⟩ = some (.int .i64 x6) := cell_frS (w := wr.drew) d6 hg4 (only_ne hbG); have hl4' : (doesP ps3 x0 x1 x2 x3 x4 x5 x6).length = p := hl4; have P5 := hid_ (((P.out.keep ((Fr.refl none_ wr).drew)).swap.step ht4 ho4 hs4 hl4 hb4 hf4 hla4 hg4).swap); clear ht4 ho4 hs4 hl4 hb4 hf4 hla4 hg4)
                  | go_simp)
                all_goals
                  clear fz0 fz1 r40 r41 t0 t1 t2 t3 t4 t5 t6 d0 d1 d2 d3 d4 d5 d6 r0 r1
                  go_wp2
                  go_roundw
                  case rel => exact ⟨(z : Int) - 1, z, _, B4, c4, L4, by omega, by omega, by omega, by go_num, P5.out⟩
                  case measure => simp [intOf]
              · have hjk : j = k := by omega
                have hkz : ¬ (k : Int) ≤ z := by omega
                have r0 : wr.cell? ⟨R, 0, none⟩ = some (.int .i64 p) := P.out.a.b.cell' rfl
                have r1 : wr.cell? ⟨R, 1, none⟩ = some (.slice B2 L2.length c2) := P.out.a.b.cell' rfl
                go_wp2_with fail
                refine (same_pl P.out.a).mono ?_
                rintro e w5 ⟨rfl, hf5⟩
                have P5 := hid_ (P.out.keep hf5)
                clear hf5 r0 r1
                have r0 : w5.cell? ⟨QQ, 0, none⟩ = some (.int .i64 p) := P5.out.c.b.cell' rfl
                have r1 : w5.cell? ⟨QQ, 1, none⟩ = some (.slice B3 L3.length c3) := P5.out.c.b.cell' rfl
                go_wp2_with fail
                refine (same_pl P5.out.c).mono ?_
                rintro e w6 ⟨rfl, hf6⟩
                have F6 := hid_ (P5.out.a.fr.then_none hf6)
                clear hf6 r0 r1
                go_wp2_with fail
                refine (awake5 _).mono ?_
                rintro e w7 ⟨rfl, hf7⟩
                have F7 := hid_ (F6.out.then_none hf7)
                clear hf7
                go_wp2
                go_ret
                exact ⟨rfl, F7.out⟩

theorem copies_walk_i (p : Int) (hp : (Lit.int .i64 p).wf = true) (A : Option Addr) (n cap : Nat) (hc : n ≤ cap) (hm : cap ≤ maxLen) (g : Int) (hg : (Lit.int .u8 g).wf = true) (w : World) (hrd : Do5At w A n) (hL : Laid w) :
    Calls Tryd.prog 6 #[.int .i64 p, .slice A n cap, .int .u8 g] w fun e w' => e = .returned (.bool true) ∧ Fr none_ w w' := by
  obtain ⟨h0, h1⟩ := wf_u8 hg
  obtain ⟨gv, rfl⟩ : ∃ gv : Nat, g = gv := ⟨g.toNat, by omega⟩
  exact copies_walk p hp A n cap hc hm gv (by omega) w hrd hL
end Go.Proofs.YtnlpnbllnddaaaaDoor

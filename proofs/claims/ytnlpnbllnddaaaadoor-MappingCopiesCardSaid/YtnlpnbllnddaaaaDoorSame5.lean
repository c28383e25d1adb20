/- Layer 5's same: the used pages and their heads are the document's. -/
import Derived.Test.YtnlpnbllnddaaaaDoorDoes5c
namespace Go.Proofs.YtnlpnbllnddaaaaDoor
open Go.RowKit
set_option linter.unusedVariables false

def used (ps : List Pg) : List Nat := usedTo ps ps.length
structure Sm (w w' : World) (T G : Nat) (ps : List Pg) (v : Value) (L : List Rp) : Prop where
  b0 : Blk w' w.heap.size 28 #[.int .i64 ps.length, v]
  fr : Fr none_ w w'
  own : ROwn w' v L
  tb : Tbl w' T G ps
  la : Laid w'
theorem Sm.keep {w w' w2 : World} {T G : Nat} {ps : List Pg} {v : Value} {L : List Rp} (h : Sm w w' T G ps v L) (hf : Fr none_ w' w2) : Sm w w2 T G ps v L :=
  ⟨h.b0.fr hf id, h.fr.then_none hf, own_none h.own hf, h.tb.fr hf id id, h.la.fr hf id⟩
theorem cell_fr {w w' : World} {p : Addr} {v : Value} (h : w.cell? p = some v) (hf : Fr none_ w w') : w'.cell? p = some v :=
  (World.cell?_of_block (hf.block _ (World.block_lt_of_cell? w _ h) id)).trans h
theorem cell_frS {S : Nat → Prop} {w w' : World} {p : Addr} {v : Value} (h : w.cell? p = some v) (hf : Fr S w w') (hS : ¬ S p.block) : w'.cell? p = some v :=
  (World.cell?_of_block (hf.block _ (World.block_lt_of_cell? w _ h) hS)).trans h
theorem Sm.keep1 {w w' w2 : World} {T G : Nat} {ps : List Pg} {v : Value} {L : List Rp} (h : Sm w w' T G ps v L) {b : Nat} {cs : Array Value} (hf : Fr (only b) w' w2) (hb : Blk w' b 32 cs) (hlt : w.heap.size < b) (h0 : 0 < b) : Sm w w2 T G ps v L := by
  have hTn : T ≠ b := by obtain ⟨cap, cur, ht⟩ := h.tb; exact Blk.ne_ ht.hT hb (by decide)
  have hGn : G ≠ b := by obtain ⟨cap, cur, ht⟩ := h.tb; exact Blk.ne_ ht.hG hb (by decide)
  exact ⟨h.b0.fr hf (only_ne (by omega)), h.fr.then_only hf (.inr (by omega)), own_fr h.own hf (fun k hk e => own_blk_ne h.own hb (by decide) (by rw [hk, show k = b from e])), h.tb.fr hf (only_ne hTn) (only_ne hGn), h.la.fr hf (only_ne (by omega))⟩

set_option maxHeartbeats 4000000 in
theorem same_ok (T G : Nat) (ps : List Pg) (A : Option Addr) (cp : Nat) (L : List Rp) (w : World) (hT : Tbl w T G ps) (ho : ROwn w (.slice A L.length cp) L) (hs : Sim ps L) (hL : Laid w) (h0 : 0 ≠ G) :
    Calls Tryd.prog 11 #[.pointer (some ⟨T, 0, none⟩), rtab ps.length (.slice A L.length cp)] w fun e w' => e = .returned (.bool true) ∧ Fr none_ w w' := by
  have HS := hid_ hs
  go_enter Tryd.func11, Tryd.ntmps11
  obtain ⟨w0, hw0⟩ : ∃ w0, w0 = w.alloc (rbox ps.length (.slice A L.length cp)) := ⟨_, rfl⟩
  have hf0 : Fr none_ w w0 := by rw [hw0]; exact (Fr.refl none_ w).alloc _
  have M0 : Hid (Sm w w0 T G ps (.slice A L.length cp) L) := hid_ ⟨by rw [hw0]; exact Blk.new w _ _, hf0, own_none ho hf0, hT.fr hf0 id id, hL.fr hf0 id⟩
  clear hf0 hT ho hs hL h0
  go_wp2_with fail
  change Code.wp _ _ _ _ (w.alloc (rbox ps.length (.slice A L.length cp)))
  rw [← hw0]
  clear hw0
  have c0 : w0.cell? ⟨w.heap.size, 0, none⟩ = some (.int .i64 ps.length) := M0.out.b0.cell' rfl
  have c1 : w0.cell? ⟨w.heap.size, 1, none⟩ = some (.slice A L.length cp) := M0.out.b0.cell' rfl
  go_region_held3 (fun w' => w'.cell? ⟨w.heap.size, 0, none⟩ = some (.int .i64 ps.length) ∧ w'.cell? ⟨w.heap.size, 1, none⟩ = some (.slice A L.length cp))
    (first | exact ⟨c0, c1⟩ | exact ⟨M1.out.b0.cell' rfl, M1.out.b0.cell' rfl⟩ | exact ⟨M2.out.b0.cell' rfl, M2.out.b0.cell' rfl⟩)
    (first
      | (go_at_call 19; refine (pages_ok T G ps _ (M0.out.keep ((Fr.refl none_ w0).drew)).tb).mono ?_; rintro e w1 ⟨A1, k1, rfl, ho1, hf1⟩; have O1 := hid_ (own_base ho1 (by have := M0.out.b0.lt; simp; omega) : w1.ownsRow w.heap.size _ _ _ _ _); have M1 := hid_ (M0.out.keep (((Fr.refl none_ w0).drew).then_none hf1)); clear ho1 hf1)
      | (go_at_call 14; refine (rpages_any ps A cp L _ M1.out.own HS.out).mono ?_; rintro e w2 ⟨A2, k2, rfl, ho2, hf2⟩; have O2 := hid_ (own_base ho2 (by have := M1.out.b0.lt; omega) : w2.ownsRow w.heap.size _ _ _ _ _); have O1 := hid_ (own_none O1.out hf2); have M2 := hid_ (M1.out.keep hf2); clear ho2 hf2))
  clear c0 c1
  obtain ⟨U, hU⟩ : ∃ U, U = usedTo ps ps.length := ⟨_, rfl⟩
  have hUl : U.length ≤ 1000 := by
    have h1 := List.length_filter_le (fun i => (ps[i]?.map (·.1)).getD false) (List.range ps.length)
    have h2 := HS.out.len
    rw [hU]
    unfold usedTo
    simp at h1
    omega
  rw [← hU] at O1 O2
  simp only [← hU]
  clear hU
  go_wp2_with fail
  go_loopw [23] (fun i wr => ∃ k : Nat, k ≤ U.length ∧ i = .int .i64 k ∧ Fr none_ w2 wr) (fun i _ => U.length - (intOf i).toNat)
  case atStart => exact ⟨0, Nat.zero_le _, rfl, Fr.refl _ _⟩
  case round =>
    obtain ⟨k, hk, rfl, hF⟩ := hrel
    have F := hid_ hF
    have M := hid_ (M2.out.keep hF)
    have P1 := hid_ (own_none O1.out hF)
    have P2 := hid_ (own_none O2.out hF)
    clear hF
    by_cases hlt : k < U.length
    · obtain ⟨g1, k1', e1, _, l1⟩ := P1.out.form (by omega)
      obtain ⟨g2, k2', e2, _, l2⟩ := P2.out.form (by omega)
      obtain ⟨rfl, rfl⟩ : A1 = some ⟨g1, 0, none⟩ ∧ k1 = k1' := by injection e1 with a b c; exact ⟨a, c⟩
      obtain ⟨rfl, rfl⟩ : A2 = some ⟨g2, 0, none⟩ ∧ k2 = k2' := by injection e2 with a b c; exact ⟨a, c⟩
      obtain ⟨u, hu⟩ : ∃ u, U[k]? = some u := ⟨_, List.getElem?_eq_getElem hlt⟩
      have hx : (ints U)[k]? = some (.int .i64 u) := by unfold ints; rw [List.getElem?_map, hu]; rfl
      have d1 := P1.out.cells (g := g1) rfl k _ hx
      have d2 := P2.out.cells (g := g2) rfl k _ hx
      rw [add_lit, Nat.zero_add] at d1 d2
      clear e1 e2
      go_wp2_with fail
      refine (head_any T G ps _ M.out.tb u).mono ?_
      rintro e w3 ⟨rfl, hf3⟩
      have M3 := hid_ (M.out.keep hf3)
      have F3 := hid_ (F.out.then_none hf3)
      have x1 : w3.cell? ⟨g1, k, none⟩ = some (.int .i64 u) := (World.cell?_of_block (hf3.block g1 l1 id)).trans d1
      have x2 : w3.cell? ⟨g2, k, none⟩ = some (.int .i64 u) := (World.cell?_of_block (hf3.block g2 l2 id)).trans d2
      have c0 : w3.cell? ⟨w.heap.size, 0, none⟩ = some (.int .i64 ps.length) := M3.out.b0.cell' rfl
      have c1 : w3.cell? ⟨w.heap.size, 1, none⟩ = some (.slice A L.length cp) := M3.out.b0.cell' rfl
      have l31 : g1 < w3.heap.size := World.block_lt_of_cell? w3 _ x1
      have l32 : g2 < w3.heap.size := World.block_lt_of_cell? w3 _ x2
      have l30 : w.heap.size < w3.heap.size := M3.out.b0.lt
      clear hf3 d1 d2
      go_wp2_with fail
      obtain ⟨wa, hwa⟩ : ∃ wa, wa = w3.alloc (.cells #[.int .i64 (headP ps u).1, .int .i64 (headP ps u).2] 32) := ⟨_, rfl⟩
      have hfa : Fr none_ w3 wa := by rw [hwa]; exact (Fr.refl none_ w3).alloc _
      have Ma := hid_ (M3.out.keep hfa)
      have FA := hid_ (F3.out.then_none hfa)
      have la9 : w2.heap.size ≤ wa.heap.size := FA.out.size
      have Xa : Hid (Blk wa w3.heap.size 32 #[.int .i64 (headP ps u).1, .int .i64 (headP ps u).2]) := hid_ (by rw [hwa]; exact Blk.new w3 _ _)
      change Code.wp _ _ _ _ (w3.alloc (.cells #[.int .i64 (headP ps u).1, .int .i64 (headP ps u).2] 32))
      rw [← hwa]
      have y1 : wa.cell? ⟨g1, k, none⟩ = some (.int .i64 u) := (World.cell?_of_block (hfa.block g1 l31 id)).trans x1
      have y2 : wa.cell? ⟨g2, k, none⟩ = some (.int .i64 u) := (World.cell?_of_block (hfa.block g2 l32 id)).trans x2
      have y3 : wa.cell? ⟨w.heap.size, 0, none⟩ = some (.int .i64 ps.length) := Ma.out.b0.cell' rfl
      have y4 : wa.cell? ⟨w.heap.size, 1, none⟩ = some (.slice A L.length cp) := Ma.out.b0.cell' rfl
      have la1 : g1 < wa.heap.size := World.block_lt_of_cell? wa _ y1
      have la0 : w.heap.size < wa.heap.size := Ma.out.b0.lt
      have la3 : w3.heap.size < wa.heap.size := Xa.out.lt
      have la2 : g2 < wa.heap.size := World.block_lt_of_cell? wa _ y2
      clear hwa hfa x1 x2 c0 c1 l31 l32 l30
      go_region_held3 (fun w' => w'.cell? ⟨w.heap.size, 0, none⟩ = some (.int .i64 ps.length) ∧ w'.cell? ⟨w.heap.size, 1, none⟩ = some (.slice A L.length cp) ∧ w'.cell? ⟨g2, k, none⟩ = some (.int .i64 u))
        (first | exact ⟨y3, y4, y2⟩ | (have T := Mb.out; exact ⟨T.b0.cell' rfl, T.b0.cell' rfl, z2⟩) | (have T := Mb.out; exact ⟨cell_fr (T.b0.cell' rfl) ((Fr.refl none_ _).alloc _), cell_fr (T.b0.cell' rfl) ((Fr.refl none_ _).alloc _), cell_fr z2 ((Fr.refl none_ _).alloc _)⟩) | exact ⟨cell_fr y3 ((Fr.refl none_ _).drew.alloc _), cell_fr y4 ((Fr.refl none_ _).drew.alloc _), cell_fr y2 ((Fr.refl none_ _).drew.alloc _)⟩ | (have FW := ((Fr.refl (only wa.heap.size) w4).setCell (p := ⟨wa.heap.size, 0, none⟩) (.inl (Eq.refl _)) (.int .i64 (headP ps u).1)).setCell (p := ⟨wa.heap.size, 1, none⟩) (.inl (Eq.refl _)) (.int .i64 (headP ps u).2); exact ⟨cell_frS (Mb.out.b0.cell' rfl) FW (only_ne (by show w.heap.size ≠ wa.heap.size; omega)), cell_frS (Mb.out.b0.cell' rfl) FW (only_ne (by show w.heap.size ≠ wa.heap.size; omega)), cell_frS z2 FW (only_ne (by show g2 ≠ wa.heap.size; omega))⟩))
        (first
          | (go_at_call 20; refine (rhead_any ps A cp L _ (Ma.out.keep ((Fr.refl none_ wa).drew)).own HS.out u).mono ?_; rintro e w4 ⟨rfl, hf4⟩; have Mb := hid_ (Ma.out.keep (((Fr.refl none_ wa).drew).then_none hf4)); have FB := hid_ (FA.out.then_none (((Fr.refl none_ wa).drew).then_none hf4)); have Xb := hid_ (Xa.out.fr (((Fr.refl none_ wa).drew).then_none hf4) id); have z1 := cell_fr y1 (((Fr.refl none_ wa).drew).then_none hf4); have z2 := cell_fr y2 (((Fr.refl none_ wa).drew).then_none hf4); clear hf4)
          | (go_at_call 20; refine (rhead_any ps A cp L _ (Ma.out.keep (((Fr.refl none_ wa).drew).alloc (.cells #[.int .i64 0, .int .i64 0] 32))).own HS.out u).mono ?_; rintro e w4 ⟨rfl, hf4⟩; have Mb := hid_ (Ma.out.keep ((((Fr.refl none_ wa).drew).alloc (.cells #[.int .i64 0, .int .i64 0] 32)).then_none hf4)); have FB := hid_ (FA.out.then_none ((((Fr.refl none_ wa).drew).alloc (.cells #[.int .i64 0, .int .i64 0] 32)).then_none hf4)); have Xb := hid_ (Xa.out.fr ((((Fr.refl none_ wa).drew).alloc (.cells #[.int .i64 0, .int .i64 0] 32)).then_none hf4) id); have z1 := cell_fr y1 ((((Fr.refl none_ wa).drew).alloc (.cells #[.int .i64 0, .int .i64 0] 32)).then_none hf4); have z2 := cell_fr y2 ((((Fr.refl none_ wa).drew).alloc (.cells #[.int .i64 0, .int .i64 0] 32)).then_none hf4); have Yb := hid_ ((Blk.new wa.drew 32 #[.int .i64 0, .int .i64 0]).fr hf4 id : Blk w4 wa.heap.size _ _); have q0 : w4.cell? ⟨wa.heap.size, 0, none⟩ = some (.int .i64 0) := Yb.out.cell' rfl; have q1 : w4.cell? ⟨wa.heap.size, 1, none⟩ = some (.int .i64 0) := Yb.out.cell' rfl; have q2 := Yb.out.frozen 0; have q3 := Yb.out.frozen 1; have q4 : w4.cell? ⟨wa.drew.heap.size, 0, none⟩ = some (.int .i64 0) := q0; have q5 : w4.cell? ⟨wa.drew.heap.size, 1, none⟩ = some (.int .i64 0) := q1; have q6 : w4.frozen? ⟨wa.drew.heap.size, 0, none⟩ = false := q2; have q7 : w4.frozen? ⟨wa.drew.heap.size, 1, none⟩ = false := q3; have q2 : w4.frozen? ⟨wa.heap.size, 0, none⟩ = false := q2; have q3 : w4.frozen? ⟨wa.heap.size, 1, none⟩ = false := q3; clear hf4))
      · obtain ⟨wz, hwz⟩ : ∃ wz, wz = w4.alloc (.cells #[.int .i64 (headP ps u).1, .int .i64 (headP ps u).2] 32) := ⟨_, rfl⟩
        have hfz : Fr none_ w4 wz := by rw [hwz]; exact (Fr.refl none_ w4).alloc _
        have Mz := hid_ (Mb.out.keep hfz)
        have Xz := hid_ (Xb.out.fr hfz id)
        have Yz : Hid (Blk wz w4.heap.size 32 #[.int .i64 (headP ps u).1, .int .i64 (headP ps u).2]) := hid_ (by rw [hwz]; exact Blk.new w4 _ _)
        have v1 := cell_fr z1 hfz
        have v2 := cell_fr z2 hfz
        have FZ : Hid (Fr none_ w2 wz) := hid_ (FB.out.then_none hfz)
        clear hfz z1 z2
        change Exit.then _ _ _ _ (w4.alloc (.cells #[.int .i64 (headP ps u).1, .int .i64 (headP ps u).2] 32))
        have s1 : wz.cell? ⟨w3.heap.size, 0, none⟩ = some (.int .i64 (headP ps u).1) := Xz.out.cell' rfl
        have s2 : wz.cell? ⟨w3.heap.size, 1, none⟩ = some (.int .i64 (headP ps u).2) := Xz.out.cell' rfl
        have s3 : wz.cell? ⟨w4.heap.size, 0, none⟩ = some (.int .i64 (headP ps u).1) := Yz.out.cell' rfl
        have s4 : wz.cell? ⟨w4.heap.size, 1, none⟩ = some (.int .i64 (headP ps u).2) := Yz.out.cell' rfl
        go_wp2_with fail
        rw [← hwz]
        clear hwz
        go_region_held3 (fun w' => w'.cell? ⟨g1, k, none⟩ = some (.int .i64 u) ∧ w'.cell? ⟨g2, k, none⟩ = some (.int .i64 u) ∧ w'.cell? ⟨w3.heap.size, 0, none⟩ = some (.int .i64 (headP ps u).1) ∧ w'.cell? ⟨w3.heap.size, 1, none⟩ = some (.int .i64 (headP ps u).2) ∧ w'.cell? ⟨w4.heap.size, 0, none⟩ = some (.int .i64 (headP ps u).1) ∧ w'.cell? ⟨w4.heap.size, 1, none⟩ = some (.int .i64 (headP ps u).2))
          (first | exact ⟨v1, v2, s1, s2, s3, s4⟩ | exact ⟨cell_fr v1 F6.out, cell_fr v2 F6.out, cell_fr s1 F6.out, cell_fr s2 F6.out, cell_fr s3 F6.out, cell_fr s4 F6.out⟩)
          (first | (go_at_call 17; refine (code_any (whyP ps u) _ (Mz.out.keep ((Fr.refl none_ wz).drew)).la).mono ?_; rintro e w6 ⟨rfl, hf6⟩; have F6 := hid_ (((Fr.refl none_ wz).drew).then_none hf6); clear hf6))
        have MM := hid_ ((M2.out.keep F.out).fr)
        have R6 : Hid (Fr none_ w2 w6) := hid_ (FZ.out.then_none F6.out)
        clear s1 s2 s3 s4 v1 v2
        go_wp2
        go_roundw
        case rel => exact ⟨k + 1, by omega, by go_num, R6.out⟩
        case measure => simp [intOf]; omega
      · obtain ⟨wz, hwz⟩ : ∃ wz, wz = ((w4.setCell ⟨wa.heap.size, 0, none⟩ (.int .i64 (headP ps u).1)).setCell ⟨wa.heap.size, 1, none⟩ (.int .i64 (headP ps u).2)) := ⟨_, rfl⟩
        have hfz : Fr (only wa.heap.size) w4 wz := by rw [hwz]; exact ((Fr.refl (only wa.heap.size) w4).setCell (p := ⟨wa.heap.size, 0, none⟩) (.inl (Eq.refl _)) (.int .i64 (headP ps u).1)).setCell (p := ⟨wa.heap.size, 1, none⟩) (.inl (Eq.refl _)) (.int .i64 (headP ps u).2)
        have Mz := hid_ (Mb.out.keep1 hfz Yb.out la0 (by omega))
        have Xz := hid_ (Xb.out.fr hfz (only_ne (by omega)))
        have Yz : Hid (Blk wz wa.heap.size 32 #[.int .i64 (headP ps u).1, .int .i64 (headP ps u).2]) := hid_ (by rw [hwz]; exact (Yb.out.set_ 0 _).set_ 1 _)
        have v1 := cell_frS z1 hfz (only_ne (by show g1 ≠ wa.heap.size; omega))
        have v2 := cell_frS z2 hfz (only_ne (by show g2 ≠ wa.heap.size; omega))
        have FZ : Hid (Fr none_ w2 wz) := hid_ (FB.out.then_only hfz (.inr (by omega)))
        clear hfz z1 z2
        clear q0 q1 q2 q3 q4 q5 q6 q7
        have s1 : wz.cell? ⟨w3.heap.size, 0, none⟩ = some (.int .i64 (headP ps u).1) := Xz.out.cell' rfl
        have s2 : wz.cell? ⟨w3.heap.size, 1, none⟩ = some (.int .i64 (headP ps u).2) := Xz.out.cell' rfl
        have s3 : wz.cell? ⟨wa.heap.size, 0, none⟩ = some (.int .i64 (headP ps u).1) := Yz.out.cell' rfl
        have s4 : wz.cell? ⟨wa.heap.size, 1, none⟩ = some (.int .i64 (headP ps u).2) := Yz.out.cell' rfl
        go_wp2_with fail
        rw [← hwz]
        clear hwz
        go_region_held3 (fun w' => w'.cell? ⟨g1, k, none⟩ = some (.int .i64 u) ∧ w'.cell? ⟨g2, k, none⟩ = some (.int .i64 u) ∧ w'.cell? ⟨w3.heap.size, 0, none⟩ = some (.int .i64 (headP ps u).1) ∧ w'.cell? ⟨w3.heap.size, 1, none⟩ = some (.int .i64 (headP ps u).2) ∧ w'.cell? ⟨wa.heap.size, 0, none⟩ = some (.int .i64 (headP ps u).1) ∧ w'.cell? ⟨wa.heap.size, 1, none⟩ = some (.int .i64 (headP ps u).2))
          (first | exact ⟨v1, v2, s1, s2, s3, s4⟩ | exact ⟨cell_fr v1 F6.out, cell_fr v2 F6.out, cell_fr s1 F6.out, cell_fr s2 F6.out, cell_fr s3 F6.out, cell_fr s4 F6.out⟩)
          (first | (go_at_call 17; refine (code_any (whyP ps u) _ (Mz.out.keep ((Fr.refl none_ wz).drew)).la).mono ?_; rintro e w6 ⟨rfl, hf6⟩; have F6 := hid_ (((Fr.refl none_ wz).drew).then_none hf6); clear hf6))
        have MM := hid_ ((M2.out.keep F.out).fr)
        have R6 : Hid (Fr none_ w2 w6) := hid_ (FZ.out.then_none F6.out)
        clear s1 s2 s3 s4 v1 v2
        go_wp2
        go_roundw
        case rel => exact ⟨k + 1, by omega, by go_num, R6.out⟩
        case measure => simp [intOf]; omega
    · obtain rfl : k = U.length := by omega
      go_wp2
      go_ret
      exact ⟨rfl, M.out.fr⟩
end Go.Proofs.YtnlpnbllnddaaaaDoor

/- Layer 4's does at Load. Written by gen_doload4.py. -/
import Derived.Test.YtfoljojacakkeaaDoorDl4
import Derived.Test.YtfoljojacakkeaaDoorRc4
namespace Go.Proofs.YtfoljojacakkeaaDoor
open Go.RowKit Go.ChangeShapes Go.WideShapes
set_option maxRecDepth 100000
set_option linter.unusedVariables false
def KeyOk4 (R : Rc) : Prop := ∀ (j : Nat) (p : Rw), R.rows[j]? = some p → p.1.size ≤ 9223372036854775000
set_option maxHeartbeats 8000000 in
theorem does_load (a G : Nat) (slots last : Int) (ss : List Sl) (L : List RaP) (A : Option Addr) (c : Nat) (D : Dn) (X : List Rf) (cx : Nat) (XA : Option Addr) (w : World) (h : PlA w a G slots last ss L A c) (hL : Laid w) (hX : Reads w 2 XA X.length (rfFlat X)) (hXl : X.length ≤ 5000) (hD : 0 ≤ D.nn ∧ D.nn ≤ 255) (hks : ∀ p ∈ L, KeyOk4 p.R) (hv : D.verb = 1) :
    Calls Tryd.prog 13 #[.pointer (some ⟨a, 0, none⟩), raV slots last L A c, .agg (doL D).toArray, .slice XA X.length cx] w (DoesPost a G slots last L D A w) := by
  have HLd := hid_ hL
  have HKS := hid_ hks
  clear hL hks
  obtain ⟨w0, hw0⟩ : ∃ z, z = (((w.alloc (.cells (raA slots last L A c) 29)).alloc (.cells (doL D).toArray 42)).alloc (.cells #[.int .i64 0, .int .i64 0, .slice none 0 0] 29)).alloc (.cells #[.int .i64 0, .int .i64 0] 38) := ⟨_, rfl⟩
  have f0 : Fr none_ w w0 := by rw [hw0]; exact ((((Fr.refl none_ w).alloc _).alloc _).alloc _).alloc _
  have BV : Hid (Blk w0 w.heap.size 29 (raA slots last L A c)) := hid_ (by rw [hw0]; exact (((Blk.new w _ _).alloc _).alloc _).alloc _)
  have BD : Hid (Blk w0 (w.heap.size + 1) 42 (doL D).toArray) := hid_ (by rw [hw0]; exact ((Blk.new_at4 _ _ (by simp)).alloc _).alloc _)
  have BA : Hid (Blk w0 (w.heap.size + 1 + 1) 29 #[.int .i64 0, .int .i64 0, .slice none 0 0]) := hid_ (by rw [hw0]; exact (Blk.new_at4 _ _ (by simp)).alloc _)
  have BX : Hid (Blk w0 (w.heap.size + 1 + 1 + 1) 38 #[.int .i64 0, .int .i64 0]) := hid_ (by rw [hw0]; exact Blk.new_at4 _ _ (by simp))
  have hs0 : w0.heap.size = w.heap.size + 1 + 1 + 1 + 1 := by rw [hw0]; simp
  have H := hid_ h
  have HX := hid_ (hX.none_fr f0)
  have F0 := hid_ f0
  clear f0 h hX
  go_enter Tryd.func13, Tryd.ntmps13
  go_upto_region 1 with fail
  change Code.wp _ _ _ _ ((((w.alloc (.cells (raA slots last L A c) 29)).alloc (.cells (doL D).toArray 42)).alloc (.cells #[.int .i64 0, .int .i64 0, .slice none 0 0] 29)).alloc (.cells #[.int .i64 0, .int .i64 0] 38))
  rw [← hw0]
  clear hw0
  have d16 : w0.cell? ⟨w.heap.size + 1, 16, none⟩ = some (.int .i64 D.sl) := BD.out.cell' rfl
  have d17 : w0.cell? ⟨w.heap.size + 1, 17, none⟩ = some (.int .i64 D.gn) := BD.out.cell' rfl
  go_upto_region 2 with fail
  obtain ⟨w1, hw1⟩ : ∃ z, z = w0.alloc (.cells #[.int .i64 D.sl, .int .i64 D.gn] 38) := ⟨_, rfl⟩
  have f1 : Fr none_ w0 w1 := by rw [hw1]; exact (Fr.refl none_ w0).alloc _
  have BT : Hid (Blk w1 w0.heap.size 38 #[.int .i64 D.sl, .int .i64 D.gn]) := hid_ (by rw [hw1]; exact Blk.new w0 _ _)
  change Code.wp _ _ _ _ (w0.alloc (.cells #[.int .i64 D.sl, .int .i64 D.gn] 38))
  rw [← hw1]
  clear hw1 d16 d17
  rw [hs0] at BT
  have S1 : Hid (DoSt w w1 w0.heap.size slots last L A c D D.sl D.gn) := hid_ ⟨BV.out.fr f1 id, BD.out.fr f1 id, BA.out.fr f1 id, BX.out.fr f1 id, BT.out, F0.out.then_none f1⟩
  replace HX := hid_ (HX.out.none_fr f1)
  clear BV BD BA BX BT F0 f1
  go_cut [36] (fun u wq => u = .bool (D.lst && decide (0 < X.length)) ∧ DoSt w wq w0.heap.size slots last L A c D D.sl D.gn ∧ Fr none_ w1 wq)
  case first =>
    have d18 : w1.cell? ⟨w.heap.size + 1, 18, none⟩ = some (.bool D.lst) := S1.out.bd.cell' rfl
    cases hlst : D.lst with
    | false =>
      rw [hlst] at d18
      have HLS := hid_ hlst
      clear hlst
      go_wp2_with fail
      go_meet
      exact ⟨by rw [HLS.out]; rfl, S1.out, Fr.refl _ _⟩
    | true =>
      rw [hlst] at d18
      have HLS := hid_ hlst
      clear hlst
      by_cases hn : 0 < X.length
      · have hd : decide ((0 : Int) < (X.length : Int)) = true := by simpa using hn
        have hq : (true && decide (0 < X.length)) = true := by simpa using hn
        go_wp2_with fail
        go_meet
        exact ⟨by rw [HLS.out, hq], S1.out, Fr.refl _ _⟩
      · have hd : decide ((0 : Int) < (X.length : Int)) = false := by simpa using hn
        have hq : (true && decide (0 < X.length)) = false := by simpa using hn
        go_wp2_with fail
        go_meet
        exact ⟨by rw [HLS.out, hq], S1.out, Fr.refl _ _⟩
  case rest =>
    obtain ⟨rfl, hS, hf⟩ := hcut
    obtain ⟨w2, rfl⟩ : ∃ z : World, z = wc := ⟨_, rfl⟩
    have S2 := hid_ hS
    replace HX := hid_ (HX.out.none_fr hf)
    clear hS hf S1
    obtain ⟨bb, hbb⟩ : ∃ bb, (D.lst && decide (0 < X.length)) = bb := ⟨_, rfl⟩
    rw [hbb]
    have HB := hid_ hbb
    clear hbb
    go_upto_if 36 with fail
    go_cut [49] (fun u wq => ∃ x y, DoSt w wq w0.heap.size slots last L A c D x y)
    case first =>
      cases bb with
      | false =>
        go_wp2_with fail
        go_meet
        exact ⟨_, _, S2.out⟩
      | true =>
        have hn : 0 < X.length := by have := HB.out; simp at this; exact this.2
        have d19 : w2.cell? ⟨w.heap.size + 1, 19, none⟩ = some (.int .u8 D.nn) := S2.out.bd.cell' rfl
        have hmod : D.nn.tmod (X.length : Int) = D.nn % (X.length : Int) := Int.tmod_eq_emod_of_nonneg hD.1
        obtain ⟨q, hq⟩ : ∃ q : Nat, (X.length : Int) - 1 - D.nn % (X.length : Int) = q := ⟨((X.length : Int) - 1 - D.nn % X.length).toNat, by have := Int.emod_lt_of_pos D.nn (show (0:Int) < X.length by omega); have := Int.emod_nonneg D.nn (show (X.length : Int) ≠ 0 by omega); omega⟩
        have hql : q < X.length := by have := Int.emod_nonneg D.nn (show (X.length : Int) ≠ 0 by omega); omega
        obtain ⟨p, hp⟩ : ∃ p, X[q]? = some p := ⟨_, List.getElem?_eq_getElem hql⟩
        obtain ⟨gb, go, rfl, hgb, r0, r1⟩ := rf_at HX.out hp
        have hq0 : (0 : Int) ≤ (q : Int) := Int.natCast_nonneg _
        have hq1 : (q : Int) < (X.length : Int) := by omega
        have x0 : w2.cell? ⟨w.heap.size + 1 + 1 + 1 + 1, 0, none⟩ = some (.int .i64 D.sl) := S2.out.bt.cell' rfl
        have x1 : w2.cell? ⟨w.heap.size + 1 + 1 + 1 + 1, 1, none⟩ = some (.int .i64 D.gn) := S2.out.bt.cell' rfl
        have z0 := S2.out.bt.frozen 0
        have z1 := S2.out.bt.frozen 1
        have xl := S2.out.bt.lt
        obtain ⟨nb1, nb2⟩ := hD
        have hf : Fr (only (w.heap.size + 1 + 1 + 1 + 1)) w2 ((w2.setCell ⟨w.heap.size + 1 + 1 + 1 + 1, 0, none⟩ (.int .i64 p.1)).setCell ⟨w.heap.size + 1 + 1 + 1 + 1, 1, none⟩ (.int .i64 p.2)) := ((Fr.refl (only (w.heap.size + 1 + 1 + 1 + 1)) w2).setCell (p := ⟨w.heap.size + 1 + 1 + 1 + 1, 0, none⟩) (.inl (Eq.refl _)) _).setCell (p := ⟨w.heap.size + 1 + 1 + 1 + 1, 1, none⟩) (.inl (Eq.refl _)) _
        have S3 : Hid (DoSt w ((w2.setCell ⟨w.heap.size + 1 + 1 + 1 + 1, 0, none⟩ (.int .i64 p.1)).setCell ⟨w.heap.size + 1 + 1 + 1 + 1, 1, none⟩ (.int .i64 p.2)) w0.heap.size slots last L A c D p.1 p.2) := hid_ ⟨S2.out.bv.fr hf (only_ne (by omega)), S2.out.bd.fr hf (only_ne (by omega)), S2.out.ba.fr hf (only_ne (by omega)), S2.out.bx.fr hf (only_ne (by omega)), (S2.out.bt.set_ 0 _).set_ 1 _, S2.out.fr.then_only hf (.inr (by omega))⟩
        clear hp hql hf
        go_wp2_with fail
        go_meet
        exact ⟨_, _, S3.out⟩
    case rest =>
      obtain ⟨x, y, hS⟩ := hcut
      obtain ⟨w3, rfl⟩ : ∃ z : World, z = wc := ⟨_, rfl⟩
      have S := hid_ hS
      clear hS S2
      have d0 : w3.cell? ⟨w.heap.size + 1, 0, none⟩ = some (.int .i64 D.verb) := S.out.bd.cell' rfl
      have t0 : w3.cell? ⟨w.heap.size + 1 + 1 + 1 + 1, 0, none⟩ = some (.int .i64 x) := S.out.bt.cell' rfl
      have t1 : w3.cell? ⟨w.heap.size + 1 + 1 + 1 + 1, 1, none⟩ = some (.int .i64 y) := S.out.bt.cell' rfl
      rw [hv] at d0
      have h3s := S.out.fr.size
      go_wp2_with fail
      refine (load_x (H.out.ar.keep S.out.fr) x y).mono ?_
      rintro e w4 ⟨R, A1, c1, B1, d1, rfl, hown, hf, hR⟩
      have HR := hid_ hR
      have HO := hid_ hown
      have S4 := hid_ (And.intro (S.out.bv.fr hf id) (And.intro (S.out.bd.fr hf id) (And.intro (S.out.ba.fr hf id) (And.intro (S.out.bx.fr hf id) (And.intro (S.out.bt.fr hf id) (S.out.fr.then_none hf))))))
      clear hR hown hf d0 t0 t1
      go_upto_region 17 with (refine wpList_store_mid rfl 40 (.tmp 19) (.tmp 111) rfl w4.heap.size 0 ((recA R (.slice A1 R.rows.length c1) (.slice B1 R.ents.length d1))) rfl rfl (new_there w4 _ recZ) rec_size4 (by simp [Value.oneCell']) ?_; obtain ⟨w5, hw⟩ : ∃ z, z = (w4.alloc (.cells recZ 40)).setCells w4.heap.size 0 ((recA R (.slice A1 R.rows.length c1) (.slice B1 R.ents.length d1))).toList := ⟨_, rfl⟩; change wpList _ _ _ _ _ ((w4.alloc (.cells recZ 40)).setCells w4.heap.size 0 ((recA R (.slice A1 R.rows.length c1) (.slice B1 R.ents.length d1))).toList); rw [← hw]; have X5 : Hid (Blk w5 w4.heap.size 40 ((recA R (.slice A1 R.rows.length c1) (.slice B1 R.ents.length d1))) ∧ Fr none_ w4 w5) := hid_ (by rw [hw]; exact new_copy w4 _ recZ ((recA R (.slice A1 R.rows.length c1) (.slice B1 R.ents.length d1))).toList rfl); clear hw)
      replace HO := hid_ (HO.out.keep X5.out.2)
      replace S4 := hid_ (And.intro (S4.out.1.fr X5.out.2 id) (And.intro (S4.out.2.1.fr X5.out.2 id) (And.intro (S4.out.2.2.1.fr X5.out.2 id) (And.intro (S4.out.2.2.2.1.fr X5.out.2 id) (And.intro (S4.out.2.2.2.2.1.fr X5.out.2 id) (S4.out.2.2.2.2.2.then_none X5.out.2))))))
      have v0 : w5.cell? ⟨w.heap.size, 0, none⟩ = some (.int .i64 slots) := S4.out.1.cell' rfl
      have v1 : w5.cell? ⟨w.heap.size, 1, none⟩ = some (.int .i64 last) := S4.out.1.cell' rfl
      have v2 : w5.cell? ⟨w.heap.size, 2, none⟩ = some (.slice A L.length c) := S4.out.1.cell' rfl
      have t0 : w5.cell? ⟨w.heap.size + 1 + 1 + 1 + 1, 0, none⟩ = some (.int .i64 x) := S4.out.2.2.2.2.1.cell' rfl
      have t1 : w5.cell? ⟨w.heap.size + 1 + 1 + 1 + 1, 1, none⟩ = some (.int .i64 y) := S4.out.2.2.2.2.1.cell' rfl
      go_wp2_with fail
      refine (rload_ok slots last L A c x y w5 (H.out.ra.keep S4.out.2.2.2.2.2)).mono ?_
      rintro e w6 ⟨R2, A2, B2, c2, d2, k2, hk, rfl, hrd2, hz2, hf6⟩
      clear v0 v1 v2 t0 t1
      have heq : k2 = atC ss x y ∧ R2 = R ∧ KeyOk4 R := by
        rcases PlA.loaded H.out hk with ⟨h1, h2, h3, -, -, -, -⟩ | ⟨h1, h2, i, s, hx, hs, hu, hg, hr⟩
        · rcases HR.out with ⟨e, _⟩ | ⟨_, e⟩
          · exact absurd e h1
          · refine ⟨h2, by rw [h3, e], ?_⟩
            rw [e]
            intro j p hp
            simp [Rc.zero] at hp
        · rcases HR.out with ⟨e, i', s', hx', hs', _, _, hr'⟩ | ⟨e, _⟩
          · obtain rfl : i' = i := by omega
            obtain rfl := Option.some.inj (hs.symm.trans hs')
            obtain ⟨j, p, b1, _, _, _, b5⟩ := H.out.sim.find hs hu
            refine ⟨by omega, by rw [hr, hr'], ?_⟩
            rw [hr', ← b5]
            exact HKS.out p (List.mem_of_getElem? b1)
          · exact absurd h1 e
      obtain ⟨rfl, rfl, hke⟩ := heq
      have HKE := hid_ hke
      have HRD := hid_ hrd2
      have HZ := hid_ hz2
      replace HO := hid_ (HO.out.keep hf6)
      replace X5 := hid_ (X5.out.1.fr hf6 id)
      replace S4 := hid_ (And.intro (S4.out.1.fr hf6 id) (And.intro (S4.out.2.1.fr hf6 id) (And.intro (S4.out.2.2.1.fr hf6 id) (And.intro (S4.out.2.2.2.1.fr hf6 id) (And.intro (S4.out.2.2.2.2.1.fr hf6 id) (S4.out.2.2.2.2.2.then_none hf6))))))
      clear hk hrd2 hz2 hf6 hke HR
      obtain ⟨kk, hkk⟩ : ∃ kk, kk = atC ss x y := ⟨_, rfl⟩
      rw [← hkk]
      clear hkk
      go_upto_region 18 with (refine wpList_store_mid rfl 40 (.tmp 21) (.tmp 117) rfl w6.heap.size 0 ((recA R2 (.slice A2 R2.rows.length c2) (.slice B2 R2.ents.length d2))) rfl rfl (new_there w6 _ recZ) rec_size4 (by simp [Value.oneCell']) ?_; obtain ⟨w7, hw⟩ : ∃ z, z = (w6.alloc (.cells recZ 40)).setCells w6.heap.size 0 ((recA R2 (.slice A2 R2.rows.length c2) (.slice B2 R2.ents.length d2))).toList := ⟨_, rfl⟩; change wpList _ _ _ _ _ ((w6.alloc (.cells recZ 40)).setCells w6.heap.size 0 ((recA R2 (.slice A2 R2.rows.length c2) (.slice B2 R2.ents.length d2))).toList); rw [← hw]; have X7 : Hid (Blk w7 w6.heap.size 40 ((recA R2 (.slice A2 R2.rows.length c2) (.slice B2 R2.ents.length d2))) ∧ Fr none_ w6 w7) := hid_ (by rw [hw]; exact new_copy w6 _ recZ ((recA R2 (.slice A2 R2.rows.length c2) (.slice B2 R2.ents.length d2))).toList rfl); clear hw)
      replace HO := hid_ (HO.out.keep X7.out.2)
      replace HRD := hid_ (HRD.out.keep X7.out.2)
      replace X5 := hid_ (X5.out.fr X7.out.2 id)
      replace S4 := hid_ (And.intro (S4.out.1.fr X7.out.2 id) (And.intro (S4.out.2.1.fr X7.out.2 id) (And.intro (S4.out.2.2.1.fr X7.out.2 id) (And.intro (S4.out.2.2.2.1.fr X7.out.2 id) (And.intro (S4.out.2.2.2.2.1.fr X7.out.2 id) (S4.out.2.2.2.2.2.then_none X7.out.2))))))
      go_wp2_with (first | (refine wpList_load_mid rfl 40 (.tmp 19) rfl w4.heap.size 0 rfl (recA R2 (.slice A1 R2.rows.length c1) (.slice B1 R2.ents.length d1)).toList _ (Blk.range4 (cs := (recA R2 (.slice A1 R2.rows.length c1) (.slice B1 R2.ents.length d1)).toList) X5.out) Tryd.underlying40 rfl rec_size4 ?_) | (refine wpList_load_mid rfl 40 (.tmp 21) rfl w6.heap.size 0 rfl (recA R2 (.slice A2 R2.rows.length c2) (.slice B2 R2.ents.length d2)).toList _ (Blk.range4 (cs := (recA R2 (.slice A2 R2.rows.length c2) (.slice B2 R2.ents.length d2)).toList) X7.out.1) Tryd.underlying40 rfl rec_size4 ?_))
      refine (same4_ok R2 A1 c1 B1 d1 A2 c2 B2 d2 w7 HO.out.reads HRD.out HZ.out.1 HZ.out.2).mono ?_
      rintro e w8 ⟨rfl, hf8⟩
      go_wp2_with fail
      refine (code_any kk w8 (HLd.out.fr (S4.out.2.2.2.2.2.then_none hf8) id)).mono ?_
      rintro e w9 ⟨rfl, hf9⟩
      have f9 : Fr none_ w7 w9 := hf8.then_none hf9
      have C9 : Hid (DL4 w w9 w3.heap.size w4.heap.size R2 (.slice A1 R2.rows.length c1) (.slice B1 R2.ents.length d1) R2.rows slots last L A c (doL D) (w.heap.size + 1 + 1 + 1 + 1) #[.int .i64 x, .int .i64 y] none_) := hid_ ⟨own_none HO.out.r f9, X5.out.fr f9 id, S4.out.1.fr f9 id, S4.out.2.1.fr f9 id, S4.out.2.2.1.fr f9 id, S4.out.2.2.2.1.fr f9 id, S4.out.2.2.2.2.1.fr f9 id, S4.out.2.2.2.2.2.then_none f9⟩
      clear f9 hf8 hf9 S4 X7 X5 HO HRD
      have s5 : w9.cell? ⟨w4.heap.size, 5, none⟩ = some (.slice A1 R2.rows.length c1) := C9.out.bt.cell' rfl
      have hzr := HZ.out.1
      go_wp2_with fail
      clear s5
      go_loopw [131] (fun i wr => ∃ (k : Nat) (Lr : List Rw), k ≤ R2.rows.length ∧ i = .int .i64 k ∧ Lr.length = R2.rows.length ∧ (∀ (j : Nat) (p : Rw), k ≤ j → Lr[j]? = some p → p.1.size ≤ 9223372036854775000) ∧ DL4 w wr w3.heap.size w4.heap.size R2 (.slice A1 R2.rows.length c1) (.slice B1 R2.ents.length d1) Lr slots last L A c (doL D) (w.heap.size + 1 + 1 + 1 + 1) #[.int .i64 x, .int .i64 y] none_) (fun i _ => R2.rows.length - (intOf i).toNat)
      case atStart => exact ⟨0, R2.rows, Nat.zero_le _, rfl, rfl, fun j p _ hp => HKE.out j p hp, C9.out⟩
      case round =>
        obtain ⟨k, Lr, hk, rfl, hLr, hsz, hC⟩ := hrel
        have C := hid_ hC
        have HL := hid_ hsz
        clear hC hsz
        by_cases hlt : k < R2.rows.length
        · obtain ⟨p, hp⟩ : ∃ p, Lr[k]? = some p := ⟨_, List.getElem?_eq_getElem (by omega)⟩
          obtain ⟨g, rfl, g1, g2⟩ := own_rw0 C.out.r hLr hp
          have x5 : wr.cell? ⟨w4.heap.size, 5, none⟩ = some (.slice (some ⟨g, 0, none⟩) R2.rows.length c1) := C.out.bt.cell' rfl
          have hi0 : (0 : Int) ≤ (k : Int) := Int.natCast_nonneg _
          have hi1 : (k : Int) < (R2.rows.length : Int) := by omega
          have hcatn : p.1.size + (⟨#[120]⟩ : ByteArray).size ≤ 9223372036854775807 := by have := HL.out k p (Nat.le_refl _) hp; have e : (⟨#[120]⟩ : ByteArray).size = 1 := rfl; rw [e]; omega
          have hcat : ((p.1.size : Int) + ((⟨#[120]⟩ : ByteArray).size : Int)) ≤ 9223372036854775807 := by omega
          have hadd := fun w : World => run_string_add_sum (P := Tryd.prog) w p.1 ⟨#[120]⟩ hcatn
          have CP := hid_ (C.out.put h3s hLr hp (p.1 ++ ⟨#[120]⟩))
          have hpl : Lr.length = R2.rows.length := hLr
          clear hp
          go_wp2_with fail
          go_roundw
          case rel => exact ⟨k + 1, _, by omega, by go_num, by rw [List.length_set]; exact hpl, fun j q hj hq => HL.out j q (by omega) (by rw [List.getElem?_set_ne (by omega)] at hq; exact hq), CP.out⟩
          case measure => simp [intOf]; omega
        · have v0 : wr.cell? ⟨w.heap.size, 0, none⟩ = some (.int .i64 slots) := C.out.bv.cell' rfl
          have v1 : wr.cell? ⟨w.heap.size, 1, none⟩ = some (.int .i64 last) := C.out.bv.cell' rfl
          have v2 : wr.cell? ⟨w.heap.size, 2, none⟩ = some (.slice A L.length c) := C.out.bv.cell' rfl
          have hk2 : ¬ ((k : Int) < (R2.rows.length : Int)) := by omega
          have BA := hid_ C.out.ba
          have BX := hid_ C.out.bx
          have F := hid_ C.out.fr
          go_wp2_with (first | (refine wpList_store_mid rfl 29 (.tmp 8) (.tmp 144) rfl (w.heap.size + 1 + 1) 0 (raA slots last L A c) rfl rfl (BA.out.there4 rfl) (by kernel_rfl) (by simp [Value.oneCell']) ?_; obtain ⟨e3, he3⟩ : ∃ z, z = wr.setCells (w.heap.size + 1 + 1) 0 (raA slots last L A c).toList := ⟨_, rfl⟩; have ove3 := Blk.over4 BA.out (raA slots last L A c).toList rfl; rw [← he3] at ove3; change wpList _ _ _ _ _ (wr.setCells (w.heap.size + 1 + 1) 0 (raA slots last L A c).toList); rw [← he3]; clear he3; replace BX := hid_ (BX.out.fr ove3.2 (only_ne (by omega))); replace BA := hid_ ove3.1; replace F := hid_ (F.out.then_only ove3.2 (.inr (by omega)))) | (refine wpList_store_mid rfl 38 (.tmp 9) (.tmp 145) rfl (w.heap.size + 1 + 1 + 1) 0 (#[.int .i64 0, .int .i64 0]) rfl rfl (BX.out.there4 rfl) (by kernel_rfl) (by simp [Value.oneCell']) ?_; obtain ⟨e4, he4⟩ : ∃ z, z = e3.setCells (w.heap.size + 1 + 1 + 1) 0 (#[.int .i64 0, .int .i64 0]).toList := ⟨_, rfl⟩; have ove4 := Blk.over4 BX.out (#[.int .i64 0, .int .i64 0]).toList rfl; rw [← he4] at ove4; change wpList _ _ _ _ _ (e3.setCells (w.heap.size + 1 + 1 + 1) 0 (#[.int .i64 0, .int .i64 0]).toList); rw [← he4]; clear he4; replace BA := hid_ (BA.out.fr ove4.2 (only_ne (by omega))); replace BX := hid_ ove4.1; replace F := hid_ (F.out.then_only ove4.2 (.inr (by omega)))))
          have a0 := BA.out.cell' (i := 0) rfl
          have a1 := BA.out.cell' (i := 1) rfl
          have a2 := BA.out.cell' (i := 2) rfl
          have b0 := BX.out.cell' (i := 0) rfl
          have b1 := BX.out.cell' (i := 1) rfl
          refine bodyPost_ret (v := .tuple #[raV slots last L A c, .agg #[.int .i64 0, .int .i64 0], .bool true]) ?_ rfl ⟨ss, L, A, c, 0, 0, rfl, H.out.keep F.out, Nat.le_succ _, FromL.same _ _ _ _, .inl ⟨rfl, rfl⟩, F.out.mono (fun _ _ e => e.elim)⟩
          simp [results, Tryd.results13, go_sem, a0, a1, a2, b0, b1]
end Go.Proofs.YtfoljojacakkeaaDoor

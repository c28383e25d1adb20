/- Layer 4's does at Free. Written by gen_dofree4.py. -/
import Derived.Test.YtfoljojacakkeaaDoorDo4
import Derived.Test.YtfoljojacakkeaaDoorFr4
import Derived.Test.YtfoljojacakkeaaDoorFar4
import Derived.Test.YtfoljojacakkeaaDoorCode
namespace Go.Proofs.YtfoljojacakkeaaDoor
open Go.RowKit Go.ChangeShapes Go.WideShapes
set_option maxRecDepth 100000
set_option linter.unusedVariables false
theorem FromL.dead {L : List RaP} {R0 : Rc} {A1 B1 : Option Addr} {j : Nat} {p : RaP} (hp : L[j]? = some p) : FromL (L.set j (deadP p)) L R0 A1 B1 := fun q hq => by
  rcases List.mem_or_eq_of_mem_set hq with hq | rfl
  · exact .inl ⟨q, hq, rfl, rfl, rfl⟩
  · exact .inl ⟨p, List.mem_of_getElem? hp, rfl, rfl, rfl⟩
def FreeX (w : World) (a G : Nat) (last : Int) (ss : List Sl) (x y : Int) (e : Ending) (w' : World) : Prop :=
  ∃ ss', e = .returned (errOf (atC ss x y)) ∧ Ar w' a G last ss' ∧ Fr (only G) w w' ∧ (atC ss x y ≠ 0 → ss' = ss) ∧ (∀ (i : Nat) (s : Sl), x = (i : Int) + 1 → ss[i]? = some s → s.used = true → s.gen = y → ss' = ss.set i ⟨s.gen, false, Rc.zero, .slice none 0 0, .slice none 0 0⟩)
theorem free_x {w : World} {a G : Nat} {last : Int} {ss : List Sl} (h : Ar w a G last ss) (x y : Int) : Calls Tryd.prog 60 #[.pointer (some ⟨a, 0, none⟩), .agg #[.int .i64 x, .int .i64 y]] w (FreeX w a G last ss x y) := by
  rcases atC_cases ss x y with ⟨e, hx⟩ | ⟨i, s, rfl, hs, hh⟩
  · have hb : atC ss x y ≠ 0 := by rw [e]; decide
    refine (free_bad _ _ h hb).mono ?_
    rintro e2 w2 ⟨rfl, hf⟩
    refine ⟨ss, by rw [errOf_pos hb], h.keep hf, hf.mono (fun _ _ e => e.elim), fun _ => rfl, fun i s h1 h2 => ?_⟩
    have := (List.getElem?_eq_some_iff.1 h2).1
    omega
  · rcases hh with ⟨e, hn⟩ | ⟨e, hu, hg⟩
    · have hb : atC ss ((i : Int) + 1) y ≠ 0 := by rw [e]; decide
      refine (free_bad _ _ h hb).mono ?_
      rintro e2 w2 ⟨rfl, hf⟩
      refine ⟨ss, by rw [errOf_pos hb], h.keep hf, hf.mono (fun _ _ e => e.elim), fun _ => rfl, fun i2 s2 h1 h2 h3 h4 => ?_⟩
      obtain rfl : i2 = i := by omega
      obtain rfl := Option.some.inj (hs.symm.trans h2)
      exact absurd ⟨h3, h4⟩ hn
    · refine (free_ok _ _ h hs rfl hu hg).mono ?_
      rintro e2 w2 ⟨rfl, ha, hf⟩
      refine ⟨_, by rw [e]; rfl, ha, hf, fun hb => absurd e hb, fun i2 s2 h1 h2 _ _ => ?_⟩
      obtain rfl : i2 = i := by omega
      obtain rfl := Option.some.inj (hs.symm.trans h2)
      rfl

set_option maxHeartbeats 8000000 in
theorem does_free (a G : Nat) (slots last : Int) (ss : List Sl) (L : List RaP) (A : Option Addr) (c : Nat) (D : Dn) (X : List Rf) (cx : Nat) (XA : Option Addr) (w : World) (h : PlA w a G slots last ss L A c) (hL : Laid w) (h0 : 0 ≠ G) (hX : Reads w 2 XA X.length (rfFlat X)) (hXl : X.length ≤ 5000) (hD : 0 ≤ D.nn ∧ D.nn ≤ 255) (hv : D.verb = 2) :
    Calls Tryd.prog 13 #[.pointer (some ⟨a, 0, none⟩), raV slots last L A c, .agg (doL D).toArray, .slice XA X.length cx] w (DoesPost a G slots last L D A w) := by
  have HLd := hid_ hL
  have hGw := h.ar.ltG
  clear hL
  obtain ⟨w0, hw0⟩ : ∃ z, z = (((w.alloc (.cells (raA slots last L A c) 29)).alloc (.cells (doL D).toArray 42)).alloc (.cells #[.int .i64 0, .int .i64 0, .slice none 0 0] 29)).alloc (.cells #[.int .i64 0, .int .i64 0] 38) := ⟨_, rfl⟩
  have f0 : Fr none_ w w0 := by rw [hw0]; exact ((((Fr.refl none_ w).alloc _).alloc _).alloc _).alloc _
  have BV : Hid (Blk w0 w.heap.size 29 (raA slots last L A c)) := hid_ (by rw [hw0]; exact (((Blk.new w _ _).alloc _).alloc _).alloc _)
  have BD : Hid (Blk w0 (w.heap.size + 1) 42 (doL D).toArray) := hid_ (by rw [hw0]; exact ((Blk.new_at4 _ _ (by simp)).alloc _).alloc _)
  have BA : Hid (Blk w0 (w.heap.size + 1 + 1) 29 #[.int .i64 0, .int .i64 0, .slice none 0 0]) := hid_ (by rw [hw0]; exact (Blk.new_at4 _ _ (by simp)).alloc _)
  have BX : Hid (Blk w0 (w.heap.size + 1 + 1 + 1) 38 #[.int .i64 0, .int .i64 0]) := hid_ (by rw [hw0]; exact Blk.new_at4 _ _ (by simp))
  have hs0 : w0.heap.size = w.heap.size + 1 + 1 + 1 + 1 := by rw [hw0]; simp
  have H := hid_ h
  have HX := hid_ (hX.none_fr f0)
  have F0 := hid_ f0
  clear f0 h hX
  go_enter Tryd.func13, Tryd.ntmps13
  go_upto_region 1 with fail
  change Code.wp _ _ _ _ ((((w.alloc (.cells (raA slots last L A c) 29)).alloc (.cells (doL D).toArray 42)).alloc (.cells #[.int .i64 0, .int .i64 0, .slice none 0 0] 29)).alloc (.cells #[.int .i64 0, .int .i64 0] 38))
  rw [← hw0]
  clear hw0
  have d16 : w0.cell? ⟨w.heap.size + 1, 16, none⟩ = some (.int .i64 D.sl) := BD.out.cell' rfl
  have d17 : w0.cell? ⟨w.heap.size + 1, 17, none⟩ = some (.int .i64 D.gn) := BD.out.cell' rfl
  go_upto_region 2 with fail
  obtain ⟨w1, hw1⟩ : ∃ z, z = w0.alloc (.cells #[.int .i64 D.sl, .int .i64 D.gn] 38) := ⟨_, rfl⟩
  have f1 : Fr none_ w0 w1 := by rw [hw1]; exact (Fr.refl none_ w0).alloc _
  have BT : Hid (Blk w1 w0.heap.size 38 #[.int .i64 D.sl, .int .i64 D.gn]) := hid_ (by rw [hw1]; exact Blk.new w0 _ _)
  change Code.wp _ _ _ _ (w0.alloc (.cells #[.int .i64 D.sl, .int .i64 D.gn] 38))
  rw [← hw1]
  clear hw1 d16 d17
  rw [hs0] at BT
  have S1 : Hid (DoSt w w1 w0.heap.size slots last L A c D D.sl D.gn) := hid_ ⟨BV.out.fr f1 id, BD.out.fr f1 id, BA.out.fr f1 id, BX.out.fr f1 id, BT.out, F0.out.then_none f1⟩
  replace HX := hid_ (HX.out.none_fr f1)
  clear BV BD BA BX BT F0 f1
  go_cut [36] (fun u wq => u = .bool (D.lst && decide (0 < X.length)) ∧ DoSt w wq w0.heap.size slots last L A c D D.sl D.gn ∧ Fr none_ w1 wq)
  case first =>
    have d18 : w1.cell? ⟨w.heap.size + 1, 18, none⟩ = some (.bool D.lst) := S1.out.bd.cell' rfl
    cases hlst : D.lst with
    | false =>
      rw [hlst] at d18
      have HLS := hid_ hlst
      clear hlst
      go_wp2_with fail
      go_meet
      exact ⟨by rw [HLS.out]; rfl, S1.out, Fr.refl _ _⟩
    | true =>
      rw [hlst] at d18
      have HLS := hid_ hlst
      clear hlst
      by_cases hn : 0 < X.length
      · have hd : decide ((0 : Int) < (X.length : Int)) = true := by simpa using hn
        have hq : (true && decide (0 < X.length)) = true := by simpa using hn
        go_wp2_with fail
        go_meet
        exact ⟨by rw [HLS.out, hq], S1.out, Fr.refl _ _⟩
      · have hd : decide ((0 : Int) < (X.length : Int)) = false := by simpa using hn
        have hq : (true && decide (0 < X.length)) = false := by simpa using hn
        go_wp2_with fail
        go_meet
        exact ⟨by rw [HLS.out, hq], S1.out, Fr.refl _ _⟩
  case rest =>
    obtain ⟨rfl, hS, hf⟩ := hcut
    obtain ⟨w2, rfl⟩ : ∃ z : World, z = wc := ⟨_, rfl⟩
    have S2 := hid_ hS
    replace HX := hid_ (HX.out.none_fr hf)
    clear hS hf S1
    obtain ⟨bb, hbb⟩ : ∃ bb, (D.lst && decide (0 < X.length)) = bb := ⟨_, rfl⟩
    rw [hbb]
    have HB := hid_ hbb
    clear hbb
    go_upto_if 36 with fail
    go_cut [49] (fun u wq => ∃ x y, DoSt w wq w0.heap.size slots last L A c D x y)
    case first =>
      cases bb with
      | false =>
        go_wp2_with fail
        go_meet
        exact ⟨_, _, S2.out⟩
      | true =>
        have hn : 0 < X.length := by have := HB.out; simp at this; exact this.2
        have d19 : w2.cell? ⟨w.heap.size + 1, 19, none⟩ = some (.int .u8 D.nn) := S2.out.bd.cell' rfl
        have hmod : D.nn.tmod (X.length : Int) = D.nn % (X.length : Int) := Int.tmod_eq_emod_of_nonneg hD.1
        obtain ⟨q, hq⟩ : ∃ q : Nat, (X.length : Int) - 1 - D.nn % (X.length : Int) = q := ⟨((X.length : Int) - 1 - D.nn % X.length).toNat, by have := Int.emod_lt_of_pos D.nn (show (0:Int) < X.length by omega); have := Int.emod_nonneg D.nn (show (X.length : Int) ≠ 0 by omega); omega⟩
        have hql : q < X.length := by have := Int.emod_nonneg D.nn (show (X.length : Int) ≠ 0 by omega); omega
        obtain ⟨p, hp⟩ : ∃ p, X[q]? = some p := ⟨_, List.getElem?_eq_getElem hql⟩
        obtain ⟨gb, go, rfl, hgb, r0, r1⟩ := rf_at HX.out hp
        have hq0 : (0 : Int) ≤ (q : Int) := Int.natCast_nonneg _
        have hq1 : (q : Int) < (X.length : Int) := by omega
        have x0 : w2.cell? ⟨w.heap.size + 1 + 1 + 1 + 1, 0, none⟩ = some (.int .i64 D.sl) := S2.out.bt.cell' rfl
        have x1 : w2.cell? ⟨w.heap.size + 1 + 1 + 1 + 1, 1, none⟩ = some (.int .i64 D.gn) := S2.out.bt.cell' rfl
        have z0 := S2.out.bt.frozen 0
        have z1 := S2.out.bt.frozen 1
        have xl := S2.out.bt.lt
        obtain ⟨nb1, nb2⟩ := hD
        have hf : Fr (only (w.heap.size + 1 + 1 + 1 + 1)) w2 ((w2.setCell ⟨w.heap.size + 1 + 1 + 1 + 1, 0, none⟩ (.int .i64 p.1)).setCell ⟨w.heap.size + 1 + 1 + 1 + 1, 1, none⟩ (.int .i64 p.2)) := ((Fr.refl (only (w.heap.size + 1 + 1 + 1 + 1)) w2).setCell (p := ⟨w.heap.size + 1 + 1 + 1 + 1, 0, none⟩) (.inl (Eq.refl _)) _).setCell (p := ⟨w.heap.size + 1 + 1 + 1 + 1, 1, none⟩) (.inl (Eq.refl _)) _
        have S3 : Hid (DoSt w ((w2.setCell ⟨w.heap.size + 1 + 1 + 1 + 1, 0, none⟩ (.int .i64 p.1)).setCell ⟨w.heap.size + 1 + 1 + 1 + 1, 1, none⟩ (.int .i64 p.2)) w0.heap.size slots last L A c D p.1 p.2) := hid_ ⟨S2.out.bv.fr hf (only_ne (by omega)), S2.out.bd.fr hf (only_ne (by omega)), S2.out.ba.fr hf (only_ne (by omega)), S2.out.bx.fr hf (only_ne (by omega)), (S2.out.bt.set_ 0 _).set_ 1 _, S2.out.fr.then_only hf (.inr (by omega))⟩
        clear hp hql hf
        go_wp2_with fail
        go_meet
        exact ⟨_, _, S3.out⟩
    case rest =>
      obtain ⟨x, y, hS⟩ := hcut
      obtain ⟨w3, rfl⟩ : ∃ z : World, z = wc := ⟨_, rfl⟩
      have S := hid_ hS
      clear hS S2
      have d0 : w3.cell? ⟨w.heap.size + 1, 0, none⟩ = some (.int .i64 D.verb) := S.out.bd.cell' rfl
      have t0 : w3.cell? ⟨w.heap.size + 1 + 1 + 1 + 1, 0, none⟩ = some (.int .i64 x) := S.out.bt.cell' rfl
      have t1 : w3.cell? ⟨w.heap.size + 1 + 1 + 1 + 1, 1, none⟩ = some (.int .i64 y) := S.out.bt.cell' rfl
      rw [hv] at d0
      go_wp2_with fail
      refine (free_x (H.out.ar.keep S.out.fr) x y).mono ?_
      rintro e w4 ⟨ss', rfl, ha, hf, hno, hyes⟩
      clear d0 t0 t1
      have HN := hid_ (And.intro hno hyes)
      have HA := hid_ ha
      have HF := hid_ hf
      clear hno hyes ha
      have S4 := hid_ (And.intro (S.out.bv.fr hf (only_ne (by omega))) (And.intro (S.out.ba.fr hf (only_ne (by omega))) (And.intro (S.out.bx.fr hf (only_ne (by omega))) (S.out.bt.fr hf (only_ne (by omega))))))
      have RA4 : Hid (RaIn w4 L A c) := hid_ ((H.out.ra.keep S.out.fr).off hf H.out.offA H.out.offR)
      have F4 : Hid (Fr (only G) w w4) := hid_ ((S.out.fr.mono (fun _ _ e => e.elim)).trans hf (fun _ _ => id) (fun _ _ => id))
      clear hf
      have v0 : w4.cell? ⟨w.heap.size, 0, none⟩ = some (.int .i64 slots) := S4.out.1.cell' rfl
      have v1 : w4.cell? ⟨w.heap.size, 1, none⟩ = some (.int .i64 last) := S4.out.1.cell' rfl
      have v2 : w4.cell? ⟨w.heap.size, 2, none⟩ = some (.slice A L.length c) := S4.out.1.cell' rfl
      have t0 : w4.cell? ⟨w.heap.size + 1 + 1 + 1 + 1, 0, none⟩ = some (.int .i64 x) := S4.out.2.2.2.cell' rfl
      have t1 : w4.cell? ⟨w.heap.size + 1 + 1 + 1 + 1, 1, none⟩ = some (.int .i64 y) := S4.out.2.2.2.cell' rfl
      go_wp2_with fail
      refine (rfree_ok slots last L A c x y w4 RA4.out).mono ?_
      rintro e w5 ⟨L', A2, c2, k, hk, rfl, hra, hA2, hf5⟩
      clear v0 v1 v2 t0 t1
      have hpl : k = atC ss x y ∧ PlA w5 a G slots last ss' L' A2 c2 ∧ (L'.length ≤ L.length + 1 ∧ FromL L' L D.R D.A D.B ∧ ((A2 = A ∧ L'.length = L.length) ∨ ∀ ad, A2 = some ad → w.heap.size ≤ ad.block)) ∧ LowA w.heap.size w4.heap.size L' A2 := by
        have ha5 : Ar w5 a G last ss' := HA.out.keep hf5
        have hsz : w.heap.size ≤ w4.heap.size := F4.out.size
        rcases PlA.freed H.out hk with ⟨h1, h2, rfl⟩ | ⟨h1, h2, i, s, j, p, rfl, hs, hu, hg, hp, hxs, hlv, rfl⟩
        · have := HN.out.1 h1
          subst this
          refine ⟨h2, ⟨ha5, hra, H.out.sim, H.out.ns, H.out.xg, fun ad had hn => ?_, H.out.offR⟩, ⟨Nat.le_succ _, FromL.same _ _ _ _, hA2.imp (fun e => ⟨e, rfl⟩) (fun h ad had => Nat.le_trans hsz (h ad had))⟩, (H.out.low _).same hA2⟩
          rcases hA2 with rfl | hA2
          · exact H.out.offA ad had hn
          · have := hA2 ad had; omega
        · have := HN.out.2 i s rfl hs hu hg
          subst this
          refine ⟨by omega, PlA.free (t := ⟨s.gen, false, Rc.zero, .slice none 0 0, .slice none 0 0⟩) H.out hs hp hxs hlv rfl rfl ha5 hra ?_ hGw, ⟨by simp, FromL.dead hp, hA2.imp (fun e => ⟨e, List.length_set⟩) (fun h ad had => Nat.le_trans hsz (h ad had))⟩, (H.out.low _).free hp hA2⟩
          rcases hA2 with rfl | hA2
          · exact .inl rfl
          · exact .inr fun ad had => by have := hA2 ad had; omega
      obtain ⟨hkk, hpla, hll, hlow⟩ := hpl
      have LOW := hid_ hlow
      have hal := H.out.ar.ltA
      have h4s : w.heap.size + 1 + 1 + 1 + 1 ≤ w4.heap.size := by have := S4.out.2.2.1.lt; omega
      clear hlow
      subst hkk
      have HPL := hid_ hpla
      have HLL := hid_ hll
      replace F4 := hid_ (F4.out.then_none hf5)
      replace S4 := hid_ (And.intro (S4.out.2.1.fr hf5 id) (S4.out.2.2.1.fr hf5 id))
      have L5 : Hid (Laid w5) := hid_ (HLd.out.fr F4.out h0)
      have h45 := hf5.size
      clear hk hra hA2 hf5 hpla hll HN HA RA4
      obtain ⟨kk, hkk⟩ : ∃ kk, kk = atC ss x y := ⟨_, rfl⟩
      rw [← hkk]
      clear hkk
      go_upto_region 28 with fail
      obtain ⟨w6, hw6⟩ : ∃ z, z = w5.alloc (.cells (raA slots last L' A2 c2) 29) := ⟨_, rfl⟩
      have f6 : Fr none_ w5 w6 := by rw [hw6]; exact (Fr.refl none_ w5).alloc _
      have BW : Hid (Blk w6 w5.heap.size 29 (raA slots last L' A2 c2)) := hid_ (by rw [hw6]; exact Blk.new w5 _ _)
      change Code.wp _ _ _ _ (w5.alloc (.cells (raA slots last L' A2 c2) 29))
      rw [← hw6]
      clear hw6
      replace F4 := hid_ (F4.out.then_none f6)
      have BA := hid_ (S4.out.1.fr f6 id)
      have BX := hid_ (S4.out.2.fr f6 id)
      replace L5 := hid_ (L5.out.fr f6 id)
      replace HPL := hid_ (HPL.out.keep f6)
      clear f6 S4
      have hS : (fun w' : World => Blk w' w5.heap.size 29 (raA slots last L' A2 c2)) w6.drew := BW.out.drew
      refine wp_region_U (m := 9) (S := (fun w' : World => Blk w' w5.heap.size 29 (raA slots last L' A2 c2))) (by kernel_rfl) ?_
      refine wpAnyU_take2 (i := 0) (v := _) rfl (by kernel_rfl) (by kernel_rfl) (by kernel_rfl) (by kernel_rfl) (fun _ _ _ h => h) (.inl ⟨by kernel_rfl, fun w' hS => by have s_0 := hS.cell' (i := 0) rfl; have s_1 := hS.cell' (i := 1) rfl; have s_2 := hS.cell' (i := 2) rfl; go_simp; rfl⟩) hS ?_
      refine wpAnyU_take2 (i := 1) (v := _) rfl (by kernel_rfl) (by kernel_rfl) (by kernel_rfl) (by kernel_rfl) (fun _ _ _ h => h) (.inl ⟨by kernel_rfl, fun w' hS => by go_simp; rfl⟩) hS ?_
      refine wpAnyU_take2 (i := 2) (v := _) rfl (by kernel_rfl) (by kernel_rfl) (by kernel_rfl) (by kernel_rfl) (fun _ _ _ h => h) (.inl ⟨by kernel_rfl, fun w' hS => by go_simp; rfl⟩) hS ?_
      refine wpAnyU_take2 (i := 4) (v := _) rfl (by kernel_rfl) (by kernel_rfl) (by kernel_rfl) (by kernel_rfl) (fun _ _ _ h => h) (.inl ⟨by kernel_rfl, fun w' hS => by go_simp; rfl⟩) hS ?_
      clear hS
      refine wpAnyU_oneR (i := 3) rfl (by kernel_rfl) (by kernel_rfl) ?_
      go_simp
      refine (code_any kk w6.drew (L5.out.fr (Fr.refl none_ w6).drew id)).mono ?_
      rintro e w7 ⟨rfl, hf7⟩
      have f7 : Fr none_ w6 w7 := (Fr.refl none_ w6).drew.then_none hf7
      replace BW := hid_ (BW.out.fr f7 id)
      replace BA := hid_ (BA.out.fr f7 id)
      replace BX := hid_ (BX.out.fr f7 id)
      replace F4 := hid_ (F4.out.then_none f7)
      replace HPL := hid_ (HPL.out.keep f7)
      have hsz7 := F4.out.size
      clear f7 hf7
      have FO := hid_ (Fr.refl (fun b => b = w.heap.size + 1 + 1 ∨ b = w.heap.size + 1 + 1 + 1) w7)
      refine ⟨BW.out, ?_⟩
      refine wpAnyU_take2 (i := 5) (v := _) rfl (by kernel_rfl) (by kernel_rfl) (by kernel_rfl) (by kernel_rfl) (fun _ _ _ h => h) (.inl ⟨by kernel_rfl, fun w' hS => by go_simp; rfl⟩) BW.out ?_
      refine wpAnyU_oneR (i := 6) rfl (by kernel_rfl) (by kernel_rfl) ?_
      refine wp_store_mid 29 (.tmp 8) (.tmp 158) rfl (w.heap.size + 1 + 1) 0 (raA slots last L' A2 c2) rfl rfl (BA.out.there4 rfl) (by kernel_rfl) (by simp [Value.oneCell']) ?_
      obtain ⟨w8, he⟩ : ∃ z, z = w7.setCells (w.heap.size + 1 + 1) 0 (raA slots last L' A2 c2).toList := ⟨_, rfl⟩
      have ov := Blk.over4 BA.out (raA slots last L' A2 c2).toList rfl
      rw [← he] at ov
      change _ ∧ wpAnyU _ _ _ _ _ _ _ _ _ (w7.setCells (w.heap.size + 1 + 1) 0 (raA slots last L' A2 c2).toList)
      rw [← he]
      clear he
      replace BX := hid_ (BX.out.fr ov.2 (only_ne (by omega)))
      replace BW := hid_ (BW.out.fr ov.2 (only_ne (by omega)))
      replace FO := hid_ (FO.out.then_only ov.2 (.inl (by show _ = _ ∨ _ = _; omega)))
      replace HPL := hid_ (HPL.out.far LOW.out (by omega) (by omega) ov.2 BA.out (by decide) (by decide) hal hGw)
      replace BA := hid_ ov.1
      replace F4 := hid_ (F4.out.then_only ov.2 (.inr (by omega)))
      clear ov
      refine ⟨.inr BW.out, ?_⟩
      refine wpAnyU_oneR (i := 7) rfl (by kernel_rfl) (by kernel_rfl) ?_
      refine wp_store_mid 38 (.tmp 9) (.tmp 159) rfl (w.heap.size + 1 + 1 + 1) 0 (#[.int .i64 0, .int .i64 0]) rfl rfl (BX.out.there4 rfl) (by kernel_rfl) (by simp [Value.oneCell']) ?_
      obtain ⟨w9, he⟩ : ∃ z, z = w8.setCells (w.heap.size + 1 + 1 + 1) 0 (#[.int .i64 0, .int .i64 0]).toList := ⟨_, rfl⟩
      have ov := Blk.over4 BX.out (#[.int .i64 0, .int .i64 0]).toList rfl
      rw [← he] at ov
      change _ ∧ wpAnyU _ _ _ _ _ _ _ _ _ (w8.setCells (w.heap.size + 1 + 1 + 1) 0 (#[.int .i64 0, .int .i64 0]).toList)
      rw [← he]
      clear he
      replace BA := hid_ (BA.out.fr ov.2 (only_ne (by omega)))
      replace BW := hid_ (BW.out.fr ov.2 (only_ne (by omega)))
      replace FO := hid_ (FO.out.then_only ov.2 (.inl (by show _ = _ ∨ _ = _; omega)))
      replace HPL := hid_ (HPL.out.far LOW.out (by omega) (by omega) ov.2 BX.out (by decide) (by decide) hal hGw)
      replace BX := hid_ ov.1
      replace F4 := hid_ (F4.out.then_only ov.2 (.inr (by omega)))
      clear ov
      refine ⟨.inr BW.out, ?_⟩
      refine wpAnyU_oneR (i := 8) rfl (by kernel_rfl) (by kernel_rfl) ?_
      go_simp
      refine ⟨BW.out, ?_⟩
      refine wpAnyU_done (by kernel_rfl) ?_ _
      go_wp2_with fail
      have a0 := BA.out.cell' (i := 0) rfl
      have a1 := BA.out.cell' (i := 1) rfl
      have a2 := BA.out.cell' (i := 2) rfl
      have b0 := BX.out.cell' (i := 0) rfl
      have b1 := BX.out.cell' (i := 1) rfl
      refine bodyPost_ret (v := .tuple #[raV slots last L' A2 c2, .agg #[.int .i64 0, .int .i64 0], .bool true]) ?_ rfl ⟨ss', L', A2, c2, 0, 0, rfl, HPL.out, HLL.out.1, HLL.out.2.1, HLL.out.2.2, F4.out⟩
      simp [results, Tryd.results13, go_sem, a0, a1, a2, b0, b1]
end Go.Proofs.YtfoljojacakkeaaDoor

/- Layer 4's does at Alloc. Written by gen_doalloc4.py. -/
import Derived.Test.YtfoljojacakkeaaDoorDoL4
import Derived.Test.YtfoljojacakkeaaDoorRb4
import Derived.Test.YtfoljojacakkeaaDoorUw
namespace Go.Proofs.YtfoljojacakkeaaDoor
open Go.RowKit Go.ChangeShapes Go.WideShapes
set_option maxRecDepth 100000
set_option linter.unusedVariables false
/-- What Alloc tells, and leaves. -/
def AllocX4 (last : Int) (ss : List Sl) (R : Rc) (sl gn c : Int) (ss' : List Sl) : Prop :=
  (∃ (i : Nat) (s : Sl) (vr ve : Value), ss[i]? = some s ∧ (s.used = false ∧ s.gen ≠ last) ∧ (∀ (j : Nat) (t : Sl), j < i → ss[j]? = some t → t.used = true ∨ t.gen = last) ∧ sl = (i : Int) + 1 ∧ gn = s.gen + 1 ∧ c = 0 ∧ ss' = ss.set i ⟨s.gen + 1, true, R, vr, ve⟩) ∨
  ((∀ (j : Nat) (t : Sl), ss[j]? = some t → t.used = true ∨ t.gen = last) ∧ sl = 0 ∧ gn = 0 ∧ c = allocErr ss ∧ ss' = ss)
theorem allocErr_pos4 (ss : List Sl) : allocErr ss ≠ 0 := by unfold allocErr; split <;> decide
/-- Where the slots' rows lie. -/
def OwnIn (P : Nat → Prop) (ss : List Sl) : Prop := ∀ (i : Nat) (s : Sl), ss[i]? = some s → (∀ k, s.vr.ownBlock = some k → P k) ∧ (∀ k, s.ve.ownBlock = some k → P k)
theorem Ar.ownlt {w : World} {a G : Nat} {last : Int} {ss : List Sl} (h : Ar w a G last ss) : OwnIn (· < w.heap.size) ss := fun i s hs => ⟨fun k hk => ((h.own i s hs).r.lt k hk).2, fun k hk => ((h.own i s hs).e.lt k hk).2⟩
theorem Ar.rowsoff {w w' : World} {a G : Nat} {last : Int} {ss : List Sl} (h : Ar w a G last ss) {g : Nat} (hf : Fr (only g) w w') (ho : OwnIn (· ≠ g) ss) (ha : a ≠ g) (hG : G ≠ g) : Ar w' a G last ss := by
  obtain ⟨cs, hB, hc⟩ := h.hG
  exact ⟨h.hA.fr hf (only_ne ha), ⟨cs, hB.fr hf (only_ne hG), hc⟩, fun i s hs => (h.own i s hs).fr hf (fun k hk e => (ho i s hs).1 k hk e) (fun k hk e => (ho i s hs).2 k hk e), h.l40, h.len, h.gen, h.sz⟩
theorem alloc_x (R : Rc) (A : Option Addr) (c : Nat) (B : Option Addr) (d : Nat) {w : World} {a G : Nat} {last : Int} {ss : List Sl} (h : Ar w a G last ss) (hr : RecReads w R A B) (hz : R.rows.length ≤ 1000 ∧ R.ents.length ≤ 1000) :
    Calls Tryd.prog 59 #[.pointer (some ⟨a, 0, none⟩), recV R (.slice A R.rows.length c) (.slice B R.ents.length d)] w fun e w' => ∃ sl gn k ss', e = .returned (.tuple #[.agg #[.int .i64 sl, .int .i64 gn], errOf k]) ∧ AllocX4 last ss R sl gn k ss' ∧ Ar w' a G last ss' ∧ Fr (only G) w w' ∧ (∀ lo, OwnIn (· < lo) ss → OwnIn (fun k => k < lo ∨ w.heap.size ≤ k) ss') := by
  refine (alloc_ok R A c B d w a G last ss h hr hz).mono ?_
  rintro e w' (⟨i, s, vr, ve, h1, h2, h3, rfl, hA, hO, hf⟩ | ⟨h1, rfl, hf⟩)
  · refine ⟨_, _, 0, _, rfl, .inl ⟨i, s, vr, ve, h1, h2, h3, rfl, rfl, rfl, rfl⟩, hA, hf, fun lo hlo j t ht => ?_⟩
    rw [List.getElem?_set] at ht
    split at ht
    · split at ht
      · obtain rfl := Option.some.inj ht
        exact ⟨fun k hk => .inr (hO.r.lt k hk).1, fun k hk => .inr (hO.e.lt k hk).1⟩
      · cases ht
    · exact ⟨fun k hk => .inl ((hlo j t ht).1 k hk), fun k hk => .inl ((hlo j t ht).2 k hk)⟩
  · exact ⟨0, 0, allocErr ss, ss, by rw [errOf_pos (allocErr_pos4 ss)], .inr ⟨h1, rfl, rfl, rfl, rfl⟩, h.keep hf, hf.mono (fun _ _ e => e.elim), fun lo hlo j t ht => ⟨fun k hk => .inl ((hlo j t ht).1 k hk), fun k hk => .inl ((hlo j t ht).2 k hk)⟩⟩
/-- The record of a step, in its box. -/
theorem do_rec {w : World} {b : Nat} {t : TypeId} {D : Dn} (h : Blk w b t (doL D).toArray) : w.rangeAt b 1 (recA D.R (.slice D.A D.R.rows.length D.c) (.slice D.B D.R.ents.length D.d)).toList := fun j v hv => by
  match j, hv with
  | 0, hv => obtain rfl := Option.some.inj hv; exact h.cell' rfl
  | 1, hv => obtain rfl := Option.some.inj hv; exact h.cell' rfl
  | 2, hv => obtain rfl := Option.some.inj hv; exact h.cell' rfl
  | 3, hv => obtain rfl := Option.some.inj hv; exact h.cell' rfl
  | 4, hv => obtain rfl := Option.some.inj hv; exact h.cell' rfl
  | 5, hv => obtain rfl := Option.some.inj hv; exact h.cell' rfl
  | 6, hv => obtain rfl := Option.some.inj hv; exact h.cell' rfl
  | 7, hv => obtain rfl := Option.some.inj hv; exact h.cell' rfl
  | 8, hv => obtain rfl := Option.some.inj hv; exact h.cell' rfl
  | 9, hv => obtain rfl := Option.some.inj hv; exact h.cell' rfl
  | 10, hv => obtain rfl := Option.some.inj hv; exact h.cell' rfl
  | 11, hv => obtain rfl := Option.some.inj hv; exact h.cell' rfl
  | 12, hv => obtain rfl := Option.some.inj hv; exact h.cell' rfl
  | 13, hv => obtain rfl := Option.some.inj hv; exact h.cell' rfl
  | 14, hv => obtain rfl := Option.some.inj hv; exact h.cell' rfl
  | n + 15, hv => simp at hv
/-- Both arenas answer an Alloc alike. -/
theorem plA_alloced {w w2 w3 : World} {a G : Nat} {slots last : Int} {ss ss' : List Sl} {L : List RaP} {A : Option Addr} {c : Nat} (h : PlA w a G slots last ss L A c) {R : Rc} {sl gn k : Int} (hx : AllocX4 last ss R sl gn k ss') {A' B' : Option Addr} {ca cb : Nat} {e : Ending} (hp : RAllocPost slots last L R A c A' ca B' cb w2 e w3)
    (ha : ∀ w', Fr none_ w2 w' → Ar w' a G last ss') (hw : w.heap.size ≤ w2.heap.size) (hO : OffR G R A' B') (hlow : (∀ ad, A' = some ad → 0 < R.rows.length → ad.block < w.heap.size) ∧ (∀ ad, B' = some ad → 0 < R.ents.length → ad.block < w.heap.size)) :
    ∃ L' A2 c2, e = .returned (.tuple #[raV slots last L' A2 c2, .agg #[.int .i64 sl, .int .i64 gn], .int .i64 k]) ∧ PlA w3 a G slots last ss' L' A2 c2 ∧ L'.length ≤ L.length + 1 ∧ FromL L' L R A' B' ∧ LowA w.heap.size w2.heap.size L' A2 ∧ ((A2 = A ∧ L'.length = L.length) ∨ ∀ ad, A2 = some ad → w.heap.size ≤ ad.block) ∧ Fr none_ w2 w3 := by
  have hG := h.ar.ltG
  rcases hp with ⟨i2, A2, c2, b1, b2, b3, b4, rfl, b6, b7, b8⟩ | ⟨b1, rfl, b3, b4⟩
  · rcases hx with ⟨i, s, vr, ve, x1, x2, x3, rfl, rfl, rfl, rfl⟩ | ⟨x1, rfl, rfl, rfl, rfl⟩
    · obtain rfl := h.first x1 x2 x3 b1 b2 b3 b4
      have e1 : (slotP L ((i2 : Int) + 1)).1 = s.gen := by
        have := h.slot x1
        rw [show ((i2 + 1 : Nat) : Int) = (i2 : Int) + 1 by omega] at this
        rw [this]
      have e2 : (slotP L ((i2 + 1 : Nat) : Int)).1 = s.gen := by
        have := h.slot x1
        rw [this]
      rw [e2] at b6
      refine ⟨_, A2, c2, by rw [e2], ?_, by simp, fun q hq => ?_, (h.low _).put hlow b7, .inr (fun ad had => Nat.le_trans hw (b7 ad had)), b8⟩
      · exact PlA.put h x1 x2.1 (ha _ b8) b6 (fun ad had => by have := b7 ad had; omega) hG hO
      · rcases List.mem_append.1 hq with hq | hq
        · exact .inl ⟨q, hq, rfl, rfl, rfl⟩
        · obtain rfl := List.mem_singleton.1 hq
          exact .inr ⟨rfl, rfl, rfl⟩
    · exact (h.none_ x1 b1 b3 b4).elim
  · rcases hx with ⟨i, s, vr, ve, x1, x2, x3, rfl, rfl, rfl, rfl⟩ | ⟨x1, rfl, rfl, rfl, rfl⟩
    · exact (h.some_ x1 x2 b1).elim
    · have hns := h.ns
      have e1 : whyTo L slots.toNat = allocErr ss' := by
        have := h.why ss'.length (Nat.le_refl _)
        rw [List.take_length] at this
        rw [← this, show slots.toNat = ss'.length by omega]
      refine ⟨L, A, c, by rw [e1], ⟨ha _ b4, b3, h.sim, h.ns, h.xg, h.offA, h.offR⟩, Nat.le_succ _, FromL.same _ _ _ _, ?_, .inl ⟨rfl, rfl⟩, b4⟩
      exact h.low _
theorem eqr4 (x y : Operand) (s g : Int) (w : World) (h : (eqGuard .eql 38 x y (.agg #[.int .i64 s, .int .i64 g]) (.agg #[.int .i64 s, .int .i64 g])).run Tryd.prog w = .ok () w) : (do eqGuard .eql 38 x y (.agg #[.int .i64 s, .int .i64 g]) (.agg #[.int .i64 s, .int .i64 g]); binOp .eql 38 (.agg #[.int .i64 s, .int .i64 g]) (.agg #[.int .i64 s, .int .i64 g])).run Tryd.prog w = .ok (.bool true) w := by
  simp [Sem.run_bind, h, eql_ref]
theorem err_nil4 (k : Int) (w : World) : (do eqGuard .eql 62 (.tmp 99) (.const .nilIface) (errOf k) .nilIface; binOp .eql 62 (errOf k) .nilIface).run Tryd.prog w = .ok (.bool (k == 0)) w := by
  by_cases h : k = 0
  · subst h
    kernel_rfl
  · rw [errOf_pos h, show (k == 0) = false by simpa using h]
    kernel_rfl
set_option maxHeartbeats 16000000 in
theorem does_alloc (a G : Nat) (slots last : Int) (ss : List Sl) (L : List RaP) (A : Option Addr) (c : Nat) (D : Dn) (X : List Rf) (cx : Nat) (XA : Option Addr) (w : World) (h : PlA w a G slots last ss L A c) (hL : Laid w) (h0 : 0 ≠ G) (hX : Reads w 2 XA X.length (rfFlat X)) (hXl : X.length ≤ 5000) (hDO : DnOk w D) (hoff : OffR G D.R D.A D.B) (hz : D.R.rows.length ≤ 1000 ∧ D.R.ents.length ≤ 1000) (hs1 : 1 ≤ slots) (hs2 : slots ≤ 4096) (hLl : L.length < 5000) (hv : D.verb = 0) :
    Calls Tryd.prog 13 #[.pointer (some ⟨a, 0, none⟩), raV slots last L A c, .agg (doL D).toArray, .slice XA X.length cx] w (DoesPost a G slots last L D A w) := by
  have hD := hDO.nb
  have HLd := hid_ hL
  have HDO := hid_ hDO
  have HOF := hid_ hoff
  have HZ := hid_ hz
  have HS := hid_ (And.intro hs1 (And.intro hs2 hLl))
  have hGw := h.ar.ltG
  have hal := h.ar.ltA
  clear hL hDO hoff hz hs1 hs2 hLl
  obtain ⟨w0, hw0⟩ : ∃ z, z = (((w.alloc (.cells (raA slots last L A c) 29)).alloc (.cells (doL D).toArray 42)).alloc (.cells #[.int .i64 0, .int .i64 0, .slice none 0 0] 29)).alloc (.cells #[.int .i64 0, .int .i64 0] 38) := ⟨_, rfl⟩
  have f0 : Fr none_ w w0 := by rw [hw0]; exact ((((Fr.refl none_ w).alloc _).alloc _).alloc _).alloc _
  have BV : Hid (Blk w0 w.heap.size 29 (raA slots last L A c)) := hid_ (by rw [hw0]; exact (((Blk.new w _ _).alloc _).alloc _).alloc _)
  have BD : Hid (Blk w0 (w.heap.size + 1) 42 (doL D).toArray) := hid_ (by rw [hw0]; exact ((Blk.new_at4 _ _ (by simp)).alloc _).alloc _)
  have BA : Hid (Blk w0 (w.heap.size + 1 + 1) 29 #[.int .i64 0, .int .i64 0, .slice none 0 0]) := hid_ (by rw [hw0]; exact (Blk.new_at4 _ _ (by simp)).alloc _)
  have BX : Hid (Blk w0 (w.heap.size + 1 + 1 + 1) 38 #[.int .i64 0, .int .i64 0]) := hid_ (by rw [hw0]; exact Blk.new_at4 _ _ (by simp))
  have hs0 : w0.heap.size = w.heap.size + 1 + 1 + 1 + 1 := by rw [hw0]; simp
  have H := hid_ h
  have HX := hid_ (hX.none_fr f0)
  have F0 := hid_ f0
  clear f0 h hX
  go_enter Tryd.func13, Tryd.ntmps13
  go_upto_region 1 with fail
  change Code.wp _ _ _ _ ((((w.alloc (.cells (raA slots last L A c) 29)).alloc (.cells (doL D).toArray 42)).alloc (.cells #[.int .i64 0, .int .i64 0, .slice none 0 0] 29)).alloc (.cells #[.int .i64 0, .int .i64 0] 38))
  rw [← hw0]
  clear hw0
  have d16 : w0.cell? ⟨w.heap.size + 1, 16, none⟩ = some (.int .i64 D.sl) := BD.out.cell' rfl
  have d17 : w0.cell? ⟨w.heap.size + 1, 17, none⟩ = some (.int .i64 D.gn) := BD.out.cell' rfl
  go_upto_region 2 with fail
  obtain ⟨w1, hw1⟩ : ∃ z, z = w0.alloc (.cells #[.int .i64 D.sl, .int .i64 D.gn] 38) := ⟨_, rfl⟩
  have f1 : Fr none_ w0 w1 := by rw [hw1]; exact (Fr.refl none_ w0).alloc _
  have BT : Hid (Blk w1 w0.heap.size 38 #[.int .i64 D.sl, .int .i64 D.gn]) := hid_ (by rw [hw1]; exact Blk.new w0 _ _)
  change Code.wp _ _ _ _ (w0.alloc (.cells #[.int .i64 D.sl, .int .i64 D.gn] 38))
  rw [← hw1]
  clear hw1 d16 d17
  rw [hs0] at BT
  have S1 : Hid (DoSt w w1 w0.heap.size slots last L A c D D.sl D.gn) := hid_ ⟨BV.out.fr f1 id, BD.out.fr f1 id, BA.out.fr f1 id, BX.out.fr f1 id, BT.out, F0.out.then_none f1⟩
  replace HX := hid_ (HX.out.none_fr f1)
  clear BV BD BA BX BT F0 f1
  go_cut [36] (fun u wq => u = .bool (D.lst && decide (0 < X.length)) ∧ DoSt w wq w0.heap.size slots last L A c D D.sl D.gn ∧ Fr none_ w1 wq)
  case first =>
    have d18 : w1.cell? ⟨w.heap.size + 1, 18, none⟩ = some (.bool D.lst) := S1.out.bd.cell' rfl
    cases hlst : D.lst with
    | false =>
      rw [hlst] at d18
      have HLS := hid_ hlst
      clear hlst
      go_wp2_with fail
      go_meet
      exact ⟨by rw [HLS.out]; rfl, S1.out, Fr.refl _ _⟩
    | true =>
      rw [hlst] at d18
      have HLS := hid_ hlst
      clear hlst
      by_cases hn : 0 < X.length
      · have hd : decide ((0 : Int) < (X.length : Int)) = true := by simpa using hn
        have hq : (true && decide (0 < X.length)) = true := by simpa using hn
        go_wp2_with fail
        go_meet
        exact ⟨by rw [HLS.out, hq], S1.out, Fr.refl _ _⟩
      · have hd : decide ((0 : Int) < (X.length : Int)) = false := by simpa using hn
        have hq : (true && decide (0 < X.length)) = false := by simpa using hn
        go_wp2_with fail
        go_meet
        exact ⟨by rw [HLS.out, hq], S1.out, Fr.refl _ _⟩
  case rest =>
    obtain ⟨rfl, hS, hf⟩ := hcut
    obtain ⟨w2, rfl⟩ : ∃ z : World, z = wc := ⟨_, rfl⟩
    have S2 := hid_ hS
    replace HX := hid_ (HX.out.none_fr hf)
    clear hS hf S1
    obtain ⟨bb, hbb⟩ : ∃ bb, (D.lst && decide (0 < X.length)) = bb := ⟨_, rfl⟩
    rw [hbb]
    have HB := hid_ hbb
    clear hbb
    go_upto_if 36 with fail
    go_cut [49] (fun u wq => ∃ x y, DoSt w wq w0.heap.size slots last L A c D x y)
    case first =>
      cases bb with
      | false =>
        go_wp2_with fail
        go_meet
        exact ⟨_, _, S2.out⟩
      | true =>
        have hn : 0 < X.length := by have := HB.out; simp at this; exact this.2
        have d19 : w2.cell? ⟨w.heap.size + 1, 19, none⟩ = some (.int .u8 D.nn) := S2.out.bd.cell' rfl
        have hmod : D.nn.tmod (X.length : Int) = D.nn % (X.length : Int) := Int.tmod_eq_emod_of_nonneg hD.1
        obtain ⟨q, hq⟩ : ∃ q : Nat, (X.length : Int) - 1 - D.nn % (X.length : Int) = q := ⟨((X.length : Int) - 1 - D.nn % X.length).toNat, by have := Int.emod_lt_of_pos D.nn (show (0:Int) < X.length by omega); have := Int.emod_nonneg D.nn (show (X.length : Int) ≠ 0 by omega); omega⟩
        have hql : q < X.length := by have := Int.emod_nonneg D.nn (show (X.length : Int) ≠ 0 by omega); omega
        obtain ⟨p, hp⟩ : ∃ p, X[q]? = some p := ⟨_, List.getElem?_eq_getElem hql⟩
        obtain ⟨gb, go, rfl, hgb, r0, r1⟩ := rf_at HX.out hp
        have hq0 : (0 : Int) ≤ (q : Int) := Int.natCast_nonneg _
        have hq1 : (q : Int) < (X.length : Int) := by omega
        have x0 : w2.cell? ⟨w.heap.size + 1 + 1 + 1 + 1, 0, none⟩ = some (.int .i64 D.sl) := S2.out.bt.cell' rfl
        have x1 : w2.cell? ⟨w.heap.size + 1 + 1 + 1 + 1, 1, none⟩ = some (.int .i64 D.gn) := S2.out.bt.cell' rfl
        have z0 := S2.out.bt.frozen 0
        have z1 := S2.out.bt.frozen 1
        have xl := S2.out.bt.lt
        obtain ⟨nb1, nb2⟩ := hD
        have hf : Fr (only (w.heap.size + 1 + 1 + 1 + 1)) w2 ((w2.setCell ⟨w.heap.size + 1 + 1 + 1 + 1, 0, none⟩ (.int .i64 p.1)).setCell ⟨w.heap.size + 1 + 1 + 1 + 1, 1, none⟩ (.int .i64 p.2)) := ((Fr.refl (only (w.heap.size + 1 + 1 + 1 + 1)) w2).setCell (p := ⟨w.heap.size + 1 + 1 + 1 + 1, 0, none⟩) (.inl (Eq.refl _)) _).setCell (p := ⟨w.heap.size + 1 + 1 + 1 + 1, 1, none⟩) (.inl (Eq.refl _)) _
        have S3 : Hid (DoSt w ((w2.setCell ⟨w.heap.size + 1 + 1 + 1 + 1, 0, none⟩ (.int .i64 p.1)).setCell ⟨w.heap.size + 1 + 1 + 1 + 1, 1, none⟩ (.int .i64 p.2)) w0.heap.size slots last L A c D p.1 p.2) := hid_ ⟨S2.out.bv.fr hf (only_ne (by omega)), S2.out.bd.fr hf (only_ne (by omega)), S2.out.ba.fr hf (only_ne (by omega)), S2.out.bx.fr hf (only_ne (by omega)), (S2.out.bt.set_ 0 _).set_ 1 _, S2.out.fr.then_only hf (.inr (by omega))⟩
        clear hp hql hf
        go_wp2_with fail
        go_meet
        exact ⟨_, _, S3.out⟩
    case rest =>
      obtain ⟨x, y, hS⟩ := hcut
      obtain ⟨w3, rfl⟩ : ∃ z : World, z = wc := ⟨_, rfl⟩
      have S := hid_ hS
      clear hS S2
      have d0 : w3.cell? ⟨w.heap.size + 1, 0, none⟩ = some (.int .i64 D.verb) := S.out.bd.cell' rfl
      rw [hv] at d0
      have h3s := S.out.fr.size
      go_wp2_with (refine wpList_load_mid rfl 40 (.tmp 54) rfl (w.heap.size + 1) 1 rfl (recA D.R (.slice D.A D.R.rows.length D.c) (.slice D.B D.R.ents.length D.d)).toList _ (do_rec S.out.bd) Tryd.underlying40 rfl rec_size4 ?_)
      refine (clone_ok D.R D.A D.c D.B D.d w3 (HDO.out.rd.keep S.out.fr) HZ.out.1 HZ.out.2).mono ?_
      rintro e w4 ⟨A1, c1, B1, d1, rfl, hown, hf⟩
      have HO := hid_ hown
      have h34 := hf.size
      have S4 := hid_ (And.intro (S.out.bv.fr hf id) (And.intro (S.out.bd.fr hf id) (And.intro (S.out.ba.fr hf id) (And.intro (S.out.bx.fr hf id) (S.out.fr.then_none hf)))))
      clear hown hf d0
      go_upto_region 7 with (refine wpList_store_mid rfl 40 (.tmp 12) (.tmp 56) rfl w4.heap.size 0 ((recA D.R (.slice A1 D.R.rows.length c1) (.slice B1 D.R.ents.length d1))) rfl rfl (new_there w4 _ recZ) rec_size4 (by simp [Value.oneCell']) ?_; obtain ⟨w5, hw⟩ : ∃ z, z = (w4.alloc (.cells recZ 40)).setCells w4.heap.size 0 ((recA D.R (.slice A1 D.R.rows.length c1) (.slice B1 D.R.ents.length d1))).toList := ⟨_, rfl⟩; change wpList _ _ _ _ _ ((w4.alloc (.cells recZ 40)).setCells w4.heap.size 0 ((recA D.R (.slice A1 D.R.rows.length c1) (.slice B1 D.R.ents.length d1))).toList); rw [← hw]; have X5 : Hid (Blk w5 w4.heap.size 40 ((recA D.R (.slice A1 D.R.rows.length c1) (.slice B1 D.R.ents.length d1))) ∧ Fr none_ w4 w5) := hid_ (by rw [hw]; exact new_copy w4 _ recZ ((recA D.R (.slice A1 D.R.rows.length c1) (.slice B1 D.R.ents.length d1))).toList rfl); clear hw)
      replace HO := hid_ (HO.out.keep X5.out.2)
      replace S4 := hid_ (And.intro (S4.out.1.fr X5.out.2 id) (And.intro (S4.out.2.1.fr X5.out.2 id) (And.intro (S4.out.2.2.1.fr X5.out.2 id) (And.intro (S4.out.2.2.2.1.fr X5.out.2 id) (S4.out.2.2.2.2.then_none X5.out.2)))))
      go_wp2_with (refine wpList_load_mid rfl 40 (.tmp 12) rfl w4.heap.size 0 rfl (recA D.R (.slice A1 D.R.rows.length c1) (.slice B1 D.R.ents.length d1)).toList _ (Blk.range4 (cs := (recA D.R (.slice A1 D.R.rows.length c1) (.slice B1 D.R.ents.length d1)).toList) X5.out.1) Tryd.underlying40 rfl rec_size4 ?_)
      refine (alloc_x D.R A1 c1 B1 d1 (H.out.ar.keep S4.out.2.2.2.2) HO.out.reads HZ.out).mono ?_
      rintro e w6 ⟨sl, gn, kk, ss', rfl, hx, har, hf6, hin⟩
      have HIN := hid_ (hin w.heap.size H.out.ar.ownlt)
      have HBO : Hid (∀ k, (Value.slice A1 D.R.rows.length c1).ownBlock = some k → w3.heap.size ≤ k ∧ k < w5.heap.size) := hid_ (fun k hk => HO.out.r.lt k hk)
      clear hin
      have HX6 := hid_ hx
      have HAR := hid_ har
      have hg5 := S4.out.2.2.2.2.size
      have hb5 := S4.out.2.2.2.1.lt
      have h56 := hf6.size
      have F6 : Hid (Fr (only G) w w6) := hid_ ((S4.out.2.2.2.2.mono (fun _ _ e => e.elim)).trans hf6 (fun _ _ => id) (fun _ _ => id))
      have OR6 := own_fr HO.out.r hf6 (fun j hj e => by have h1 := (HO.out.r.lt j hj).1; have h2 : j = G := e; omega)
      have S6 := hid_ (And.intro (S4.out.1.fr hf6 (only_ne (by omega))) (And.intro (S4.out.2.1.fr hf6 (only_ne (by omega))) (And.intro (S4.out.2.2.1.fr hf6 (only_ne (by omega))) (And.intro (S4.out.2.2.2.1.fr hf6 (only_ne (by omega))) (And.intro OR6 (X5.out.1.fr hf6 (only_ne (by have := S.out.fr.size; have := HO.out; omega))))))))
      clear hx har hf6 OR6 S4 X5 HO
      go_upto_region 8 with fail
      obtain ⟨w7, hw7⟩ : ∃ z, z = w6.alloc (.cells #[.int .i64 sl, .int .i64 gn] 38) := ⟨_, rfl⟩
      have f7 : Fr none_ w6 w7 := by rw [hw7]; exact (Fr.refl none_ w6).alloc _
      have BR : Hid (Blk w7 w6.heap.size 38 #[.int .i64 sl, .int .i64 gn]) := hid_ (by rw [hw7]; exact Blk.new w6 _ _)
      change Code.wp _ _ _ _ (w6.alloc (.cells #[.int .i64 sl, .int .i64 gn] 38))
      rw [← hw7]
      clear hw7
      have C9 : Hid (DL4 w w7 w3.heap.size w4.heap.size D.R (.slice A1 D.R.rows.length c1) (.slice B1 D.R.ents.length d1) D.R.rows slots last L A c (doL D) w6.heap.size #[.int .i64 sl, .int .i64 gn] (only G)) := hid_ ⟨own_none S6.out.2.2.2.2.1 f7, S6.out.2.2.2.2.2.fr f7 id, S6.out.1.fr f7 id, S6.out.2.1.fr f7 id, S6.out.2.2.1.fr f7 id, S6.out.2.2.2.1.fr f7 id, BR.out, F6.out.then_none f7⟩
      replace HAR := hid_ (HAR.out.keep f7)
      have h67 := f7.size
      have h6s := F6.out.size
      clear f7 S6 BR
      have s5 : w7.cell? ⟨w4.heap.size, 5, none⟩ = some (.slice A1 D.R.rows.length c1) := C9.out.bt.cell' rfl
      have hzr := HZ.out.1
      have CW : Hid (Fr none_ w7 w7) := hid_ (Fr.refl none_ w7)
      go_wp2_with fail
      clear s5
      go_loopw [66] (fun i wr => ∃ (k : Nat) (Lr : List Rw), k ≤ D.R.rows.length ∧ i = .int .i64 k ∧ Lr.length = D.R.rows.length ∧ (∀ (j : Nat) (p : Rw), k ≤ j → Lr[j]? = some p → p.1.size ≤ 9223372036854775000) ∧ DL4 w wr w3.heap.size w4.heap.size D.R (.slice A1 D.R.rows.length c1) (.slice B1 D.R.ents.length d1) Lr slots last L A c (doL D) w6.heap.size #[.int .i64 sl, .int .i64 gn] (only G) ∧ Ar wr a G last ss') (fun i _ => D.R.rows.length - (intOf i).toNat)
      case atStart => exact ⟨0, D.R.rows, Nat.zero_le _, rfl, rfl, fun j p _ hp => HDO.out.ks j p hp, C9.out, HAR.out⟩
      case round =>
        obtain ⟨k, Lr, hk, rfl, hLr, hsz, hC, hA9⟩ := hrel
        have C := hid_ hC
        have HL := hid_ hsz
        have HA9 := hid_ hA9
        clear hC hsz hA9
        by_cases hlt : k < D.R.rows.length
        · obtain ⟨p, hp⟩ : ∃ p, Lr[k]? = some p := ⟨_, List.getElem?_eq_getElem (by omega)⟩
          obtain ⟨g, rfl, g1, g2⟩ := own_rw0 C.out.r hLr hp
          have x5 : wr.cell? ⟨w4.heap.size, 5, none⟩ = some (.slice (some ⟨g, 0, none⟩) D.R.rows.length c1) := C.out.bt.cell' rfl
          have hi0 : (0 : Int) ≤ (k : Int) := Int.natCast_nonneg _
          have hi1 : (k : Int) < (D.R.rows.length : Int) := by omega
          have hcatn : p.1.size + (⟨#[120]⟩ : ByteArray).size ≤ 9223372036854775807 := by have := HL.out k p (Nat.le_refl _) hp; have e : (⟨#[120]⟩ : ByteArray).size = 1 := rfl; rw [e]; omega
          have hcat : ((p.1.size : Int) + ((⟨#[120]⟩ : ByteArray).size : Int)) ≤ 9223372036854775807 := by omega
          have hadd := fun w : World => run_string_add_sum (P := Tryd.prog) w p.1 ⟨#[120]⟩ hcatn
          have CP := hid_ (C.out.put h3s hLr hp (p.1 ++ ⟨#[120]⟩))
          have AP : Hid (Ar (wr.setCell ⟨g, k * 2, none⟩ (.string (p.1 ++ ⟨#[120]⟩))) a G last ss') := hid_ (by have hb := HBO.out g rfl; exact HA9.out.rowsoff (g := g) (Fr.only1 wr ⟨g, k * 2, none⟩ _) (fun i s hs => ⟨fun k hk => by have h1 : k < w.heap.size ∨ w5.heap.size ≤ k := (HIN.out i s hs).1 k hk; show k ≠ g; omega, fun k hk => by have h1 : k < w.heap.size ∨ w5.heap.size ≤ k := (HIN.out i s hs).2 k hk; show k ≠ g; omega⟩) (show a ≠ g by omega) (show G ≠ g by omega))
          have hpl : Lr.length = D.R.rows.length := hLr
          clear hp
          go_wp2_with fail
          go_roundw
          case rel => exact ⟨k + 1, _, by omega, by go_num, by rw [List.length_set]; exact hpl, fun j q hj hq => HL.out j q (by omega) (by rw [List.getElem?_set_ne (by omega)] at hq; exact hq), CP.out, AP.out⟩
          case measure => simp [intOf]; omega
      
        · have hk2 : ¬ ((k : Int) < (D.R.rows.length : Int)) := by omega
          have v0 : wr.cell? ⟨w.heap.size, 0, none⟩ = some (.int .i64 slots) := C.out.bv.cell' rfl
          have v1 : wr.cell? ⟨w.heap.size, 1, none⟩ = some (.int .i64 last) := C.out.bv.cell' rfl
          have v2 : wr.cell? ⟨w.heap.size, 2, none⟩ = some (.slice A L.length c) := C.out.bv.cell' rfl
          have hrs := C.out.fr.size
          go_wp2_with (refine wpList_load_mid rfl 40 (.tmp 81) rfl (w.heap.size + 1) 1 rfl (recA D.R (.slice D.A D.R.rows.length D.c) (.slice D.B D.R.ents.length D.d)).toList _ (do_rec C.out.bd) Tryd.underlying40 rfl rec_size4 ?_)
          refine (ralloc_ok slots last L A c D.R D.A D.c D.B D.d wr HS.out.1 HS.out.2.1 H.out.ar.l40 (fun n => H.out.gen0 n) HS.out.2.2 (H.out.ra.off C.out.fr H.out.offA H.out.offR) (HDO.out.rd.off C.out.fr HOF.out) HZ.out).mono ?_
          intro e w10 hp
          obtain ⟨L', A2, c2, rfl, hpl, hll, hfl, hlow, hfa, hf10⟩ := plA_alloced H.out HX6.out hp (fun w' hw => HA9.out.keep hw) hrs HOF.out HDO.out.rd.low
          have HPL := hid_ hpl
          have HLL := hid_ (And.intro hll (And.intro hfl hfa))
          have LOW := hid_ hlow
          have C10 := hid_ (C.out.keep hf10)
          have hb10 := C10.out.bx.lt
          have he10 := C10.out.ex.lt
          have hbr := C.out.bx.lt
          have h10 := hf10.size
          clear hp hpl hll hfl hfa hlow hf10 v0 v1 v2 C HA9 HL
          go_upto_region 14 with fail
          obtain ⟨w11, hw11⟩ : ∃ z, z = (w10.alloc (.cells (raA slots last L' A2 c2) 29)).alloc (.cells #[.int .i64 sl, .int .i64 gn] 38) := ⟨_, rfl⟩
          have f11 : Fr none_ w10 w11 := by rw [hw11]; exact ((Fr.refl none_ w10).alloc _).alloc _
          have BV2 : Hid (Blk w11 w10.heap.size 29 (raA slots last L' A2 c2)) := hid_ (by rw [hw11]; exact (Blk.new w10 _ _).alloc _)
          have BY : Hid (Blk w11 (w10.heap.size + 1) 38 #[.int .i64 sl, .int .i64 gn]) := hid_ (by rw [hw11]; exact Blk.new_at4 _ _ (by simp))
          change Code.wp _ _ _ _ ((w10.alloc (.cells (raA slots last L' A2 c2) 29)).alloc (.cells #[.int .i64 sl, .int .i64 gn] 38))
          rw [← hw11]
          clear hw11
          have BR := hid_ (C10.out.ex.fr f11 id)
          have BA := hid_ (C10.out.ba.fr f11 id)
          have BX := hid_ (C10.out.bx.fr f11 id)
          have F4 := hid_ (C10.out.fr.then_none f11)
          have L5 : Hid (Laid w11) := hid_ (HLd.out.fr F4.out h0)
          replace HPL := hid_ (HPL.out.keep f11)
          clear f11 C10
          have hS : (fun w' : World => Blk w' w10.heap.size 29 (raA slots last L' A2 c2) ∧ Blk w' w6.heap.size 38 #[.int .i64 sl, .int .i64 gn] ∧ Blk w' (w10.heap.size + 1) 38 #[.int .i64 sl, .int .i64 gn]) w11.drew := ⟨BV2.out.drew, BR.out.drew, BY.out.drew⟩
          refine wp_region_u 21 (fun w' : World => Blk w' w10.heap.size 29 (raA slots last L' A2 c2) ∧ Blk w' w6.heap.size 38 #[.int .i64 sl, .int .i64 gn] ∧ Blk w' (w10.heap.size + 1) 38 #[.int .i64 sl, .int .i64 gn]) (by kernel_rfl) ?_
          refine u_take 0 (some 87) (.agg (raA slots last L' A2 c2)) rfl rfl (by kernel_rfl) (by kernel_rfl) (by kernel_rfl) (by kernel_rfl) (fun _ _ _ h => h) (yieldsIf_load_mid (by kernel_rfl) 29 (.tmp 16) rfl (w10.heap.size) 0 (by kernel_rfl) ((raA slots last L' A2 c2)).toList _ (fun w' hS => Blk.range4 (cs := ((raA slots last L' A2 c2)).toList) hS.1) Tryd.underlying29 rfl (by kernel_rfl)) hS ?_
          refine u_take 1 (some 88) (.agg #[.int .i64 sl, .int .i64 gn]) rfl rfl (by kernel_rfl) (by kernel_rfl) (by kernel_rfl) (by kernel_rfl) (fun _ _ _ h => h) (yieldsIf_load_mid (by kernel_rfl) 38 (.tmp 13) rfl (w6.heap.size) 0 (by kernel_rfl) (#[.int .i64 sl, .int .i64 gn]).toList _ (fun w' hS => Blk.range4 (cs := (#[.int .i64 sl, .int .i64 gn]).toList) hS.2.1) Tryd.underlying38 rfl (by kernel_rfl)) hS ?_
          refine u_take 2 (some 89) (.agg #[.int .i64 sl, .int .i64 gn]) rfl rfl (by kernel_rfl) (by kernel_rfl) (by kernel_rfl) (by kernel_rfl) (fun _ _ _ h => h) (yieldsIf_load_mid (by kernel_rfl) 38 (.tmp 13) rfl (w6.heap.size) 0 (by kernel_rfl) (#[.int .i64 sl, .int .i64 gn]).toList _ (fun w' hS => Blk.range4 (cs := (#[.int .i64 sl, .int .i64 gn]).toList) hS.2.1) Tryd.underlying38 rfl (by kernel_rfl)) hS ?_
          refine u_take 3 (some 90) (.agg #[.int .i64 sl, .int .i64 gn]) rfl rfl (by kernel_rfl) (by kernel_rfl) (by kernel_rfl) (by kernel_rfl) (fun _ _ _ h => h) (yieldsIf_load_mid (by kernel_rfl) 38 (.tmp 17) rfl (w10.heap.size + 1) 0 (by kernel_rfl) (#[.int .i64 sl, .int .i64 gn]).toList _ (fun w' hS => Blk.range4 (cs := (#[.int .i64 sl, .int .i64 gn]).toList) hS.2.2) Tryd.underlying38 rfl (by kernel_rfl)) hS ?_
          refine u_take 4 (some 91) (.bool true) rfl rfl (by kernel_rfl) (by kernel_rfl) (by kernel_rfl) (by kernel_rfl) (fun _ _ _ h => h) (y_op (do eqGuard .eql 38 (.tmp 89) (.tmp 90) (.agg #[.int .i64 sl, .int .i64 gn]) (.agg #[.int .i64 sl, .int .i64 gn]); binOp .eql 38 (.agg #[.int .i64 sl, .int .i64 gn]) (.agg #[.int .i64 sl, .int .i64 gn])) (by kernel_rfl) (by kernel_rfl) (fun w' hS => eqr4 _ _ sl gn w' (by kernel_rfl))) hS ?_
          refine u_take 5 (some 92) (.bool true) rfl rfl (by kernel_rfl) (by kernel_rfl) (by kernel_rfl) (by kernel_rfl) (fun _ _ _ h => h) (y_val (by kernel_rfl) (fun w' hS => by kernel_rfl)) hS ?_
          refine u_take 6 (some 93) (errOf kk) rfl rfl (by kernel_rfl) (by kernel_rfl) (by kernel_rfl) (by kernel_rfl) (fun _ _ _ h => h) (y_val (by kernel_rfl) (fun w' hS => by kernel_rfl)) hS ?_
          refine u_take 8 (some 95) (.int .i64 kk) rfl rfl (by kernel_rfl) (by kernel_rfl) (by kernel_rfl) (by kernel_rfl) (fun _ _ _ h => h) (y_val (by kernel_rfl) (fun w' hS => by kernel_rfl)) hS ?_
          refine u_call 7 (some 94) 29 #[errOf kk] (.int .i64 kk) (Fr none_ w11.drew) rfl rfl (by kernel_rfl) (by kernel_rfl) (by kernel_rfl) (code_any kk w11.drew (L5.out.fr (Fr.refl none_ w11).drew id)) ?_
          intro w12 hf12
          have f12 : Fr none_ w11 w12 := (Fr.refl none_ w11).drew.then_none hf12
          replace BV2 := hid_ (BV2.out.fr f12 id)
          replace BR := hid_ (BR.out.fr f12 id)
          replace BY := hid_ (BY.out.fr f12 id)
          replace BA := hid_ (BA.out.fr f12 id)
          replace BX := hid_ (BX.out.fr f12 id)
          replace F4 := hid_ (F4.out.then_none f12)
          replace HPL := hid_ (HPL.out.keep f12)
          have hsz12 := f12.size
          clear f12 hf12 hS
          refine ⟨⟨BV2.out, BR.out, BY.out⟩, ?_⟩
          have hS : (fun w' : World => Blk w' w10.heap.size 29 (raA slots last L' A2 c2) ∧ Blk w' w6.heap.size 38 #[.int .i64 sl, .int .i64 gn] ∧ Blk w' (w10.heap.size + 1) 38 #[.int .i64 sl, .int .i64 gn]) w12 := ⟨BV2.out, BR.out, BY.out⟩
          refine u_take 9 (some 96) (.bool true) rfl rfl (by kernel_rfl) (by kernel_rfl) (by kernel_rfl) (by kernel_rfl) (fun _ _ _ h => h) (y_bool (b := kk == kk) (by simp) (by kernel_rfl) (fun w' hS => by kernel_rfl)) hS ?_
          refine u_take 10 (some 97) (.bool true) rfl rfl (by kernel_rfl) (by kernel_rfl) (by kernel_rfl) (by kernel_rfl) (fun _ _ _ h => h) (y_val (by kernel_rfl) (fun w' hS => by kernel_rfl)) hS ?_
          refine u_take 11 (some 98) (.bool true) rfl rfl (by kernel_rfl) (by kernel_rfl) (by kernel_rfl) (by kernel_rfl) (fun _ _ _ h => h) (y_val (by kernel_rfl) (fun w' hS => by kernel_rfl)) hS ?_
          refine u_take 12 (some 99) (errOf kk) rfl rfl (by kernel_rfl) (by kernel_rfl) (by kernel_rfl) (by kernel_rfl) (fun _ _ _ h => h) (y_val (by kernel_rfl) (fun w' hS => by kernel_rfl)) hS ?_
          refine u_take 13 (some 100) (.bool (kk == 0)) rfl rfl (by kernel_rfl) (by kernel_rfl) (by kernel_rfl) (by kernel_rfl) (fun _ _ _ h => h) (y_op (do eqGuard .eql 62 (.tmp 99) (.const .nilIface) (errOf kk) .nilIface; binOp .eql 62 (errOf kk) .nilIface) (by kernel_rfl) (by kernel_rfl) (fun w' hS => err_nil4 kk w')) hS ?_
          refine u_take 14 (some 101) (.int .i64 kk) rfl rfl (by kernel_rfl) (by kernel_rfl) (by kernel_rfl) (by kernel_rfl) (fun _ _ _ h => h) (y_val (by kernel_rfl) (fun w' hS => by kernel_rfl)) hS ?_
          refine u_take 15 (some 102) (.bool (kk == 0)) rfl rfl (by kernel_rfl) (by kernel_rfl) (by kernel_rfl) (by kernel_rfl) (fun _ _ _ h => h) (y_val (by kernel_rfl) (fun w' hS => by kernel_rfl)) hS ?_
          refine u_take 16 (some 103) (.bool true) rfl rfl (by kernel_rfl) (by kernel_rfl) (by kernel_rfl) (by kernel_rfl) (fun _ _ _ h => h) (y_bool (b := (kk == 0) == (kk == 0)) (by simp) (by kernel_rfl) (fun w' hS => by kernel_rfl)) hS ?_
          refine u_take 17 (some 104) (.bool true) rfl rfl (by kernel_rfl) (by kernel_rfl) (by kernel_rfl) (by kernel_rfl) (fun _ _ _ h => h) (y_val (by kernel_rfl) (fun w' hS => by kernel_rfl)) hS ?_
          clear hS
          refine u_store 18 29 (.tmp 8) (.tmp 87) (w.heap.size + 1 + 1) 0 (raA slots last L' A2 c2) rfl rfl (by kernel_rfl) (by kernel_rfl) rfl (by kernel_rfl) (by kernel_rfl) (BA.out.there4 rfl) (by kernel_rfl) (by simp [Value.oneCell']) (fun w13 he => ?_)
          have ov := Blk.over4 BA.out (raA slots last L' A2 c2).toList rfl
          rw [← he] at ov
          clear he
          replace BX := hid_ (BX.out.fr ov.2 (only_ne (by omega)))
          replace BV2 := hid_ (BV2.out.fr ov.2 (only_ne (by omega)))
          replace BR := hid_ (BR.out.fr ov.2 (only_ne (by omega)))
          replace BY := hid_ (BY.out.fr ov.2 (only_ne (by omega)))
          replace HPL := hid_ (HPL.out.far LOW.out (by omega) (by omega) ov.2 BA.out (by decide) (by decide) hal hGw)
          replace BA := hid_ ov.1
          replace F4 := hid_ (F4.out.then_only ov.2 (.inr (by omega)))
          clear ov
          refine ⟨⟨BV2.out, BR.out, BY.out⟩, ?_⟩
          refine u_store 19 38 (.tmp 9) (.tmp 88) (w.heap.size + 1 + 1 + 1) 0 (#[.int .i64 sl, .int .i64 gn]) rfl rfl (by kernel_rfl) (by kernel_rfl) rfl (by kernel_rfl) (by kernel_rfl) (BX.out.there4 rfl) (by kernel_rfl) (by simp [Value.oneCell']) (fun w14 he => ?_)
          have ov := Blk.over4 BX.out (#[.int .i64 sl, .int .i64 gn]).toList rfl
          rw [← he] at ov
          clear he
          replace BA := hid_ (BA.out.fr ov.2 (only_ne (by omega)))
          replace BV2 := hid_ (BV2.out.fr ov.2 (only_ne (by omega)))
          replace BR := hid_ (BR.out.fr ov.2 (only_ne (by omega)))
          replace BY := hid_ (BY.out.fr ov.2 (only_ne (by omega)))
          replace HPL := hid_ (HPL.out.far LOW.out (by omega) (by omega) ov.2 BX.out (by decide) (by decide) hal hGw)
          replace BX := hid_ ov.1
          replace F4 := hid_ (F4.out.then_only ov.2 (.inr (by omega)))
          clear ov
          refine ⟨⟨BV2.out, BR.out, BY.out⟩, ?_⟩
          refine u_take 20 (some 10) (.bool true) rfl rfl (by kernel_rfl) (by kernel_rfl) (by kernel_rfl) (by kernel_rfl) (fun _ _ _ h => h) (y_val (by kernel_rfl) (fun w' hS => by kernel_rfl)) ⟨BV2.out, BR.out, BY.out⟩ ?_
          refine u_done (by kernel_rfl) ?_
          go_frame
          go_wp2_with fail
          have a0 := BA.out.cell' (i := 0) rfl
          have a1 := BA.out.cell' (i := 1) rfl
          have a2 := BA.out.cell' (i := 2) rfl
          have b0 := BX.out.cell' (i := 0) rfl
          have b1 := BX.out.cell' (i := 1) rfl
          refine bodyPost_ret (v := .tuple #[raV slots last L' A2 c2, .agg #[.int .i64 sl, .int .i64 gn], .bool true]) ?_ rfl ⟨ss', L', A2, c2, sl, gn, rfl, HPL.out, HLL.out.1, HLL.out.2.1, HLL.out.2.2, F4.out⟩
          simp [results, Tryd.results13, go_sem, a0, a1, a2, b0, b1]
end Go.Proofs.YtfoljojacakkeaaDoor

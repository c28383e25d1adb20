/- Layer 4's does. Written by gen_does4.py. -/
import Derived.Test.YtfoljojacakkeaaDoorSmR4
import Derived.Test.YtfoljojacakkeaaDoorFew4
import Derived.Deep.DeepCutAuto
namespace Go.Proofs.YtfoljojacakkeaaDoor
open Go.RowKit Go.ChangeShapes Go.WideShapes
set_option maxRecDepth 100000
set_option linter.unusedVariables false
/-- What was put before, or now. -/
def FromL (L L0 : List RaP) (R0 : Rc) (A1 B1 : Option Addr) : Prop := ∀ q ∈ L, (∃ p ∈ L0, q.R = p.R ∧ q.A = p.A ∧ q.B = p.B) ∨ (q.R = R0 ∧ q.A = A1 ∧ q.B = B1)
theorem FromL.same (L : List RaP) (R0 : Rc) (A1 B1 : Option Addr) : FromL L L R0 A1 B1 := fun q hq => .inl ⟨q, hq, rfl, rfl, rfl⟩
/-- A step in both: they tell the same, and stay in step. -/
def DoesPost (a G : Nat) (slots last : Int) (L0 : List RaP) (D : Dn) (A0 : Option Addr) (w : World) (e : Ending) (w' : World) : Prop :=
  ∃ ss L A c x y, e = .returned (.tuple #[raV slots last L A c, .agg #[.int .i64 x, .int .i64 y], .bool true]) ∧ PlA w' a G slots last ss L A c ∧ L.length ≤ L0.length + 1 ∧ FromL L L0 D.R D.A D.B ∧ ((A = A0 ∧ L.length = L0.length) ∨ ∀ ad, A = some ad → w.heap.size ≤ ad.block) ∧ Fr (only G) w w'
/-- The boxes of does, behind the choice of the ref. -/
structure DoSt (w w' : World) (B : Nat) (slots last : Int) (L : List RaP) (A : Option Addr) (c : Nat) (D : Dn) (x y : Int) : Prop where
  bv : Blk w' w.heap.size 29 (raA slots last L A c)
  bd : Blk w' (w.heap.size + 1) 42 (doL D).toArray
  ba : Blk w' (w.heap.size + 1 + 1) 29 #[.int .i64 0, .int .i64 0, .slice none 0 0]
  bx : Blk w' (w.heap.size + 1 + 1 + 1) 38 #[.int .i64 0, .int .i64 0]
  bt : Blk w' (w.heap.size + 1 + 1 + 1 + 1) 38 #[.int .i64 x, .int .i64 y]
  fr : Fr none_ w w'
set_option maxHeartbeats 8000000 in
theorem does_other (a G : Nat) (slots last : Int) (ss : List Sl) (L : List RaP) (A : Option Addr) (c : Nat) (D : Dn) (X : List Rf) (cx : Nat) (XA : Option Addr) (w : World) (h : PlA w a G slots last ss L A c) (hX : Reads w 2 XA X.length (rfFlat X)) (hXl : X.length ≤ 5000) (hD : 0 ≤ D.nn ∧ D.nn ≤ 255) (hv : D.verb ≠ 0 ∧ D.verb ≠ 1 ∧ D.verb ≠ 2) :
    Calls Tryd.prog 13 #[.pointer (some ⟨a, 0, none⟩), raV slots last L A c, .agg (doL D).toArray, .slice XA X.length cx] w (DoesPost a G slots last L D A w) := by
  obtain ⟨w0, hw0⟩ : ∃ z, z = (((w.alloc (.cells (raA slots last L A c) 29)).alloc (.cells (doL D).toArray 42)).alloc (.cells #[.int .i64 0, .int .i64 0, .slice none 0 0] 29)).alloc (.cells #[.int .i64 0, .int .i64 0] 38) := ⟨_, rfl⟩
  have f0 : Fr none_ w w0 := by rw [hw0]; exact ((((Fr.refl none_ w).alloc _).alloc _).alloc _).alloc _
  have BV : Hid (Blk w0 w.heap.size 29 (raA slots last L A c)) := hid_ (by rw [hw0]; exact (((Blk.new w _ _).alloc _).alloc _).alloc _)
  have BD : Hid (Blk w0 (w.heap.size + 1) 42 (doL D).toArray) := hid_ (by rw [hw0]; exact ((Blk.new_at4 _ _ (by simp)).alloc _).alloc _)
  have BA : Hid (Blk w0 (w.heap.size + 1 + 1) 29 #[.int .i64 0, .int .i64 0, .slice none 0 0]) := hid_ (by rw [hw0]; exact (Blk.new_at4 _ _ (by simp)).alloc _)
  have BX : Hid (Blk w0 (w.heap.size + 1 + 1 + 1) 38 #[.int .i64 0, .int .i64 0]) := hid_ (by rw [hw0]; exact Blk.new_at4 _ _ (by simp))
  have hs0 : w0.heap.size = w.heap.size + 1 + 1 + 1 + 1 := by rw [hw0]; simp
  have H := hid_ h
  have HX := hid_ (hX.none_fr f0)
  have F0 := hid_ f0
  clear f0 h hX
  go_enter Tryd.func13, Tryd.ntmps13
  go_upto_region 1 with fail
  change Code.wp _ _ _ _ ((((w.alloc (.cells (raA slots last L A c) 29)).alloc (.cells (doL D).toArray 42)).alloc (.cells #[.int .i64 0, .int .i64 0, .slice none 0 0] 29)).alloc (.cells #[.int .i64 0, .int .i64 0] 38))
  rw [← hw0]
  clear hw0
  have d16 : w0.cell? ⟨w.heap.size + 1, 16, none⟩ = some (.int .i64 D.sl) := BD.out.cell' rfl
  have d17 : w0.cell? ⟨w.heap.size + 1, 17, none⟩ = some (.int .i64 D.gn) := BD.out.cell' rfl
  go_upto_region 2 with fail
  obtain ⟨w1, hw1⟩ : ∃ z, z = w0.alloc (.cells #[.int .i64 D.sl, .int .i64 D.gn] 38) := ⟨_, rfl⟩
  have f1 : Fr none_ w0 w1 := by rw [hw1]; exact (Fr.refl none_ w0).alloc _
  have BT : Hid (Blk w1 w0.heap.size 38 #[.int .i64 D.sl, .int .i64 D.gn]) := hid_ (by rw [hw1]; exact Blk.new w0 _ _)
  change Code.wp _ _ _ _ (w0.alloc (.cells #[.int .i64 D.sl, .int .i64 D.gn] 38))
  rw [← hw1]
  clear hw1 d16 d17
  rw [hs0] at BT
  have S1 : Hid (DoSt w w1 w0.heap.size slots last L A c D D.sl D.gn) := hid_ ⟨BV.out.fr f1 id, BD.out.fr f1 id, BA.out.fr f1 id, BX.out.fr f1 id, BT.out, F0.out.then_none f1⟩
  replace HX := hid_ (HX.out.none_fr f1)
  clear BV BD BA BX BT F0 f1
  go_cut [36] (fun u wq => u = .bool (D.lst && decide (0 < X.length)) ∧ DoSt w wq w0.heap.size slots last L A c D D.sl D.gn ∧ Fr none_ w1 wq)
  case first =>
    have d18 : w1.cell? ⟨w.heap.size + 1, 18, none⟩ = some (.bool D.lst) := S1.out.bd.cell' rfl
    cases hlst : D.lst with
    | false =>
      rw [hlst] at d18
      have HLS := hid_ hlst
      clear hlst
      go_wp2_with fail
      go_meet
      exact ⟨by rw [HLS.out]; rfl, S1.out, Fr.refl _ _⟩
    | true =>
      rw [hlst] at d18
      have HLS := hid_ hlst
      clear hlst
      by_cases hn : 0 < X.length
      · have hd : decide ((0 : Int) < (X.length : Int)) = true := by simpa using hn
        have hq : (true && decide (0 < X.length)) = true := by simpa using hn
        go_wp2_with fail
        go_meet
        exact ⟨by rw [HLS.out, hq], S1.out, Fr.refl _ _⟩
      · have hd : decide ((0 : Int) < (X.length : Int)) = false := by simpa using hn
        have hq : (true && decide (0 < X.length)) = false := by simpa using hn
        go_wp2_with fail
        go_meet
        exact ⟨by rw [HLS.out, hq], S1.out, Fr.refl _ _⟩
  case rest =>
    obtain ⟨rfl, hS, hf⟩ := hcut
    obtain ⟨w2, rfl⟩ : ∃ z : World, z = wc := ⟨_, rfl⟩
    have S2 := hid_ hS
    replace HX := hid_ (HX.out.none_fr hf)
    clear hS hf S1
    obtain ⟨bb, hbb⟩ : ∃ bb, (D.lst && decide (0 < X.length)) = bb := ⟨_, rfl⟩
    rw [hbb]
    have HB := hid_ hbb
    clear hbb
    go_upto_if 36 with fail
    go_cut [49] (fun u wq => ∃ x y, DoSt w wq w0.heap.size slots last L A c D x y)
    case first =>
      cases bb with
      | false =>
        go_wp2_with fail
        go_meet
        exact ⟨_, _, S2.out⟩
      | true =>
        have hn : 0 < X.length := by have := HB.out; simp at this; exact this.2
        have d19 : w2.cell? ⟨w.heap.size + 1, 19, none⟩ = some (.int .u8 D.nn) := S2.out.bd.cell' rfl
        have hmod : D.nn.tmod (X.length : Int) = D.nn % (X.length : Int) := Int.tmod_eq_emod_of_nonneg hD.1
        obtain ⟨q, hq⟩ : ∃ q : Nat, (X.length : Int) - 1 - D.nn % (X.length : Int) = q := ⟨((X.length : Int) - 1 - D.nn % X.length).toNat, by have := Int.emod_lt_of_pos D.nn (show (0:Int) < X.length by omega); have := Int.emod_nonneg D.nn (show (X.length : Int) ≠ 0 by omega); omega⟩
        have hql : q < X.length := by have := Int.emod_nonneg D.nn (show (X.length : Int) ≠ 0 by omega); omega
        obtain ⟨p, hp⟩ : ∃ p, X[q]? = some p := ⟨_, List.getElem?_eq_getElem hql⟩
        obtain ⟨gb, go, rfl, hgb, r0, r1⟩ := rf_at HX.out hp
        have hq0 : (0 : Int) ≤ (q : Int) := Int.natCast_nonneg _
        have hq1 : (q : Int) < (X.length : Int) := by omega
        have x0 : w2.cell? ⟨w.heap.size + 1 + 1 + 1 + 1, 0, none⟩ = some (.int .i64 D.sl) := S2.out.bt.cell' rfl
        have x1 : w2.cell? ⟨w.heap.size + 1 + 1 + 1 + 1, 1, none⟩ = some (.int .i64 D.gn) := S2.out.bt.cell' rfl
        have z0 := S2.out.bt.frozen 0
        have z1 := S2.out.bt.frozen 1
        have xl := S2.out.bt.lt
        obtain ⟨nb1, nb2⟩ := hD
        have hf : Fr (only (w.heap.size + 1 + 1 + 1 + 1)) w2 ((w2.setCell ⟨w.heap.size + 1 + 1 + 1 + 1, 0, none⟩ (.int .i64 p.1)).setCell ⟨w.heap.size + 1 + 1 + 1 + 1, 1, none⟩ (.int .i64 p.2)) := ((Fr.refl (only (w.heap.size + 1 + 1 + 1 + 1)) w2).setCell (p := ⟨w.heap.size + 1 + 1 + 1 + 1, 0, none⟩) (.inl (Eq.refl _)) _).setCell (p := ⟨w.heap.size + 1 + 1 + 1 + 1, 1, none⟩) (.inl (Eq.refl _)) _
        have S3 : Hid (DoSt w ((w2.setCell ⟨w.heap.size + 1 + 1 + 1 + 1, 0, none⟩ (.int .i64 p.1)).setCell ⟨w.heap.size + 1 + 1 + 1 + 1, 1, none⟩ (.int .i64 p.2)) w0.heap.size slots last L A c D p.1 p.2) := hid_ ⟨S2.out.bv.fr hf (only_ne (by omega)), S2.out.bd.fr hf (only_ne (by omega)), S2.out.ba.fr hf (only_ne (by omega)), S2.out.bx.fr hf (only_ne (by omega)), (S2.out.bt.set_ 0 _).set_ 1 _, S2.out.fr.then_only hf (.inr (by omega))⟩
        clear hp hql hf
        go_wp2_with fail
        go_meet
        exact ⟨_, _, S3.out⟩
    case rest =>
      obtain ⟨x, y, hS⟩ := hcut
      obtain ⟨w3, rfl⟩ : ∃ z : World, z = wc := ⟨_, rfl⟩
      have S := hid_ hS
      clear hS S2
      have d0 : w3.cell? ⟨w.heap.size + 1, 0, none⟩ = some (.int .i64 D.verb) := S.out.bd.cell' rfl
      have v0 : w3.cell? ⟨w.heap.size, 0, none⟩ = some (.int .i64 slots) := S.out.bv.cell' rfl
      have v1 : w3.cell? ⟨w.heap.size, 1, none⟩ = some (.int .i64 last) := S.out.bv.cell' rfl
      have v2 : w3.cell? ⟨w.heap.size, 2, none⟩ = some (.slice A L.length c) := S.out.bv.cell' rfl
      obtain ⟨hv0, hv1, hv2⟩ := hv
      have e0 : (D.verb == 0) = false := by simpa using hv0
      have e1 : (D.verb == 1) = false := by simpa using hv1
      have e2 : (D.verb == 2) = false := by simpa using hv2
      clear hv0 hv1 hv2
      have BA := hid_ S.out.ba
      have BX := hid_ S.out.bx
      have F := hid_ S.out.fr
      go_wp2_with (first | (refine wpList_store_mid rfl 29 (.tmp 8) (.tmp 164) rfl (w.heap.size + 1 + 1) 0 (raA slots last L A c) rfl rfl (BA.out.there4 rfl) (by kernel_rfl) (by simp [Value.oneCell']) ?_; obtain ⟨e3, he3⟩ : ∃ z, z = w3.setCells (w.heap.size + 1 + 1) 0 (raA slots last L A c).toList := ⟨_, rfl⟩; have ove3 := Blk.over4 BA.out (raA slots last L A c).toList rfl; rw [← he3] at ove3; change wpList _ _ _ _ _ (w3.setCells (w.heap.size + 1 + 1) 0 (raA slots last L A c).toList); rw [← he3]; clear he3; replace BX := hid_ (BX.out.fr ove3.2 (only_ne (by omega))); replace BA := hid_ ove3.1; replace F := hid_ (F.out.then_only ove3.2 (.inr (by omega)))) | (refine wpList_store_mid rfl 38 (.tmp 9) (.tmp 165) rfl (w.heap.size + 1 + 1 + 1) 0 (#[.int .i64 0, .int .i64 0]) rfl rfl (BX.out.there4 rfl) (by kernel_rfl) (by simp [Value.oneCell']) ?_; obtain ⟨e4, he4⟩ : ∃ z, z = e3.setCells (w.heap.size + 1 + 1 + 1) 0 (#[.int .i64 0, .int .i64 0]).toList := ⟨_, rfl⟩; have ove4 := Blk.over4 BX.out (#[.int .i64 0, .int .i64 0]).toList rfl; rw [← he4] at ove4; change wpList _ _ _ _ _ (e3.setCells (w.heap.size + 1 + 1 + 1) 0 (#[.int .i64 0, .int .i64 0]).toList); rw [← he4]; clear he4; replace BA := hid_ (BA.out.fr ove4.2 (only_ne (by omega))); replace BX := hid_ ove4.1; replace F := hid_ (F.out.then_only ove4.2 (.inr (by omega)))))
      have a0 := BA.out.cell' (i := 0) rfl
      have a1 := BA.out.cell' (i := 1) rfl
      have a2 := BA.out.cell' (i := 2) rfl
      have b0 := BX.out.cell' (i := 0) rfl
      have b1 := BX.out.cell' (i := 1) rfl
      refine bodyPost_ret (v := .tuple #[raV slots last L A c, .agg #[.int .i64 0, .int .i64 0], .bool true]) ?_ rfl ⟨ss, L, A, c, 0, 0, rfl, H.out.keep F.out, Nat.le_succ _, FromL.same _ _ _ _, .inl ⟨rfl, rfl⟩, F.out.mono (fun _ _ e => e.elim)⟩
      simp [results, Tryd.results13, go_sem, a0, a1, a2, b0, b1]
end Go.Proofs.YtfoljojacakkeaaDoor

/- InstallTwice's walk. Written by gen_twice12.py. -/
import Derived.Test.YthcpccddcgbanaaTw12
import Derived.Test.YthcpccddcgbanaaFirst12
namespace Go.Proofs.Ythcpccddcgbanaa
open Go.RowKit Go.ChangeShapes Go.WideShapes
set_option maxRecDepth 100000
set_option linter.unusedVariables false

theorem Many.ticked {W w w' : World} {m : Nat} {k k' : Int} {l : Lm} {x : St} {cab : Nat} {c0 : Int} {L : List In1} (h : Many W w m k l x cab c0 L) (hM : Mm w' m k' l x) (h0 : 0 ≤ k') (h1 : k' ≤ 100000) (hf : Fr (mall m x) w w') : Many W w' m k' l x cab c0 L := by
  obtain ⟨cs, hcb⟩ := h.cb
  have off : ¬ mall m x cab := h.M.mall_ty hcb (by decide)
  exact ⟨hM, h0, h1, h.hW, cellFrS h.cc hf off, ⟨cs, hcb.fr hf off⟩, fun z hz => by
    have e := h.e z hz
    exact ⟨e.I.mall h.M hf, e.d, e.j.mall h.M hf h.hW, e.mv, e.nw, e.zJ, e.off, e.hWB, Nat.le_trans e.hB hf.size, e.qc⟩, h.dis⟩
/-- What an installer's accesses leave alone: blocks that are older than it, of other types than a memory's and the calls' number's. -/
theorem Env.old {W w : World} {m : Nat} {k : Int} {l : Lm} {x : St} {B i : Nat} {D : Dt} {a : Ia} {J : Jd} {q : Jl} {c0 : Int} (h : Env W w m k l x B i D a J q c0) {g : Nat} {t : TypeId} {cs : Array Value} (hb : Blk w g t cs) (ht : t ≠ 85 ∧ t ≠ 113 ∧ t ≠ 115 ∧ t ≠ 110) (hg : g < B) (hc : t ≠ 3) : ¬ mfc m x i a q.cab g := by
  rintro (e | e | e)
  · exact h.M.mall_ty hb ht e
  · have := h.I.foot_le e
    omega
  · obtain ⟨cs2, hb2⟩ := h.cb
    have e2 : g = q.cab := e
    subst e2
    exact hc (hb.uniq hb2).1
theorem Mm.job {w w' : World} {m : Nat} {k : Int} {l : Lm} {x : St} {b : Nat} {cs : Array Value} (h : Mm w m k l x) (hb : Blk w b 46 cs) (hf : Fr (only b) w w') : Mm w' m k l x :=
  h.ty hf (fun g e => by rw [show g = b from e]; exact ⟨_, cs, hb, by decide⟩)
set_option maxHeartbeats 16000000 in
theorem twice12_walk (s p tt r c q : Int) (J : Jd) (y : Jl) (W : World) (hJ : JobRaw W J y) :
    Calls Try.prog 5 #[.agg #[.int .i64 s, .int .i64 p, .int .i64 tt, .int .i64 r, .int .i64 c, .int .i64 q], .agg (jobB J y)] W fun e w' => e = .returned (.bool true) ∧ Fr none_ W w' := by
  have HJ := hid_ hJ
  have F := hid_ (Fr.refl none_ W)
  clear hJ
  go_enter Try.func5, Try.ntmps5
  go_upto_region 1 with fail
  obtain ⟨w0, hw0⟩ : ∃ z, z = (W.alloc (.cells #[.int .i64 s, .int .i64 p, .int .i64 tt, .int .i64 r, .int .i64 c, .int .i64 q] 23)).alloc (.cells (jobB J y) 46) := ⟨_, rfl⟩
  have f0 : Fr none_ W w0 := by rw [hw0]; exact ((Fr.refl none_ W).alloc _).alloc _
  have BL := hid_ (show Blk w0 W.heap.size 23 #[.int .i64 s, .int .i64 p, .int .i64 tt, .int .i64 r, .int .i64 c, .int .i64 q] by rw [hw0]; exact (Blk.new W _ _).alloc _)
  have BJ := hid_ (show Blk w0 (W.heap.size + 1) 46 (jobB J y) by rw [hw0]; have := Blk.new (W.alloc (.cells #[.int .i64 s, .int .i64 p, .int .i64 tt, .int .i64 r, .int .i64 c, .int .i64 q] 23)) 46 (jobB J y); rwa [World.size_alloc] at this)
  replace F := hid_ f0
  change Code.wp _ _ _ _ ((W.alloc (.cells #[.int .i64 s, .int .i64 p, .int .i64 tt, .int .i64 r, .int .i64 c, .int .i64 q] 23)).alloc (.cells (jobB J y) 46))
  rw [← hw0]
  clear hw0 f0
  have v0 : w0.cell? ⟨W.heap.size, 0, none⟩ = some (.int .i64 s) := BL.out.cell' rfl
  have v1 : w0.cell? ⟨W.heap.size, 1, none⟩ = some (.int .i64 p) := BL.out.cell' rfl
  have v2 : w0.cell? ⟨W.heap.size, 2, none⟩ = some (.int .i64 tt) := BL.out.cell' rfl
  have v3 : w0.cell? ⟨W.heap.size, 3, none⟩ = some (.int .i64 r) := BL.out.cell' rfl
  have v4 : w0.cell? ⟨W.heap.size, 4, none⟩ = some (.int .i64 c) := BL.out.cell' rfl
  have v5 : w0.cell? ⟨W.heap.size, 5, none⟩ = some (.int .i64 q) := BL.out.cell' rfl
  go_upto_region 2 with (first | (refine wpList_load_mid rfl 46 (.tmp 3) rfl (W.heap.size + 1) 0 rfl (jobB J y).toList _ (show w0.rangeAt (W.heap.size + 1) 0 (jobB J y).toList from BJ.out.range (fun j v hv => by simpa using hv)) Try.underlying46 rfl jb_size ?_))
  obtain ⟨w1, hw1⟩ : ∃ z, z = w0.alloc (.cells (jobB J y) 46) := ⟨_, rfl⟩
  have f1 : Fr none_ w0 w1 := by rw [hw1]; exact (Fr.refl none_ w0).alloc _
  have BX := hid_ (show Blk w1 w0.heap.size 46 (jobB J y) by rw [hw1]; exact Blk.new w0 _ _)
  replace BL := hid_ (BL.out.fr f1 id)
  replace BJ := hid_ (BJ.out.fr f1 id)
  replace F := hid_ (F.out.then_none f1)
  have HIN := hid_ (show JobsIn w1 (some ⟨w0.heap.size, 0, none⟩) 1 [(J, y)] from ⟨rfl, fun _ => ⟨w0.heap.size, 0, rfl, BX.out.lt, fun k z hz => by
    cases k with
    | zero =>
      obtain rfl : (J, y) = z := by simpa using hz
      exact ⟨BX.out.range (fun j v hv => by simpa using hv), HJ.out.keep F.out⟩
    | succ k => simp at hz⟩⟩)
  change Calls _ _ _ (w0.alloc (.cells (jobB J y) 46)) _
  rw [← hw1]
  clear hw1 f1
  refine (few12_ok s p tt r c q (some ⟨w0.heap.size, 0, none⟩) 1 1 [(J, y)] none 0 0 _ HIN.out (by decide) (by decide)).mono ?_
  rintro e w2 ⟨⟨b, rfl, hb⟩, hf2⟩
  have HB := hid_ hb
  clear hb v0 v1 v2 v3 v4 v5
  replace BL := hid_ (BL.out.fr hf2 id)
  replace BJ := hid_ (BJ.out.fr hf2 id)
  replace F := hid_ (F.out.then_none hf2)
  clear hf2 BX HIN
  cases b with
  | false =>
    go_wp2_with fail
    refine (awake12 _).mono ?_
    rintro e w99 ⟨rfl, hf99⟩
    have F99 := hid_ (F.out.then_none hf99)
    clear hf99
    go_wp2_with fail
    go_ret
    exact ⟨rfl, F99.out⟩
  | true =>
    have hfo := HB.out rfl
    obtain ⟨hn6, ht150, hR, hjs⟩ := hfo
    have HSm := hid_ (hjs (J, y) (by simp))
    have hss : ∃ sn : Nat, s = (sn : Int) := ⟨s.toNat, by omega⟩
    have hpp : ∃ pn : Nat, p = (pn : Int) := ⟨p.toNat, by omega⟩
    obtain ⟨sn, rfl⟩ := hss
    obtain ⟨pn, rfl⟩ := hpp
    obtain ⟨l1, l2, l3, l4, l5, l6, l7, l8, l9, l10, l11, l12⟩ := hR
    have HLR := hid_ (show Lm.Right ⟨sn, pn, tt, r, c, q⟩ from ⟨⟨l1, Int.le_trans l2 (by decide)⟩, ⟨l3, Int.le_trans l4 (by decide)⟩, ⟨l5, l6⟩, ⟨l7, l8⟩, ⟨l9, l10⟩, ⟨l11, l12⟩⟩)
    clear l1 l2 l3 l4 l5 l6 l7 l8 l9 l10 l11 l12 hjs HB hn6 ht150
    have v0 : w2.cell? ⟨W.heap.size, 0, none⟩ = some (.int .i64 (sn : Int)) := BL.out.cell' rfl
    have v1 : w2.cell? ⟨W.heap.size, 1, none⟩ = some (.int .i64 (pn : Int)) := BL.out.cell' rfl
    have v2 : w2.cell? ⟨W.heap.size, 2, none⟩ = some (.int .i64 tt) := BL.out.cell' rfl
    have v3 : w2.cell? ⟨W.heap.size, 3, none⟩ = some (.int .i64 r) := BL.out.cell' rfl
    have v4 : w2.cell? ⟨W.heap.size, 4, none⟩ = some (.int .i64 c) := BL.out.cell' rfl
    have v5 : w2.cell? ⟨W.heap.size, 5, none⟩ = some (.int .i64 q) := BL.out.cell' rfl
    go_wp2_with fail
    refine (memNew_ok ⟨sn, pn, tt, r, c, q⟩ _ HLR.out).mono ?_
    rintro e w3 ⟨m, a, G, vr, ve, Tb, H, C, M, rfl, hM, hf3, hm⟩
    have MM := hid_ hM
    have HM := hid_ (show ∀ b, mall m (newSt a G vr ve Tb H C M ⟨sn, pn, tt, r, c, q⟩) b → W.heap.size ≤ b from fun b hb => Nat.le_trans F.out.size (mall_ge hm b hb))
    replace BJ := hid_ (BJ.out.fr hf3 id)
    replace F := hid_ (F.out.then_none hf3)
    clear hM hf3 hm v0 v1 v2 v3 v4 v5 BL
    have z0 : w3.cell? ⟨W.heap.size + 1, 0, none⟩ = some (.int .i64 J.page) := BJ.out.cell' rfl
    have y0 := BJ.out.frozen 0
    go_upto_region 7 with fail
    obtain ⟨w4, hw4⟩ : ∃ z, z = w3.setCell ⟨W.heap.size + 1, 0, none⟩ (.int .i64 0) := ⟨_, rfl⟩
    have f4 : Fr (only (W.heap.size + 1)) w3 w4 := by rw [hw4]; exact Fr.only1 w3 ⟨W.heap.size + 1, 0, none⟩ _
    have BJ4 := hid_ (show Blk w4 (W.heap.size + 1) 46 (jobB (jobHd J 0 J.os J.og) y) by rw [hw4]; exact BJ.out.set_ 0 (.int .i64 0))
    replace MM := hid_ (MM.out.job BJ.out f4)
    replace F := hid_ (F.out.then_only f4 (.inr (Nat.le_succ _)))
    change Code.wp _ _ _ _ (w3.setCell ⟨W.heap.size + 1, 0, none⟩ (.int .i64 0))
    rw [← hw4]
    clear hw4 f4 z0 y0 BJ
    go_wp2_with fail
    refine (memHead_any m 0 _ _ _ MM.out (by decide) (by decide) 0).mono ?_
    rintro e w5 ⟨s0, g0, cc, v, rfl, hH, hev, hM5, hf5⟩
    obtain ⟨rfl, rfl, rfl⟩ := hH.used (i := 0) rfl rfl
    obtain rfl := hev.zero
    have BJ5 := hid_ (BJ4.out.fr hf5 (MM.out.mall_ty BJ4.out (by decide)))
    replace MM := hid_ hM5
    replace F := hid_ (F.out.trans (S'' := none_) hf5 (fun _ _ => id) (fun g hg e => by have := HM.out g e; omega))
    clear hH hev hM5 hf5 BJ4
    have z1 : w5.cell? ⟨W.heap.size + 1, 1, none⟩ = some (.int .i64 J.os) := BJ5.out.cell' rfl
    have z2 : w5.cell? ⟨W.heap.size + 1, 2, none⟩ = some (.int .i64 J.og) := BJ5.out.cell' rfl
    have y1 := BJ5.out.frozen 1
    have y2 := BJ5.out.frozen 2
    go_upto_region 8 with fail
    obtain ⟨w6, hw6⟩ : ∃ z, z = (w5.setCell ⟨W.heap.size + 1, 1, none⟩ (.int .i64 1)).setCell ⟨W.heap.size + 1, 2, none⟩ (.int .i64 1) := ⟨_, rfl⟩
    have f6 : Fr (only (W.heap.size + 1)) w5 w6 := by rw [hw6]; exact (Fr.only1 w5 ⟨W.heap.size + 1, 1, none⟩ _).trans (Fr.only1 _ ⟨W.heap.size + 1, 2, none⟩ _) (fun _ _ => id) (fun _ _ => id)
    have BJ := hid_ (show Blk w6 (W.heap.size + 1) 46 (jobB (jobHd J 0 1 1) y) by rw [hw6]; exact (BJ5.out.set_ 1 (.int .i64 1)).set_ 2 (.int .i64 1))
    replace MM := hid_ (MM.out.job BJ5.out f6)
    replace F := hid_ (F.out.then_only f6 (.inr (Nat.le_succ _)))
    change Code.wp _ _ _ _ ((w5.setCell ⟨W.heap.size + 1, 1, none⟩ (.int .i64 1)).setCell ⟨W.heap.size + 1, 2, none⟩ (.int .i64 1))
    rw [← hw6]
    clear hw6 f6 z1 z2 y1 y2 BJ5
    have HCA := hid_ F.out.size
    have BJLT := hid_ BJ.out.lt
    go_upto_region 9 with fail
    obtain ⟨w7, hw7⟩ : ∃ z, z = w6.alloc (.cells #[.int .i64 0] 3) := ⟨_, rfl⟩
    have fw7 : Fr none_ w6 w7 := by rw [hw7]; exact (Fr.refl none_ w6).alloc _
    have BC : Hid (Blk w7 w6.heap.size 3 (#[.int .i64 0])) := hid_ (by rw [hw7]; exact Blk.new w6 _ _)
    replace F := hid_ (F.out.then_none fw7)
    replace MM := hid_ (MM.out.keep fw7)
    replace BJ := hid_ (BJ.out.fr fw7 id)
    change Code.wp _ _ _ _ (w6.alloc (.cells #[.int .i64 0] 3))
    rw [← hw7]
    clear hw7 fw7
    have MA := hid_ (show Many W w7 m (0 + 1) ⟨sn, pn, tt, r, c, q⟩ (newSt a G vr ve Tb H C M ⟨sn, pn, tt, r, c, q⟩) w6.heap.size 0 [] from ⟨MM.out, by decide, by decide, HM.out, BC.out.cell' rfl, ⟨_, BC.out⟩, fun z hz => (by cases hz), fun j1 j2 z1 z2 h1 => (by simp at h1)⟩)
    have PF0 := hid_ (show PF (newSt a G vr ve Tb H C M ⟨sn, pn, tt, r, c, q⟩) [] from ⟨fun D hD => (by cases hD), ⟨1, 1, ⟨⟨_, rfl, rfl⟩, rfl⟩, fun _ D hD => (by cases hD)⟩, fun i j Di Dj h1 => (by simp at h1)⟩)
    clear MM BC
    obtain ⟨x0, hx0⟩ : ∃ x0, x0 = newSt a G vr ve Tb H C M ⟨sn, pn, tt, r, c, q⟩ := ⟨_, rfl⟩
    obtain ⟨lm, hlm⟩ : ∃ lm : Lm, lm = ⟨sn, pn, tt, r, c, q⟩ := ⟨_, rfl⟩
    rw [← hlm] at MA HM PF0 hx0
    rw [← hx0] at MA HM PF0
    clear hx0
    clear hlm HLR
    obtain ⟨J2, hJ2⟩ : ∃ J2, J2 = jobHd J 0 1 1 := ⟨_, rfl⟩
    rw [← hJ2] at BJ
    have HJ2 := hid_ hJ2
    have HJr2 := hid_ (show JobRaw W J2 y by rw [hJ2]; exact HJ.out.hd_ 0 1 1)
    have HSm2 := hid_ (show JSm J2 y by rw [hJ2]; exact HSm.out.hd_ 0 1 1)
    clear hJ2
    go_wp2_with (refine wpList_load_mid rfl 46 (.tmp 3) rfl (W.heap.size + 1) 0 rfl (jobB J2 y).toList _ (show w7.rangeAt (W.heap.size + 1) 0 (jobB J2 y).toList from BJ.out.range (fun j v hv => by simpa using hv)) Try.underlying46 rfl jb_size ?_)
    refine (job_ok _ J2 _ _ _ w6.heap.size 0).mono ?_
    rintro e w8 ⟨jb, cb, rfl, hjb, hcb, hf8⟩
    obtain ⟨jb1, hjb1⟩ : ∃ z, z = jb := ⟨_, rfl⟩
    obtain ⟨cb1, hcb1⟩ : ∃ z, z = cb := ⟨_, rfl⟩
    rw [← hjb1] at hjb ⊢
    rw [← hcb1] at hcb ⊢
    clear hjb1 hcb1
    replace BJ := hid_ (BJ.out.fr hf8 id)
    replace MA := hid_ (MA.out.keep hf8)
    replace F := hid_ (F.out.then_none hf8)
    have BJLT := hid_ BJ.out.lt
    have JA := hid_ (show JobAt W w8 J2 (yq y jb1 cb1 w6.heap.size) from ⟨{ (JobRaw.rd HJr2.out HSm2.out) with }, F.out, hjb, hcb, HCA.out⟩)
    clear hjb hcb hf8
    go_wp2_with fail
    refine (begJ (q := yq y jb1 cb1 w6.heap.size) JA.out _ MA.out.cc MA.out.cb (HJr2.out.rows HSm2.out)).mono ?_
    rintro e w9 ⟨i1, a1, rfl, hI, hmv, hcc, hcb, hfn⟩
    have cabl := MA.out.cb.elim fun cs hb => hb.lt
    have hsz9 := hfn.size
    have notc : ∀ (b : Nat) (t : TypeId) (cs : Array Value), Blk w8 b t cs → t ≠ 3 → ¬ only w6.heap.size b := fun b t cs hb ht e => by
      obtain ⟨cs2, hb2⟩ := MA.out.cb
      have e2 : b = w6.heap.size := e
      subst e2
      exact ht (hb.uniq hb2).1
    have EI := hid_ (show InOk W w9 w6.heap.size ⟨i1, w8.heap.size, begD J2, a1, J2, yq y jb1 cb1 w6.heap.size⟩ from
      ⟨hI, (begD_ok J2).1, JA.out.fr hfn (fun b e => by rw [show b = w6.heap.size from e]; exact HCA.out) (fun b t cs e hb => ⟨fun e2 => notc b t cs hb (by rw [e2]; decide) e, fun e2 => notc b t cs hb (by rw [e2]; decide) e⟩), hmv, (begD_ok J2).2.1, HJr2.out.rows HSm2.out, fun e => (by have := hI.foot_le e; omega), F.out.size, hsz9, rfl, rfl⟩)
    have BJb := hid_ (BJ.out.fr hfn (notc _ _ _ BJ.out (by decide)))
    replace BJ := BJb
    clear BJb
    replace MA := hid_ (MA.out.add EI.out hfn hcc hcb (fun g hg => hI.foot_le hg) HCA.out)
    replace F := hid_ (F.out.trans (S'' := none_) hfn (fun _ _ => id) (fun g hg e => by have := HCA.out; have e2 : g = w6.heap.size := e; omega))
    clear hI hmv hcc hcb hfn cabl hsz9 EI notc
    have PF1 := hid_ (PF0.out.add (begD_first J2 (by rw [HJ2.out]; exact ⟨rfl, rfl, rfl⟩)) (begD_ok J2).1 (begD_ok J2).2.2.2.2.2.2.2.2)
    clear PF0
    have EN := hid_ (MA.out.env (z := ⟨i1, w8.heap.size, begD J2, a1, J2, yq y jb1 cb1 w6.heap.size⟩) (List.mem_singleton.2 rfl))
    go_wp2_with fail
    refine (runs_ok EN.out (by decide)).mono ?_
    rintro e w10 ⟨nr, z1, D1, x1, ra1, c1, rfl, hs7, hz24, hR⟩
    have BJn := hid_ (BJ.out.fr hR.f (EN.out.old BJ.out (by decide) (by have := BJ.out.lt; have := BJLT.out; omega) (by decide)))
    have MA2 := hid_ (MA.out.upd (j := 0) rfl hR.e hR.f hR.fl)
    have PF2 := hid_ (PF.steps hR.s PF1.out (j := 0) rfl)
    have FW2 := hid_ (Fr.none_mfc EN.out F.out hR.f)
    have HZ1 := hid_ hz24
    clear hs7 hz24 hR MA PF1 F EN BJ
    obtain ⟨hh, gg, hX, hXd⟩ := PF2.out.x0
    have HX := hid_ hX
    clear hX hXd
    go_wp2_with fail
    refine (memHead_any m _ _ _ _ MA2.out.M MA2.out.k0 MA2.out.k1 0).mono ?_
    rintro e w11 ⟨s0, g0, cc, v, rfl, hH, hev, hM11, hf11⟩
    obtain ⟨rfl, rfl, rfl⟩ := hH.used (i := 0) rfl HX.out.2
    obtain rfl := hev.zero
    have BJ := hid_ (BJn.out.fr hf11 (MA2.out.M.mall_ty BJn.out (by decide)))
    have F := hid_ (FW2.out.trans (S'' := none_) hf11 (fun _ _ => id) (fun g hg e => by have := MA2.out.hW g e; omega))
    have MA := hid_ (MA2.out.ticked hM11 (by have := MA2.out.k0; omega) (by have := HZ1.out; omega) hf11)
    clear hH hev hM11 hf11 MA2 FW2 BJn
    go_upto_region 11 with fail
    obtain ⟨w12, hw12⟩ : ∃ z, z = w11.alloc (.cells #[.int .i64 s0, .int .i64 g0] 34) := ⟨_, rfl⟩
    have fw12 : Fr none_ w11 w12 := by rw [hw12]; exact (Fr.refl none_ w11).alloc _
    have BH : Hid (Blk w12 w11.heap.size 34 (#[.int .i64 s0, .int .i64 g0])) := hid_ (by rw [hw12]; exact Blk.new w11 _ _)
    replace F := hid_ (F.out.then_none fw12)
    replace MA := hid_ (MA.out.keep fw12)
    replace BJ := hid_ (BJ.out.fr fw12 id)
    change Code.wp _ _ _ _ (w11.alloc (.cells #[.int .i64 s0, .int .i64 g0] 34))
    rw [← hw12]
    clear hw12 fw12
    go_wp2_with fail
    refine (memLive_ok _ MA.out.M).mono ?_
    rintro e w13 ⟨lA, lc, rfl, hlo, hf13⟩
    have LO := hid_ hlo
    replace F := hid_ (F.out.then_none hf13)
    replace MA := hid_ (MA.out.keep hf13)
    replace BJ := hid_ (BJ.out.fr hf13 id)
    replace BH := hid_ (BH.out.fr hf13 id)
    clear hlo hf13
    go_wp2_with fail
    refine (memPages_ok _ MA.out.M).mono ?_
    rintro e w14 ⟨pA, pc, rfl, hpo, hf14⟩
    replace F := hid_ (F.out.then_none hf14)
    replace MA := hid_ (MA.out.keep hf14)
    replace BJ := hid_ (BJ.out.fr hf14 id)
    replace BH := hid_ (BH.out.fr hf14 id)
    replace LO := hid_ (own_none LO.out hf14)
    clear hpo hf14
    go_wp2_with (refine wpList_load_mid rfl 46 (.tmp 3) rfl (W.heap.size + 1) 0 rfl (jobB J2 y).toList _ (show w14.rangeAt (W.heap.size + 1) 0 (jobB J2 y).toList from BJ.out.range (fun j v hv => by simpa using hv)) Try.underlying46 rfl jb_size ?_)
    refine (job_ok _ J2 _ _ _ w6.heap.size 0).mono ?_
    rintro e w15 ⟨jb, cb, rfl, hjb, hcb, hf15⟩
    obtain ⟨jb2, hjb2⟩ : ∃ z, z = jb := ⟨_, rfl⟩
    obtain ⟨cb2, hcb2⟩ : ∃ z, z = cb := ⟨_, rfl⟩
    rw [← hjb2] at hjb ⊢
    rw [← hcb2] at hcb ⊢
    clear hjb2 hcb2
    replace BJ := hid_ (BJ.out.fr hf15 id)
    replace MA := hid_ (MA.out.keep hf15)
    replace F := hid_ (F.out.then_none hf15)
    replace BH := hid_ (BH.out.fr hf15 id)
    replace LO := hid_ (own_none LO.out hf15)
    have BHLT := hid_ BH.out.lt
    have BJ2 := hid_ BJ.out.lt
    have LOLT := hid_ (show ∀ g, (Value.slice lA _ lc).ownBlock = some g → g < w15.heap.size from fun g hg => (own_blk LO.out hg).2.elim fun _ hb => hb.lt)
    have JA := hid_ (show JobAt W w15 J2 (yq y jb2 cb2 w6.heap.size) from ⟨{ (JobRaw.rd HJr2.out HSm2.out) with }, F.out, hjb, hcb, HCA.out⟩)
    clear hjb hcb hf15
    go_wp2_with fail
    refine (begJ (q := yq y jb2 cb2 w6.heap.size) JA.out _ MA.out.cc MA.out.cb (HJr2.out.rows HSm2.out)).mono ?_
    rintro e w16 ⟨i2, a2, rfl, hI, hmv, hcc, hcb, hfn⟩
    have cabl := MA.out.cb.elim fun cs hb => hb.lt
    have hsz9 := hfn.size
    have notc : ∀ (b : Nat) (t : TypeId) (cs : Array Value), Blk w15 b t cs → t ≠ 3 → ¬ only w6.heap.size b := fun b t cs hb ht e => by
      obtain ⟨cs2, hb2⟩ := MA.out.cb
      have e2 : b = w6.heap.size := e
      subst e2
      exact ht (hb.uniq hb2).1
    have EI := hid_ (show InOk W w16 w6.heap.size ⟨i2, w15.heap.size, begD J2, a2, J2, yq y jb2 cb2 w6.heap.size⟩ from
      ⟨hI, (begD_ok J2).1, JA.out.fr hfn (fun b e => by rw [show b = w6.heap.size from e]; exact HCA.out) (fun b t cs e hb => ⟨fun e2 => notc b t cs hb (by rw [e2]; decide) e, fun e2 => notc b t cs hb (by rw [e2]; decide) e⟩), hmv, (begD_ok J2).2.1, HJr2.out.rows HSm2.out, fun e => (by have := hI.foot_le e; omega), F.out.size, hsz9, rfl, rfl⟩)
    have BJb := hid_ (BJ.out.fr hfn (notc _ _ _ BJ.out (by decide)))
    replace BJ := BJb
    clear BJb
    have BHb := hid_ (BH.out.fr hfn (notc _ _ _ BH.out (by decide)))
    replace BH := BHb
    have LOb := hid_ (own_fr LO.out hfn (fun g hg => by obtain ⟨_, cs, hb⟩ := own_blk LO.out hg; exact notc g _ cs hb (by decide)))
    replace LO := LOb
    clear BHb LOb
    replace MA := hid_ (MA.out.add EI.out hfn hcc hcb (fun g hg => hI.foot_le hg) HCA.out)
    replace F := hid_ (F.out.trans (S'' := none_) hfn (fun _ _ => id) (fun g hg e => by have := HCA.out; have e2 : g = w6.heap.size := e; omega))
    clear hI hmv hcc hcb hfn cabl hsz9 EI notc
    have EN := hid_ (MA.out.env (z := ⟨i2, w15.heap.size, begD J2, a2, J2, yq y jb2 cb2 w6.heap.size⟩) (List.mem_append.2 (.inr (List.mem_singleton.2 rfl))))
    go_wp2_with fail
    refine (runs_ok EN.out (by have := HZ1.out; omega)).mono ?_
    rintro e w17 ⟨nr2, z2, D2, x2, ra2, c2, rfl, hs7, hz24, hR⟩
    have BJn := hid_ (BJ.out.fr hR.f (EN.out.old BJ.out (by decide) (by have := BJLT.out; have := BJ2.out; omega) (by decide)))
    have BHn := hid_ (BH.out.fr hR.f (EN.out.old BH.out (by decide) BHLT.out (by decide)))
    have LOn := hid_ (own_fr LO.out hR.f (fun g hg => by
      obtain ⟨_, cs, hb⟩ := own_blk LO.out hg
      exact EN.out.old hb (by decide) (LOLT.out g hg) (by decide)))
    have FW2 := hid_ (Fr.none_mfc EN.out F.out hR.f)
    have EI := hid_ hR.e
    have ST := hid_ hR.s
    have S7 := hid_ hs7
    clear hs7 hz24 hR MA F EN BJ BH LO
    go_wp2_with fail
    refine (done_ok EI.out.I S7.out).mono ?_
    rintro e w18 ⟨rfl, hf18⟩
    have MM := hid_ (EI.out.M.keep hf18)
    replace BJn := hid_ (BJn.out.fr hf18 id)
    replace BHn := hid_ (BHn.out.fr hf18 id)
    replace LOn := hid_ (own_none LOn.out hf18)
    have F := hid_ (FW2.out.then_none hf18)
    clear hf18 FW2 EI
    have a0 : w18.cell? ⟨w11.heap.size, 0, none⟩ = some (.int .i64 s0) := BHn.out.cell' rfl
    have a1_ : w18.cell? ⟨w11.heap.size, 1, none⟩ = some (.int .i64 g0) := BHn.out.cell' rfl
    have b1_ : w18.cell? ⟨W.heap.size + 1, 1, none⟩ = some (.int .i64 1) := by have := BJn.out.cell' (i := 1) (v := .int .i64 J2.os) rfl; rw [this, HJ2.out]; rfl
    have b2_ : w18.cell? ⟨W.heap.size + 1, 2, none⟩ = some (.int .i64 1) := by have := BJn.out.cell' (i := 2) (v := .int .i64 J2.og) rfl; rw [this, HJ2.out]; rfl
    by_cases he : s0 = 1 ∧ g0 = 1
    · have hq : ∀ w', (binOp .eql 34 (.agg #[.int .i64 s0, .int .i64 g0]) (.agg #[.int .i64 1, .int .i64 1])).run Try.prog w' = .ok (.bool true) w' := fun w' => by rw [eql_ref, he.1, he.2]; rfl
      clear he
      go_wp2_with fail
      refine (awake12 _).mono ?_
      rintro e w99 ⟨rfl, hf99⟩
      have F99 := hid_ (F.out.then_none hf99)
      clear hf99
      go_wp2_with fail
      go_ret
      exact ⟨rfl, F99.out⟩
    · have hb : (s0 == 1 && g0 == 1) = false := by simpa using he
      have hq : ∀ w', (binOp .eql 34 (.agg #[.int .i64 s0, .int .i64 g0]) (.agg #[.int .i64 1, .int .i64 1])).run Try.prog w' = .ok (.bool false) w' := fun w' => by rw [eql_ref, hb]
      have HL := hid_ (Late.steps he ST.out ⟨Tw.start (begD_ok J2).2.2.2.1 (begD_ok J2).2.2.2.2.1, fun _ _ => ⟨(begD_ok J2).2.2.2.1, (begD_ok J2).2.2.2.2.1⟩, begD_first J2 (by rw [HJ2.out]; exact ⟨rfl, rfl, rfl⟩), (begD_ok J2).1, HX.out, (begD_ok J2).2.2.2.2.2.2.2.2⟩)
      have hno := HL.out.no
      rw [hno]
      have HE := hid_ (HL.out.nothing S7.out)
      have hll := live_le x1.ss x1.ss.length
      have hal := MM.out.ar.len
      have hll2 := HL.out.t.ls
      clear hb he hno
      go_wp2_with fail
      refine (memLive_ok _ MM.out).mono ?_
      rintro e w19 ⟨lA2, lc2, rfl, hlo2, hf19⟩
      rw [HE.out.1] at hlo2 ⊢
      have LO2 := hid_ hlo2
      replace LOn := hid_ (own_none LOn.out hf19)
      replace MM := hid_ (MM.out.keep hf19)
      replace F := hid_ (F.out.then_none hf19)
      clear hlo2 hf19 a0 a1_ b1_ b2_
      go_wp2_with fail
      refine (sameRefs12 (liveTo x1.ss x1.ss.length) lA2 lA lc2 lc _ _ _ (by omega) LO2.out LOn.out).mono ?_
      rintro e w20 ⟨rfl, hf20⟩
      replace MM := hid_ (MM.out.keep hf20)
      replace F := hid_ (F.out.then_none hf20)
      clear hf20
      go_wp2_with fail
      refine (memPages_ok _ MM.out).mono ?_
      rintro e w21 ⟨pA2, pc2, rfl, hpo2, hf21⟩
      rw [HE.out.2]
      replace F := hid_ (F.out.then_none hf21)
      clear hpo2 hf21
      go_wp2_with fail
      refine (awake12 _).mono ?_
      rintro e w99 ⟨rfl, hf99⟩
      have F99 := hid_ (F.out.then_none hf99)
      clear hf99
      go_wp2_with fail
      go_ret
      exact ⟨rfl, F99.out⟩
theorem twice12_walk_i {H : Type} {enc : TypeId × Value → H} (s p tt r c q : Int) (x0 x1 x2 x3 : Int) (x4 : Value) (x5 : Int) (x6 x7 : ByteArray) (x8 : Bool) (x9 : Int) (x10 x11 : Value) (x12 x13 : ByteArray) (x14 x15 x16 : Int) (x17 : ByteArray) (x18 x19 x20 : Int) (W : World)
    (w4 : Conf enc Try.prog W (.slice 38) x4) (w10 : Conf enc Try.prog W (.slice 39) x10) (w11 : Conf enc Try.prog W (.slice 40) x11) :
    Calls Try.prog 5 #[.agg #[.int .i64 s, .int .i64 p, .int .i64 tt, .int .i64 r, .int .i64 c, .int .i64 q], .agg #[.int .i64 x0, .int .i64 x1, .int .i64 x2, .int .i64 x3, x4, .int .i64 x5, .string x6, .string x7, .bool x8, .int .i64 x9, x10, x11, .string x12, .string x13, .int .i64 x14, .int .i64 x15, .int .i64 x16, .string x17, .int .i64 x18, .int .i64 x19, .int .i64 x20]] W fun e w' => e = .returned (.bool true) ∧ Fr none_ W w' := by
  obtain ⟨J, y, e, hJ⟩ := job_raw (x0 := x0) (x1 := x1) (x2 := x2) (x3 := x3) (x5 := x5) (x6 := x6) (x7 := x7) (x8 := x8) (x9 := x9) (x12 := x12) (x13 := x13) (x14 := x14) (x15 := x15) (x16 := x16) (x17 := x17) (x18 := x18) (x19 := x19) (x20 := x20) w4 w10 w11
  rw [e]
  exact twice12_walk s p tt r c q J y W hJ
end Go.Proofs.Ythcpccddcgbanaa

/- An installer's rows grow; put. Written by gen_ins3.py. -/
import Derived.Test.YthcpccddcgbanaaIns2
namespace Go.Proofs.Ythcpccddcgbanaa
open Go.RowKit
set_option maxRecDepth 100000
set_option linter.unusedVariables false

/-- Types that no memory has blocks of. -/
def OffMem (t : TypeId) : Prop := t ≠ 85 ∧ t ≠ 113 ∧ t ≠ 115 ∧ t ≠ 110 ∧ t ≠ 104 ∧ t ≠ 107 ∧ t ≠ 97 ∧ t ≠ 99
instance (t : TypeId) : Decidable (OffMem t) := by unfold OffMem; infer_instance
theorem Mm.ty {w w' : World} {m : Nat} {k : Int} {l : Lm} {x : St} {S : Nat → Prop} (h : Mm w m k l x) (hf : Fr S w w') (hS : ∀ b, S b → ∃ t cs, Blk w b t cs ∧ OffMem t) : Mm w' m k l x := by
  obtain ⟨cs', hG, hc⟩ := h.ar.hG
  obtain ⟨cap, cur, hT0, hH, _⟩ := id h.tb
  have no : ∀ {g : Nat} {t : TypeId} {cs : Array Value}, Blk w g t cs → ¬ OffMem t → ¬ S g := fun hb hn hs => by
    obtain ⟨t', cs', hb', ho⟩ := hS _ hs
    obtain ⟨rfl, _⟩ := hb.uniq hb'
    exact hn ho
  have hrec : ∀ R vr ve, RecOwn w 0 R vr ve → RecOwn w' 0 R vr ve := fun R vr ve hR =>
    hR.fr hf (fun k hk => by obtain ⟨_, cs, hb⟩ := own_blk hR.r hk; exact no hb (by decide)) (fun k hk => by obtain ⟨_, cs, hb⟩ := own_blk hR.e hk; exact no hb (by decide))
  refine ⟨h.b.fr hf (no h.b (by decide)), ⟨h.ar.hA.fr hf (no h.ar.hA (by decide)), ⟨cs', hG.fr hf (no hG (by decide)), hc⟩, fun i s hs => hrec _ _ _ (h.ar.own i s hs), h.ar.l40, h.ar.len, h.ar.gen, h.ar.sz⟩, h.tb.fr hf (no hT0 (by decide)) (no hH (by decide)), h.ck.fr hf (no h.ck.hC (by decide)) ?_⟩
  intro hs
  obtain ⟨t, cs, hb, _⟩ := hS _ hs
  exact h.ck.mne hb rfl
theorem Inst.off {w : World} {B i : Nat} {D : Dt} {a : Ia} (h : Inst w B i D a) : ∀ b, foot i a b → ∃ t cs, Blk w b t cs ∧ OffMem t := fun b hb => by
  obtain ⟨t, cs, hbb, ht⟩ := h.foot_blk hb
  refine ⟨t, cs, hbb, ?_⟩
  rcases ht with rfl | rfl | rfl | rfl <;> decide
theorem Er.grown {w w' : World} {v : Value} {c : Int} (h : Er w v c) {b size n : Nat} {e : TypeId} {u : Value} {xs : List Value} (ho : w.ownsRow b e size u n xs) (hne : 122 ≠ e) (hg : w.grownBy w' u.ownBlock) : Er w' v c := by
  rcases h with h | ⟨p, s, h | ⟨h, bb, hv, hb⟩⟩
  · exact .inl h
  · exact .inr ⟨p, s, .inl h⟩
  · refine .inr ⟨p, s, .inr ⟨h, bb, hv, hb.grown hg ?_⟩⟩
    exact (own_blk_ne ho hb (Ne.symm hne)).symm
theorem Inst.pushP {w w1 : World} {B i : Nat} {D : Dt} {a : Ia} (h : Inst w B i D a) {v' : Value} {n : Int} (ho : w1.ownsRow B 3 1 v' (D.pages.length + 1) (intF D.pages ++ [.int .i64 n])) (hg : w.grownBy w1 a.pv.ownBlock) (hn : D.pages.length ≤ 3) : Inst (w1.setCell ⟨i, 6, none⟩ v') B i { D with pages := D.pages ++ [n] } { a with pv := v' } ∧ Fr (foot i a) w (w1.setCell ⟨i, 6, none⟩ v') := by
  have f1 : Fr (only i) w1 (w1.setCell ⟨i, 6, none⟩ v') := Fr.only1 w1 ⟨i, 6, none⟩ v'
  have hb1 : Blk w1 i 92 (inA D a) := h.b.grown hg (Ne.symm (own_blk_ne h.p h.b (by decide)))
  have hrec : ∀ R vr ve, RecOwn w 0 R vr ve → RecOwn (w1.setCell ⟨i, 6, none⟩ v') 0 R vr ve := fun R vr ve hR => (hR.grown h.p (by decide) (by decide) hg).only f1 hb1 (by decide) (by decide)
  refine ⟨⟨hb1.set_ 6 v', by have := own_fr ho f1 (fun k hk e => own_blk_ne ho hb1 (by decide) (by rw [hk, show k = i from e])); simpa [intF] using this, own_fr (own_kept h.bs h.p (by decide) hg) f1 (fun k hk e => own_blk_ne (own_kept h.bs h.p (by decide) hg) hb1 (by decide) (by rw [hk, show k = i from e])), h.cs, fun E hE => hrec _ _ _ (h.bo E hE), own_fr (own_kept h.r h.p (by decide) hg) f1 (fun k hk e => own_blk_ne (own_kept h.r h.p (by decide) hg) hb1 (by decide) (by rw [hk, show k = i from e])), hrec _ _ _ h.h, (h.e.grown h.p (by decide) hg).only f1 hb1 (by decide), h.le, h.zb, h.zh, ⟨by simp; omega, h.zp.2⟩⟩, ?_⟩
  exact (Fr.grown (Fr.refl (foot i a) w) hg (fun k hk => .inl (.inr (.inl hk)))).setCell (p := ⟨i, 6, none⟩) (.inl (.inl (Eq.refl i))) v'
theorem Inst.pushB {w w1 : World} {B i : Nat} {D : Dt} {a : Ia} (h : Inst w B i D a) {v' : Value} {C : Cr} (ho : w1.ownsRow B 44 15 v' (a.Cs.length + 1) (crFlat a.Cs ++ (crA C).toList)) (hg : w.grownBy w1 a.bv.ownBlock) (hC : RecOwn w 0 C.R (.slice C.A C.R.rows.length C.c) (.slice C.B C.R.ents.length C.d)) (hz : RowsOk C.R) (hn : D.bases.length ≤ 3) : Inst (w1.setCell ⟨i, 7, none⟩ v') B i { D with bases := D.bases ++ [C.R] } { a with bv := v', Cs := a.Cs ++ [C] } ∧ Fr (foot i a) w (w1.setCell ⟨i, 7, none⟩ v') := by
  have f1 : Fr (only i) w1 (w1.setCell ⟨i, 7, none⟩ v') := Fr.only1 w1 ⟨i, 7, none⟩ v'
  have hb1 : Blk w1 i 92 (inA D a) := h.b.grown hg (Ne.symm (own_blk_ne h.bs h.b (by decide)))
  have hrec : ∀ R vr ve, RecOwn w 0 R vr ve → RecOwn (w1.setCell ⟨i, 7, none⟩ v') 0 R vr ve := fun R vr ve hR => (hR.grown h.bs (by decide) (by decide) hg).only f1 hb1 (by decide) (by decide)
  refine ⟨⟨hb1.set_ 7 v', own_fr (own_kept h.p h.bs (by decide) hg) f1 (fun k hk e => own_blk_ne (own_kept h.p h.bs (by decide) hg) hb1 (by decide) (by rw [hk, show k = i from e])), by have := own_fr ho f1 (fun k hk e => own_blk_ne ho hb1 (by decide) (by rw [hk, show k = i from e])); simpa [crFlat_snoc] using this, by rw [List.map_append, h.cs]; rfl, fun E hE => by
    rcases List.mem_append.1 hE with hE | hE
    · exact hrec _ _ _ (h.bo E hE)
    · obtain rfl : E = C := by simpa using hE
      exact hrec _ _ _ hC, own_fr (own_kept h.r h.bs (by decide) hg) f1 (fun k hk e => own_blk_ne (own_kept h.r h.bs (by decide) hg) hb1 (by decide) (by rw [hk, show k = i from e])), hrec _ _ _ h.h, (h.e.grown h.bs (by decide) hg).only f1 hb1 (by decide), h.le, fun R hR => by
    rcases List.mem_append.1 hR with hR | hR
    · exact h.zb R hR
    · obtain rfl : R = C.R := by simpa using hR
      exact hz, h.zh, ⟨h.zp.1, by simp; omega, h.zp.2.2⟩⟩, ?_⟩
  exact (Fr.grown (Fr.refl (foot i a) w) hg (fun k hk => .inl (.inr (.inr (.inl hk))))).setCell (p := ⟨i, 7, none⟩) (.inl (.inl (Eq.refl i))) v'
theorem Inst.pushR {w w1 : World} {B i : Nat} {D : Dt} {a : Ia} (h : Inst w B i D a) {v' : Value} {s g : Int} (ho : w1.ownsRow B 34 2 v' (D.refs.length + 1) (rf9Flat D.refs ++ [.int .i64 s, .int .i64 g])) (hg : w.grownBy w1 a.rv.ownBlock) (hn : D.refs.length ≤ 4) : Inst (w1.setCell ⟨i, 23, none⟩ v') B i { D with refs := D.refs ++ [(s, g)] } { a with rv := v' } ∧ Fr (foot i a) w (w1.setCell ⟨i, 23, none⟩ v') := by
  have f1 : Fr (only i) w1 (w1.setCell ⟨i, 23, none⟩ v') := Fr.only1 w1 ⟨i, 23, none⟩ v'
  have hb1 : Blk w1 i 92 (inA D a) := h.b.grown hg (Ne.symm (own_blk_ne h.r h.b (by decide)))
  have hrec : ∀ R vr ve, RecOwn w 0 R vr ve → RecOwn (w1.setCell ⟨i, 23, none⟩ v') 0 R vr ve := fun R vr ve hR => (hR.grown h.r (by decide) (by decide) hg).only f1 hb1 (by decide) (by decide)
  refine ⟨⟨hb1.set_ 23 v', own_fr (own_kept h.p h.r (by decide) hg) f1 (fun k hk e => own_blk_ne (own_kept h.p h.r (by decide) hg) hb1 (by decide) (by rw [hk, show k = i from e])), own_fr (own_kept h.bs h.r (by decide) hg) f1 (fun k hk e => own_blk_ne (own_kept h.bs h.r (by decide) hg) hb1 (by decide) (by rw [hk, show k = i from e])), h.cs, fun E hE => hrec _ _ _ (h.bo E hE), by have := own_fr ho f1 (fun k hk e => own_blk_ne ho hb1 (by decide) (by rw [hk, show k = i from e])); simpa [rf9Flat_snoc] using this, hrec _ _ _ h.h, (h.e.grown h.r (by decide) hg).only f1 hb1 (by decide), h.le, h.zb, h.zh, ⟨h.zp.1, h.zp.2.1, by simp; omega⟩⟩, ?_⟩
  exact (Fr.grown (Fr.refl (foot i a) w) hg (fun k hk => .inl (.inr (.inr (.inr hk))))).setCell (p := ⟨i, 23, none⟩) (.inl (.inl (Eq.refl i))) v'
/-- The blocks of an installer behind a step: those of before, and new ones. -/
def FootLe (i : Nat) (a a' : Ia) (w : World) : Prop := ∀ k, foot i a' k → foot i a k ∨ w.heap.size ≤ k
theorem FootLe.refl (i : Nat) (a : Ia) (w : World) : FootLe i a a w := fun k h => .inl h
theorem FootLe.same {i : Nat} {a a' : Ia} (w : World) (h1 : a'.pv = a.pv) (h2 : a'.bv = a.bv) (h3 : a'.rv = a.rv) : FootLe i a a' w := fun k h => by
  unfold foot at h ⊢
  rw [h1, h2, h3] at h
  exact .inl h
theorem FootLe.trans {i : Nat} {a b c : Ia} {w w' : World} (h : FootLe i a b w) (h' : FootLe i b c w') (hs : w.heap.size ≤ w'.heap.size) : FootLe i a c w := fun k hk => by
  rcases h' k hk with h1 | h1
  · exact h k h1
  · exact .inr (by omega)
theorem FootLe.push {i : Nat} {a a' : Ia} {w w1 : World} (hs : w.heap.size ≤ w1.heap.size) (h : (a'.pv = a.pv ∨ a'.pv.ownBlock = a.pv.ownBlock ∨ a'.pv.ownBlock = some w1.heap.size) ∧ (a'.bv = a.bv ∨ a'.bv.ownBlock = a.bv.ownBlock ∨ a'.bv.ownBlock = some w1.heap.size) ∧ (a'.rv = a.rv ∨ a'.rv.ownBlock = a.rv.ownBlock ∨ a'.rv.ownBlock = some w1.heap.size)) : FootLe i a a' w := fun k hk => by
  have one : ∀ {u v : Value}, (u = v ∨ u.ownBlock = v.ownBlock ∨ u.ownBlock = some w1.heap.size) → u.ownBlock = some k → v.ownBlock = some k ∨ w.heap.size ≤ k := by
    rintro u v (rfl | e | e) hk
    · exact .inl hk
    · exact .inl (e ▸ hk)
    · rw [hk] at e
      injection e with e
      exact .inr (by omega)
  rcases hk with rfl | hk | hk | hk
  · exact .inl (.inl rfl)
  · exact (one h.1 hk).imp (fun h => .inr (.inl h)) id
  · exact (one h.2.1 hk).imp (fun h => .inr (.inr (.inl h))) id
  · exact (one h.2.2 hk).imp (fun h => .inr (.inr (.inr h))) id
def mf (m : Nat) (x : St) (i : Nat) (a : Ia) : Nat → Prop := fun k => mall m x k ∨ foot i a k
theorem mf_m {m : Nat} {x : St} {i : Nat} {a : Ia} {w w' : World} (h : Fr (mall m x) w w') : Fr (mf m x i a) w w' := h.mono (fun _ _ => .inl)
theorem mf_f {m : Nat} {x : St} {i : Nat} {a : Ia} {w w' : World} (h : Fr (foot i a) w w') : Fr (mf m x i a) w w' := h.mono (fun _ _ => .inr)
theorem mf_i {m : Nat} {x : St} {i : Nat} {a : Ia} {w w' : World} (h : Fr (only i) w w') : Fr (mf m x i a) w w' := h.mono (fun _ _ e => .inr (.inl e))
theorem mf_tr {m : Nat} {x : St} {i : Nat} {a : Ia} {b c d : World} (h : Fr (mf m x i a) b c) (k : Fr (mf m x i a) c d) : Fr (mf m x i a) b d := h.trans k (fun _ _ => id) (fun _ _ => id)
theorem Ev.nil_iff {w : World} {v : Value} {p : ByteArray} {s c : Int} (h : Ev w v p s c) : (c = 0 ∧ v = .nilIface) ∨ (c ≠ 0 ∧ ∃ b, v = .iface 120 (.pointer (some ⟨b, 0, none⟩))) := by
  rcases h with h | ⟨h, b, hv, _⟩
  · exact .inl h
  · exact .inr ⟨h, b, hv⟩
def putD (D : Dt) (kk sl gn : Int) : Dt := if kk = 0 then { D with refs := D.refs ++ [(sl, gn)] } else D
def PutPost (m : Nat) (k : Int) (l : Lm) (x : St) (B i : Nat) (D : Dt) (a : Ia) (R : Rc) (w : World) (e : Ending) (w' : World) : Prop :=
  ∃ sl gn kk ss' v a', e = .returned v ∧ AllocR l.n x.ss R sl gn kk ss' ∧ Ev w' v sArena9 0 kk ∧ Mm w' m (k + 1) l { x with ss := ss' } ∧ Inst w' B i (putD D kk sl gn) a' ∧ Fr (mf m x i a) w w' ∧ FootLe i a a' w ∧ (a'.pv = a.pv ∧ a'.bv = a.bv ∧ a'.Cs = a.Cs ∧ a'.mv = a.mv ∧ a'.hvr = a.hvr ∧ a'.hve = a.hve)
set_option maxHeartbeats 4000000 in
theorem put_ok {w : World} {m : Nat} {k : Int} {l : Lm} {x : St} {B i : Nat} {D : Dt} {a : Ia} (h : Inst w B i D a) (hM : Mm w m k l x) (h0 : 0 ≤ k) (h1 : k ≤ 100000) (R : Rc) (A : Option Addr) (c : Nat) (E : Option Addr) (d : Nat) (hR : RecOwn w 0 R (.slice A R.rows.length c) (.slice E R.ents.length d)) (hz : RowsOk R) (hn : D.refs.length ≤ 4) (hB : B ≤ w.heap.size) :
    Calls Try.prog 55 #[.pointer (some ⟨i, 0, none⟩), .pointer (some ⟨m, 0, none⟩), recV R (.slice A R.rows.length c) (.slice E R.ents.length d)] w (PutPost m k l x B i D a R w) := by
  obtain ⟨Ap, cp, A2, c2, A3, c3, e1, e2, e3⟩ := h.shapes
  have E2 := hid_ e2
  clear e1 e3
  obtain ⟨j0, hj0, hy0, ht0, hc0⟩ := info_parts ref_info9
  have Hj := hid_ (And.intro hj0 (And.intro hy0 (And.intro ht0 hc0)))
  have HS := hid_ (And.intro hz (And.intro hn hB))
  clear hj0 hy0 ht0 hc0
  have I0 := hid_ h
  have M0 := hid_ hM
  have O0 := hid_ hR
  have F := hid_ (Fr.refl none_ w)
  clear h hM hR e2
  go_enter Try.func55, Try.ntmps55
  go_upto_region 1 with fail
  obtain ⟨w0, hw0⟩ : ∃ z, z = w.alloc (.cells (recA R (.slice A R.rows.length c) (.slice E R.ents.length d)) 44) := ⟨_, rfl⟩
  have fw0 : Fr none_ w w0 := by rw [hw0]; exact (Fr.refl none_ w).alloc _
  have BR : Hid (Blk w0 w.heap.size 44 (recA R (.slice A R.rows.length c) (.slice E R.ents.length d))) := hid_ (by rw [hw0]; exact Blk.new w _ _)
  replace I0 := hid_ (I0.out.keep fw0)
  replace M0 := hid_ (M0.out.keep fw0)
  replace O0 := hid_ (O0.out.keep fw0)
  replace F := hid_ (F.out.then_none fw0)
  change Code.wp _ _ _ _ (w.alloc (.cells (recA R (.slice A R.rows.length c) (.slice E R.ents.length d)) 44))
  rw [← hw0]
  clear hw0 fw0
  have r0 : w0.cell? ⟨w.heap.size, 0, none⟩ = some (.int .i64 R.kind) := BR.out.cell' rfl
  have r1 : w0.cell? ⟨w.heap.size, 1, none⟩ = some (.string R.low) := BR.out.cell' rfl
  have r2 : w0.cell? ⟨w.heap.size, 2, none⟩ = some (.string R.high) := BR.out.cell' rfl
  have r3 : w0.cell? ⟨w.heap.size, 3, none⟩ = some (.bool R.unb) := BR.out.cell' rfl
  have r4 : w0.cell? ⟨w.heap.size, 4, none⟩ = some (.int .i64 R.right) := BR.out.cell' rfl
  have r5 : w0.cell? ⟨w.heap.size, 5, none⟩ = some (.slice A R.rows.length c) := BR.out.cell' rfl
  have r6 : w0.cell? ⟨w.heap.size, 6, none⟩ = some (.slice E R.ents.length d) := BR.out.cell' rfl
  have r7 : w0.cell? ⟨w.heap.size, 7, none⟩ = some (.string R.key) := BR.out.cell' rfl
  have r8 : w0.cell? ⟨w.heap.size, 8, none⟩ = some (.string R.val) := BR.out.cell' rfl
  have r9 : w0.cell? ⟨w.heap.size, 9, none⟩ = some (.int .i64 R.page) := BR.out.cell' rfl
  have r10 : w0.cell? ⟨w.heap.size, 10, none⟩ = some (.int .i64 R.hpage) := BR.out.cell' rfl
  have r11 : w0.cell? ⟨w.heap.size, 11, none⟩ = some (.int .i64 R.hleft) := BR.out.cell' rfl
  have r12 : w0.cell? ⟨w.heap.size, 12, none⟩ = some (.string R.hkey) := BR.out.cell' rfl
  have r13 : w0.cell? ⟨w.heap.size, 13, none⟩ = some (.int .i64 R.nslot) := BR.out.cell' rfl
  have r14 : w0.cell? ⟨w.heap.size, 14, none⟩ = some (.int .i64 R.ngen) := BR.out.cell' rfl
  go_wp2_with fail
  refine (memAlloc_any m k l x _ M0.out h0 h1 R A c E d (fun w' hf => (O0.out.only hf M0.out.b (by decide) (by decide)).reads) HS.out.1).mono ?_
  rintro e w1 ⟨sl, gn, kk, ss', v, rfl, hA, hev, hM1, hf1⟩
  have RA := hid_ hA
  have EV := hid_ hev
  have I1 := hid_ (I0.out.mall M0.out hf1)
  have M1 := hid_ hM1
  have F1 : Hid (Fr (mall m x) w w1) := hid_ ((F.out.mono (fun _ _ e => e.elim)).trans (S' := mall m x) (S'' := mall m x) hf1 (fun _ _ => id) (fun _ _ => id))
  have NX : Hid (∀ k, a.rv.ownBlock = some k → k < w1.heap.size) := hid_ (fun k hk => (own_blk I1.out.r hk).2.elim fun _ hb => hb.lt)
  clear hA hev hM1 hf1 I0 M0 O0 BR F
  clear r0 r1 r2 r3 r4 r5 r6 r7 r8 r9 r10 r11 r12 r13 r14
  go_upto_region 2 with fail
  obtain ⟨w2, hw2⟩ : ∃ z, z = w1.alloc (.cells #[.int .i64 sl, .int .i64 gn] 34) := ⟨_, rfl⟩
  have fw2 : Fr none_ w1 w2 := by rw [hw2]; exact (Fr.refl none_ w1).alloc _
  have BX : Hid (Blk w2 w1.heap.size 34 (#[.int .i64 sl, .int .i64 gn])) := hid_ (by rw [hw2]; exact Blk.new w1 _ _)
  replace EV := hid_ (EV.out.keep fw2)
  replace I1 := hid_ (I1.out.keep fw2)
  replace M1 := hid_ (M1.out.keep fw2)
  replace F1 := hid_ (F1.out.then_none fw2)
  change Code.wp _ _ _ _ (w1.alloc (.cells #[.int .i64 sl, .int .i64 gn] 34))
  rw [← hw2]
  clear hw2 fw2
  have hsw := F1.out.size
  rcases EV.out.nil_iff with ⟨rfl, rfl⟩ | ⟨hkk, b, rfl⟩
  rotate_left
  · have hq := HS
    have HK := hid_ hkk
    clear hkk hq
    go_wp2_with fail
    go_ret
    exact ⟨sl, gn, kk, ss', _, a, rfl, RA.out, EV.out, M1.out, by rw [show putD D kk sl gn = D from if_neg HK.out]; exact I1.out, mf_m F1.out, FootLe.refl _ _ _, rfl, rfl, rfl, rfl, rfl, rfl⟩
  go_upto_region 3 with fail
  have i23 : w2.cell? ⟨i, 23, none⟩ = some (.slice A2 D.refs.length c2) := by rw [← E2.out]; exact I1.out.b.cell' rfl
  have x0 : w2.cell? ⟨w1.heap.size, 0, none⟩ = some (.int .i64 sl) := BX.out.cell' rfl
  have x1 : w2.cell? ⟨w1.heap.size, 1, none⟩ = some (.int .i64 gn) := BX.out.cell' rfl
  clear i23 x0 x1
  have hS0 : (fun w' : World => Blk w' i 92 (inA D a) ∧ Blk w' w1.heap.size 34 #[.int .i64 sl, .int .i64 gn]) w2.drew := ⟨I1.out.b.drew, BX.out.drew⟩
  refine wp_region_U (m := 8) (S := (fun w' : World => Blk w' i 92 (inA D a) ∧ Blk w' w1.heap.size 34 #[.int .i64 sl, .int .i64 gn])) (by kernel_rfl) ?_
  refine wpAnyU_take2 (i := 0) (v := _) rfl (by kernel_rfl) (by kernel_rfl) (by kernel_rfl) (by kernel_rfl) (fun _ _ _ h => h) (.inl ⟨by kernel_rfl, fun w' hS => by go_simp; rfl⟩) hS0 ?_
  refine wpAnyU_take2 (i := 1) (v := _) rfl (by kernel_rfl) (by kernel_rfl) (by kernel_rfl) (by kernel_rfl) (fun _ _ _ h => h) (.inl ⟨by kernel_rfl, fun w' hS => by go_simp; rfl⟩) hS0 ?_
  refine wpAnyU_take2 (i := 2) (v := _) rfl (by kernel_rfl) (by kernel_rfl) (by kernel_rfl) (by kernel_rfl) (fun _ _ _ h => h) (.inl ⟨by kernel_rfl, fun w' hS => by go_simp; rfl⟩) hS0 ?_
  refine wpAnyU_take2 (i := 3) (v := _) rfl (by kernel_rfl) (by kernel_rfl) (by kernel_rfl) (by kernel_rfl) (fun _ _ _ h => h) (.inl ⟨by kernel_rfl, fun w' hS => by go_simp; rfl⟩) hS0 ?_
  refine wpAnyU_take2 (i := 4) (v := _) rfl (by kernel_rfl) (by kernel_rfl) (by kernel_rfl) (by kernel_rfl) (fun _ _ _ h => h) (.inl ⟨by kernel_rfl, fun w' hS => by have s_ : w'.cell? ⟨i, 23, none⟩ = some (.slice A2 D.refs.length c2) := (by rw [← E2.out]; exact hS.1.cell' rfl); go_simp; rfl⟩) hS0 ?_
  refine wpAnyU_take2 (i := 5) (v := _) rfl (by kernel_rfl) (by kernel_rfl) (by kernel_rfl) (by kernel_rfl) (fun _ _ _ h => h) (.inl ⟨by kernel_rfl, fun w' hS => by have s_0 : w'.cell? ⟨w1.heap.size, 0, none⟩ = some (.int .i64 sl) := hS.2.cell' rfl; have s_1 : w'.cell? ⟨w1.heap.size, 1, none⟩ = some (.int .i64 gn) := hS.2.cell' rfl; go_simp; rfl⟩) hS0 ?_
  refine wpAnyU_oneW (i := 6) rfl (by kernel_rfl) (by kernel_rfl) ?_
  go_simp
  refine ⟨⟨hS0.1.alloc _, hS0.2.alloc _⟩, ?_⟩
  obtain ⟨w3, hw3⟩ : ∃ z, z = w2.drew.alloc (.cells #[.int .i64 sl, .int .i64 gn] 34) := ⟨_, rfl⟩
  have f3 : Fr none_ w2 w3 := by rw [hw3]; exact (Fr.refl none_ w2).drew.alloc _
  have PR : Hid (Blk w3 w2.heap.size 34 #[.int .i64 sl, .int .i64 gn]) := hid_ (by rw [hw3]; exact Blk.new w2.drew _ _)
  replace EV := hid_ (EV.out.keep f3)
  replace I1 := hid_ (I1.out.keep f3)
  replace M1 := hid_ (M1.out.keep f3)
  replace F1 := hid_ (F1.out.then_none f3)
  replace BX := hid_ (BX.out.fr f3 id)
  change wpAnyU _ _ _ _ _ _ _ _ _ (w2.drew.alloc (.cells #[.int .i64 sl, .int .i64 gn] 34))
  rw [← hw3]
  clear hw3 f3 hS0
  refine wpAnyU_oneW (i := 7) rfl (by kernel_rfl) (by kernel_rfl) ?_
  refine wp_append_at _ (.tmp 21) (.tmp 23) 66 rfl B 34 j0 _ 2 16 Try.underlying66 Hj.out.1 Hj.out.2.1 Hj.out.2.2.1 Hj.out.2.2.2 rfl (by omega) (.slice A2 D.refs.length c2) D.refs.length (rf9Flat D.refs) rfl (by rw [← E2.out]; exact I1.out.r) (some ⟨w2.heap.size, 0, none⟩) 1 1 [.int .i64 sl, .int .i64 gn] rfl (reads_blk9 PR.out) (by simp [Value.oneCell']) (by have := HS.out.2.1; simp only [maxLen]; omega) (by have := HS.out.2.1; omega) (by have := HS.out.2.2; have := F1.out.size; omega) ?_
  intro v' w4 hown hgr hat
  rw [← E2.out] at hgr hat
  refine ⟨.inr ⟨I1.out.b.grown hgr (Ne.symm (own_blk_ne I1.out.r I1.out.b (by decide))), BX.out.grown hgr ?_⟩, ?_⟩
  · exact fun e => absurd (NX.out _ e.symm) (Nat.lt_irrefl _)
  have i23 : ∃ u, w4.cell? ⟨i, 23, none⟩ = some u := ⟨_, (I1.out.b.grown hgr (Ne.symm (own_blk_ne I1.out.r I1.out.b (by decide)))).cell' rfl⟩
  obtain ⟨u23, i23⟩ := i23
  have y23 := (I1.out.b.grown hgr (Ne.symm (own_blk_ne I1.out.r I1.out.b (by decide)))).frozen 23
  have hp := I1.out.pushR hown hgr HS.out.2.1
  obtain ⟨A5, c5, rfl⟩ := hown.shape
  have hpM := M1.out.ty hp.2 I1.out.off
  have HP := hid_ (And.intro hp.1 (And.intro hpM (And.intro hp.2 hat)))
  clear hp hpM hown hgr hat PR
  refine wpAnyU_oneW (i := 8) rfl (by kernel_rfl) (by kernel_rfl) ?_
  go_simp
  refine wpAnyU_oneW (i := 9) rfl (by kernel_rfl) (by kernel_rfl) ?_
  go_simp
  refine wpAnyU_oneW (i := 10) rfl (by kernel_rfl) (by kernel_rfl) ?_
  go_simp
  refine wpAnyU_done (by kernel_rfl) ?_ _
  go_wp2_with fail
  go_ret
  refine ⟨sl, gn, 0, ss', _, { a with rv := .slice A5 (D.refs.length + 1) c5 }, rfl, RA.out, .inl ⟨rfl, rfl⟩, HP.out.2.1, by rw [show putD D 0 sl gn = { D with refs := D.refs ++ [(sl, gn)] } from if_pos rfl]; exact HP.out.1, mf_tr (mf_m F1.out) (mf_f HP.out.2.2.1), FootLe.push (w1 := w3) F1.out.size ⟨.inl rfl, .inl rfl, .inr HP.out.2.2.2⟩, rfl, rfl, rfl, rfl, rfl, rfl⟩
end Go.Proofs.Ythcpccddcgbanaa

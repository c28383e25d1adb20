/- InstallFirst's walk. Written by gen_first12.py. -/
import Derived.Test.YthcpccddcgbanaaMany12
import Derived.Test.YthcpccddcgbanaaTy12
import Derived.BigRegion
namespace Go.Proofs.Ythcpccddcgbanaa
open Go.RowKit Go.ChangeShapes Go.WideShapes
set_option maxRecDepth 100000
set_option linter.unusedVariables false

abbrev ptF (l : List Nat) : List Value := l.map fun i => Value.pointer (some ⟨i, 0, none⟩)
theorem pt_info : (Try.prog.info? 47).map (fun i => (i.zero, i.size, i.bytes)) = some (some (.pointer none), 1, 8) := by kernel_rfl
theorem own_pt {w : World} {B n c : Nat} {A : Option Addr} {l : List Nat} (h : w.ownsRow B 47 1 (.slice A n c) n (ptF l)) {k : Nat} {i : Nat} (hk : l[k]? = some i) : ∃ g, A = some ⟨g, 0, none⟩ ∧ g < w.heap.size ∧ w.cell? ⟨g, k, none⟩ = some (.pointer (some ⟨i, 0, none⟩)) := by
  have hl : l.length = n := by have := h.1; simpa [ptF] using this
  have hkl : k < l.length := (List.getElem?_eq_some_iff.1 hk).1
  obtain ⟨A', c', e, _, _, hp⟩ := own_parts h
  obtain ⟨g, hg, hlt, hcell⟩ := hp (by omega)
  refine ⟨g, by injection e with e1 _ _; rw [e1, hg], hlt, hcell k _ ?_⟩
  rw [List.getElem?_map, hk]
  rfl
/-- The row of installers' pointers, where only installers' blocks, a memory's and the calls' number are turned. -/
theorem ptrs_keep {W w w' : World} {m : Nat} {k : Int} {l : Lm} {x : St} {B i : Nat} {D : Dt} {a : Ia} {J : Jd} {q : Jl} {c0 : Int} (h : Env W w m k l x B i D a J q c0) (hf : Fr (mfc m x i a q.cab) w w') {b n : Nat} {v : Value} {xs : List Value} (ho : w.ownsRow b 47 1 v n xs) : w'.ownsRow b 47 1 v n xs := by
  obtain ⟨cs, hcb⟩ := h.cb
  refine own_fr ho hf (fun g hg hs => ?_)
  obtain ⟨_, cs', hb⟩ := own_blk ho hg
  rcases hs with hs | hs | hs
  · exact h.M.mall_ty hb (by decide) hs
  · obtain ⟨t', cs2, hb', ht'⟩ := h.I.foot_blk hs
    obtain ⟨e, _⟩ := hb.uniq hb'
    rcases ht' with h | h | h | h <;> rw [h] at e <;> revert e <;> decide
  · have e : g = q.cab := hs
    subst e
    obtain ⟨e, _⟩ := hb.uniq hcb
    revert e
    decide
theorem Fr.none_mfc {W w w' : World} {m : Nat} {k : Int} {l : Lm} {x : St} {B i : Nat} {D : Dt} {a : Ia} {J : Jd} {q : Jl} {c0 : Int} (h : Env W w m k l x B i D a J q c0) (h0 : Fr none_ W w) (hf : Fr (mfc m x i a q.cab) w w') : Fr none_ W w' :=
  h0.trans hf (fun _ _ => id) (fun g hg hs => by
    rcases hs with hs | hs | hs
    · have := h.hW g hs; omega
    · have := h.I.foot_le hs; have := h.hWB; omega
    · have := h.j.ca; have e : g = q.cab := hs; omega)
def jobHd (J : Jd) (page os og : Int) : Jd := { J with page := page, os := os, og := og }
theorem JobRaw.hd_ {W : World} {J : Jd} {q : Jl} (h : JobRaw W J q) (p s g : Int) : JobRaw W (jobHd J p s g) q := ⟨h.r, h.o, h.cs, h.hd⟩
theorem JSm.hd_ {J : Jd} {q : Jl} (h : JSm J q) (p s g : Int) : JSm (jobHd J p s g) q := ⟨h.b, h.h1, h.h2, h.c⟩
abbrev newSt (a G : Nat) (vr ve : Value) (T H C M : Nat) (l : Lm) : St := ⟨a, G, ⟨1, true, leafR, vr, ve⟩ :: List.replicate (l.s - 1) Sl.zero, T, H, (true, 1, 1) :: List.replicate (l.p - 1) (false, 0, 0), C, M, 1, 0, .map []⟩
theorem Many.ptr {W w w' : World} {m : Nat} {k : Int} {l : Lm} {x : St} {cab : Nat} {c0 : Int} {L : List In1} {S : Nat → Prop} (h : Many W w m k l x cab c0 L) (hf : Fr S w w') (hS : ∀ b, S b → ∃ cs, Blk w b 47 cs) (hB : ∀ b, S b → W.heap.size ≤ b) : Many W w' m k l x cab c0 L := by
  obtain ⟨cs, hcb⟩ := h.cb
  have off : ¬ S cab := fun e => by
    obtain ⟨cs', hb⟩ := hS _ e
    exact absurd (hcb.uniq hb).1 (by decide)
  refine ⟨h.M.ty hf (fun b e => by obtain ⟨cs, hb⟩ := hS b e; exact ⟨_, cs, hb, by decide⟩), h.k0, h.k1, h.hW, cellFrS h.cc hf off, ⟨cs, hcb.fr hf off⟩, fun z hz => ?_, h.dis⟩
  have e := h.e z hz
  refine ⟨e.I.fr hf (fun g hg hs => ?_) (fun g t cs' hb ht hs => ?_), e.d, e.j.fr hf hB (fun b t cs' hs hb => ?_), e.mv, e.nw, e.zJ, e.off, e.hWB, Nat.le_trans e.hB hf.size, e.qc⟩
  · obtain ⟨t, cs1, hb1, ht⟩ := e.I.foot_blk hg
    obtain ⟨cs2, hb2⟩ := hS g hs
    obtain ⟨rfl, _⟩ := hb1.uniq hb2
    rcases ht with h | h | h | h <;> revert h <;> decide
  · obtain ⟨cs2, hb2⟩ := hS g hs
    obtain ⟨rfl, _⟩ := hb.uniq hb2
    rcases ht with h | h | h <;> revert h <;> decide
  · obtain ⟨cs2, hb2⟩ := hS b hs
    obtain ⟨rfl, _⟩ := hb.uniq hb2
    decide
abbrev yq (y : Jl) (jb cb cab : Nat) : Jl := { y with jb := jb, cb := cb, cab := cab, cao := 0 }
theorem begD_first (J : Jd) (h : J.page = 0 ∧ J.os = 1 ∧ J.og = 1) : NotFirst (begD J) := by
  obtain ⟨h1, h2, h3, h4, h5, h6, h7, h8, h9⟩ := begD_ok J
  exact ⟨fun p hp => (by rw [h4] at hp; cases hp), fun p hp => (by rw [h5] at hp; cases hp), by rw [h6, h7, h8]; exact h⟩
/-- The law's state. -/
structure Fst (W w : World) (m : Nat) (k : Int) (l : Lm) (x : St) (cab : Nat) (c0 : Int) (B : Nat) (v : Value) (L : List In1) : Prop where
  f : Fr none_ W w
  M : Many W w m k l x cab c0 L
  P : PF x (L.map (·.D))
  o : w.ownsRow B 47 1 v L.length (ptF (L.map (·.i)))
theorem Fst.keep {W w w' : World} {m : Nat} {k : Int} {l : Lm} {x : St} {cab : Nat} {c0 : Int} {B : Nat} {v : Value} {L : List In1} (h : Fst W w m k l x cab c0 B v L) (hf : Fr none_ w w') : Fst W w' m k l x cab c0 B v L := ⟨h.f.then_none hf, h.M.keep hf, h.P, own_none h.o hf⟩
theorem Fst.upd {W w w' : World} {m : Nat} {k k' : Int} {l : Lm} {x x' : St} {cab : Nat} {c0 c' : Int} {B : Nat} {v : Value} {L : List In1} (h : Fst W w m k l x cab c0 B v L) {j : Nat} {z : In1} (hz : L[j]? = some z) {D' : Dt} {a' : Ia} (he : Env W w' m k' l x' z.B z.i D' a' z.J z.q c') (hf : Fr (mfc m x z.i z.a z.q.cab) w w') (hfl : FootLe z.i z.a a' w) (hP : PF x' ((L.map (·.D)).set j D')) : Fst W w' m k' l x' cab c' B v (L.set j { z with D := D', a := a' }) := by
  have en := h.M.env (List.mem_of_getElem? hz)
  have e2 : (L.set j { z with D := D', a := a' }).map (·.i) = L.map (·.i) := by
    rw [List.map_set]
    apply List.ext_getElem?
    intro i
    rcases Nat.decEq i j with hij | hij
    · rw [List.getElem?_set_ne (fun e => hij e.symm)]
    · subst hij
      rw [List.getElem?_set_self (by rw [List.length_map]; exact (List.getElem?_eq_some_iff.1 hz).1), List.getElem?_map, hz]
      rfl
  refine ⟨Fr.none_mfc en h.f hf, h.M.upd hz he hf hfl, by rw [List.map_set]; exact hP, ?_⟩
  rw [List.length_set, e2]
  exact ptrs_keep en hf h.o
set_option maxHeartbeats 16000000 in
theorem first12_walk (s p tt r c q : Int) (A : Option Addr) (n cap : Nat) (L0 : List Jq) (T : Option Addr) (tn tc : Nat) (W : World) (hJ : JobsIn W A n L0) (hn : n ≤ maxLen) (hT : Bytes12 W T tn) (htn : tn ≤ maxLen) :
    Calls Try.prog 3 #[.agg #[.int .i64 s, .int .i64 p, .int .i64 tt, .int .i64 r, .int .i64 c, .int .i64 q], .slice A n cap, .slice T tn tc] W fun e w' => e = .returned (.bool true) ∧ Fr none_ W w' := by
  obtain ⟨j0, hj0, hy0, ht0, hc0⟩ := info_parts pt_info
  have Hj := hid_ (And.intro hj0 (And.intro hy0 (And.intro ht0 hc0)))
  clear hj0 hy0 ht0 hc0
  have HJ := hid_ hJ
  have HT := hid_ hT
  have F := hid_ (Fr.refl none_ W)
  clear hJ hT
  go_enter Try.func3, Try.ntmps3
  go_upto_region 1 with fail
  obtain ⟨w0, hw0⟩ : ∃ z, z = W.alloc (.cells #[.int .i64 s, .int .i64 p, .int .i64 tt, .int .i64 r, .int .i64 c, .int .i64 q] 23) := ⟨_, rfl⟩
  have fw0 : Fr none_ W w0 := by rw [hw0]; exact (Fr.refl none_ W).alloc _
  have BL : Hid (Blk w0 W.heap.size 23 (#[.int .i64 s, .int .i64 p, .int .i64 tt, .int .i64 r, .int .i64 c, .int .i64 q])) := hid_ (by rw [hw0]; exact Blk.new W _ _)
  replace F := hid_ (F.out.then_none fw0)
  change Code.wp _ _ _ _ (W.alloc (.cells #[.int .i64 s, .int .i64 p, .int .i64 tt, .int .i64 r, .int .i64 c, .int .i64 q] 23))
  rw [← hw0]
  clear hw0 fw0
  have v0 : w0.cell? ⟨W.heap.size, 0, none⟩ = some (.int .i64 s) := BL.out.cell' rfl
  have v1 : w0.cell? ⟨W.heap.size, 1, none⟩ = some (.int .i64 p) := BL.out.cell' rfl
  have v2 : w0.cell? ⟨W.heap.size, 2, none⟩ = some (.int .i64 tt) := BL.out.cell' rfl
  have v3 : w0.cell? ⟨W.heap.size, 3, none⟩ = some (.int .i64 r) := BL.out.cell' rfl
  have v4 : w0.cell? ⟨W.heap.size, 4, none⟩ = some (.int .i64 c) := BL.out.cell' rfl
  have v5 : w0.cell? ⟨W.heap.size, 5, none⟩ = some (.int .i64 q) := BL.out.cell' rfl
  go_wp2_with fail
  refine (few12_ok s p tt r c q A n cap L0 T tn tc _ (HJ.out.keep F.out) hn htn).mono ?_
  rintro e w1 ⟨⟨b, rfl, hb⟩, hf1⟩
  have HB := hid_ hb
  clear hb v0 v1 v2 v3 v4 v5
  replace F := hid_ (F.out.then_none hf1)
  replace BL := hid_ (BL.out.fr hf1 id)
  clear hf1
  cases b with
  | false =>
    go_wp2_with fail
    refine (awake12 _).mono ?_
    rintro e w9 ⟨rfl, hf9⟩
    have F9 := hid_ (F.out.then_none hf9)
    clear hf9
    go_wp2_with fail
    go_ret
    exact ⟨rfl, F9.out⟩
  | true =>
    have hfo := HB.out rfl
    obtain ⟨hn6, ht150, hR, hjs⟩ := hfo
    have HJS := hid_ hjs
    have hss : ∃ sn : Nat, s = (sn : Int) := ⟨s.toNat, by omega⟩
    have hpp : ∃ pn : Nat, p = (pn : Int) := ⟨p.toNat, by omega⟩
    obtain ⟨sn, rfl⟩ := hss
    obtain ⟨pn, rfl⟩ := hpp
    obtain ⟨l1, l2, l3, l4, l5, l6, l7, l8, l9, l10, l11, l12⟩ := hR
    have HLR := hid_ (show Lm.Right ⟨sn, pn, tt, r, c, q⟩ from ⟨⟨l1, Int.le_trans l2 (by decide)⟩, ⟨l3, Int.le_trans l4 (by decide)⟩, ⟨l5, l6⟩, ⟨l7, l8⟩, ⟨l9, l10⟩, ⟨l11, l12⟩⟩)
    clear l1 l2 l3 l4 l5 l6 l7 l8 l9 l10 l11 l12 hjs HB
    have v0 : w1.cell? ⟨W.heap.size, 0, none⟩ = some (.int .i64 (sn : Int)) := BL.out.cell' rfl
    have v1 : w1.cell? ⟨W.heap.size, 1, none⟩ = some (.int .i64 (pn : Int)) := BL.out.cell' rfl
    have v2 : w1.cell? ⟨W.heap.size, 2, none⟩ = some (.int .i64 tt) := BL.out.cell' rfl
    have v3 : w1.cell? ⟨W.heap.size, 3, none⟩ = some (.int .i64 r) := BL.out.cell' rfl
    have v4 : w1.cell? ⟨W.heap.size, 4, none⟩ = some (.int .i64 c) := BL.out.cell' rfl
    have v5 : w1.cell? ⟨W.heap.size, 5, none⟩ = some (.int .i64 q) := BL.out.cell' rfl
    go_wp2_with fail
    refine (memNew_ok ⟨sn, pn, tt, r, c, q⟩ _ HLR.out).mono ?_
    rintro e w2 ⟨m, a, G, vr, ve, Tb, H, C, M, rfl, hM, hf2, hm⟩
    have MM := hid_ hM
    have HM := hid_ (show ∀ b, mall m (newSt a G vr ve Tb H C M ⟨sn, pn, tt, r, c, q⟩) b → W.heap.size ≤ b from fun b hb => Nat.le_trans F.out.size (mall_ge hm b hb))
    replace F := hid_ (F.out.then_none hf2)
    replace BL := hid_ (BL.out.fr hf2 id)
    clear hM hf2 hm v0 v1 v2 v3 v4 v5 BL
    go_wp2_with fail
    refine (memHead_any m 0 _ _ _ MM.out (by decide) (by decide) 0).mono ?_
    rintro e w3 ⟨s0, g0, cc, v, rfl, hH, hev, hM3, hf3⟩
    obtain ⟨rfl, rfl, rfl⟩ := hH.used (i := 0) rfl rfl
    obtain rfl := hev.zero
    replace MM := hid_ hM3
    replace F := hid_ (F.out.trans (S'' := none_) hf3 (fun _ _ => id) (fun g hg e => by have := HM.out g e; omega))
    clear hH hev hM3 hf3
    go_upto_region 8 with fail
    obtain ⟨w4, hw4⟩ : ∃ z, z = w3.alloc (.cells #[.int .i64 1, .int .i64 1] 34) := ⟨_, rfl⟩
    have fw4 : Fr none_ w3 w4 := by rw [hw4]; exact (Fr.refl none_ w3).alloc _
    have BH : Hid (Blk w4 w3.heap.size 34 (#[.int .i64 1, .int .i64 1])) := hid_ (by rw [hw4]; exact Blk.new w3 _ _)
    replace F := hid_ (F.out.then_none fw4)
    replace MM := hid_ (MM.out.keep fw4)
    change Code.wp _ _ _ _ (w3.alloc (.cells #[.int .i64 1, .int .i64 1] 34))
    rw [← hw4]
    clear hw4 fw4
    go_upto_region 9 with fail
    have HCA := hid_ F.out.size
    obtain ⟨w5, hw5⟩ : ∃ z, z = w4.alloc (.cells #[.int .i64 0] 3) := ⟨_, rfl⟩
    have fw5 : Fr none_ w4 w5 := by rw [hw5]; exact (Fr.refl none_ w4).alloc _
    have BC : Hid (Blk w5 w4.heap.size 3 (#[.int .i64 0])) := hid_ (by rw [hw5]; exact Blk.new w4 _ _)
    replace F := hid_ (F.out.then_none fw5)
    replace MM := hid_ (MM.out.keep fw5)
    replace BH := hid_ (BH.out.fr fw5 id)
    change Code.wp _ _ _ _ (w4.alloc (.cells #[.int .i64 0] 3))
    rw [← hw5]
    clear hw5 fw5
    have HW45 := hid_ (show W.heap.size ≤ w5.heap.size from F.out.size)
    have BHN := hid_ (show w3.heap.size ≠ w4.heap.size from Blk.ne_ BH.out BC.out (by decide))
    have MA := hid_ (show Many W w5 m (0 + 1) ⟨sn, pn, tt, r, c, q⟩ (newSt a G vr ve Tb H C M ⟨sn, pn, tt, r, c, q⟩) w4.heap.size 0 [] from ⟨MM.out, by decide, by decide, HM.out, BC.out.cell' rfl, ⟨_, BC.out⟩, fun z hz => (by cases hz), fun j1 j2 z1 z2 h1 => (by simp at h1)⟩)
    have PF0 := hid_ (show PF (newSt a G vr ve Tb H C M ⟨sn, pn, tt, r, c, q⟩) [] from ⟨fun D hD => (by cases hD), ⟨1, 1, ⟨⟨_, rfl, rfl⟩, rfl⟩, fun _ D hD => (by cases hD)⟩, fun i j Di Dj h1 => (by simp at h1)⟩)
    clear MM BC
    obtain ⟨x0, hx0⟩ : ∃ x0, x0 = newSt a G vr ve Tb H C M ⟨sn, pn, tt, r, c, q⟩ := ⟨_, rfl⟩
    obtain ⟨lm, hlm⟩ : ∃ lm : Lm, lm = ⟨sn, pn, tt, r, c, q⟩ := ⟨_, rfl⟩
    rw [← hlm] at MA HM PF0 hx0
    rw [← hx0] at MA HM PF0
    clear hx0 hlm HLR
    go_wp2_with fail
    go_loopw [11, 46] (fun v u wr => ∃ (k : Nat) (L : List In1) (c1 : Int), k ≤ n ∧ u = .int .i64 k ∧ L.length = k ∧ Fst W wr m (0 + 1) lm x0 w4.heap.size c1 w5.heap.size v L ∧ Fr (only w4.heap.size) w5 wr) (fun _ u _ => n - (intOf u).toNat)
    case atStart => exact ⟨0, [], 0, Nat.zero_le _, rfl, rfl, ⟨F.out, MA.out, PF0.out, World.ownsRow_nil _ _ _ _⟩, Fr.refl _ _⟩
    case round =>
      obtain ⟨k, L, c1, hk, rfl, hLl, hS, hF5⟩ := hrel
      have S := hid_ hS
      have F5 := hid_ hF5
      have HLl := hid_ hLl
      clear hS hF5 hLl
      have hi0 : (0 : Int) ≤ (k : Int) := Int.natCast_nonneg _
      by_cases hlt : k < n
      · have hi1 : (k : Int) < (n : Int) := by omega
        as_aux_lemma =>
          obtain ⟨⟨J, y⟩, hy⟩ : ∃ z, L0[k]? = some z := ⟨_, List.getElem?_eq_getElem (by have := HJ.out.1; omega)⟩
          obtain ⟨b, off, rfl, hb, hR, hJ⟩ := HJ.out.at_ hy
          have HR := hid_ (show wr.rangeAt b (off + k * 21) (jobB J y).toList from fun j v hv => cellFr (hR j v hv) S.out.f)
          have HJr := hid_ hJ
          have HSm := hid_ (HJS.out _ (List.mem_of_getElem? hy))
          have BHr := hid_ (BH.out.fr F5.out (only_ne (show w3.heap.size ≠ w4.heap.size from BHN.out)))
          clear hR hJ hy hb
          go_upto_region 12 with (first | (refine wpList_load_mid rfl 46 (.tmp 48) rfl b (off + k * 21) rfl (jobB J y).toList _ HR.out Try.underlying46 rfl jb_size ?_) | (refine wpList_store_mid rfl 46 (.tmp 14) (.tmp 49) rfl wr.heap.size 0 (jobB J y) rfl rfl (new_there wr _ jobZ) jb_size (by simp [Value.oneCell']) ?_; obtain ⟨w6, hw6⟩ : ∃ z, z = (wr.alloc (.cells jobZ 46)).setCells wr.heap.size 0 (jobB J y).toList := ⟨_, rfl⟩; change wpList _ _ _ _ _ ((wr.alloc (.cells jobZ 46)).setCells wr.heap.size 0 (jobB J y).toList); rw [← hw6]; have P1 : Hid (Blk w6 wr.heap.size 46 (jobB J y) ∧ Fr none_ wr w6) := hid_ (by rw [hw6]; exact new_copy wr _ jobZ (jobB J y).toList rfl); clear hw6))
          have S6 := hid_ (S.out.keep P1.out.2)
          have F6 := hid_ (F5.out.then_none P1.out.2)
          have BH6 := hid_ (BHr.out.fr P1.out.2 id)
          have hh0 : w6.cell? ⟨w3.heap.size, 0, none⟩ = some (.int .i64 1) := BH6.out.cell' rfl
          have hh1 : w6.cell? ⟨w3.heap.size, 1, none⟩ = some (.int .i64 1) := BH6.out.cell' rfl
          have z0 : ∃ u, w6.cell? ⟨wr.heap.size, 0, none⟩ = some u := ⟨_, P1.out.1.cell' rfl⟩
          obtain ⟨u0, z0⟩ := z0
          have z1 : ∃ u, w6.cell? ⟨wr.heap.size, 1, none⟩ = some u := ⟨_, P1.out.1.cell' rfl⟩
          obtain ⟨u1, z1⟩ := z1
          have z2 : ∃ u, w6.cell? ⟨wr.heap.size, 2, none⟩ = some u := ⟨_, P1.out.1.cell' rfl⟩
          obtain ⟨u2, z2⟩ := z2
          have y0 := P1.out.1.frozen 0
          have y1 := P1.out.1.frozen 1
          have y2 := P1.out.1.frozen 2
          have hne : ¬ only wr.heap.size w3.heap.size := only_ne (Nat.ne_of_lt BHr.out.lt)
          have hS0 : (fun w' : World => Fr (only wr.heap.size) w6 w') w6.drew := (Fr.refl _ w6).drew
          refine wp_region_U (m := 5) (S := fun w' : World => Fr (only wr.heap.size) w6 w') (by kernel_rfl) ?_
          refine wpAnyU_take2 (i := 0) (v := _) rfl (by kernel_rfl) (by kernel_rfl) (by kernel_rfl) (by kernel_rfl) (fun _ _ _ h => h) (.inl ⟨by kernel_rfl, fun w' hS => by have s_0 := cellFrS hh0 hS hne; have s_1 := cellFrS hh1 hS hne; go_simp; rfl⟩) hS0 ?_
          refine wpAnyU_take2 (i := 1) (v := _) rfl (by kernel_rfl) (by kernel_rfl) (by kernel_rfl) (by kernel_rfl) (fun _ _ _ h => h) (.inl ⟨by kernel_rfl, fun w' hS => by go_simp; rfl⟩) hS0 ?_
          refine wpAnyU_oneW (i := 2) rfl (by kernel_rfl) (by kernel_rfl) ?_
          go_simp
          obtain ⟨w7, hw7⟩ : ∃ z, z = (w6.setCell ⟨wr.heap.size, 0, none⟩ (.int .i64 0)).drew := ⟨_, rfl⟩
          have f7 : Fr (only wr.heap.size) w6 w7 := by rw [hw7]; exact (Fr.only1 w6 ⟨wr.heap.size, 0, none⟩ _).drew
          have B7 := hid_ (show Blk w7 wr.heap.size 46 (jobB (jobHd J 0 J.os J.og) y) by rw [hw7]; exact (P1.out.1.set_ 0 (.int .i64 0)).drew)
          rw [← hw7]
          refine ⟨f7, ?_⟩
          clear hw7 hS0 z0 z1 z2 y0 y1 y2 hh0 hh1
          have z1 : w7.cell? ⟨wr.heap.size, 1, none⟩ = some (.int .i64 J.os) := B7.out.cell' rfl
          have z2 : w7.cell? ⟨wr.heap.size, 2, none⟩ = some (.int .i64 J.og) := B7.out.cell' rfl
          have y1 := B7.out.frozen 1
          have y2 := B7.out.frozen 2
          refine wpAnyU_take2 (i := 3) (v := _) rfl (by kernel_rfl) (by kernel_rfl) (by kernel_rfl) (by kernel_rfl) (fun _ _ _ h => h) (.inl ⟨by kernel_rfl, fun w' hS => by go_simp; rfl⟩) f7 ?_
          refine wpAnyU_oneW (i := 4) rfl (by kernel_rfl) (by kernel_rfl) ?_
          go_simp
          obtain ⟨w8, hw8⟩ : ∃ z, z = (w7.setCell ⟨wr.heap.size, 1, none⟩ (.int .i64 1)).setCell ⟨wr.heap.size, 2, none⟩ (.int .i64 1) := ⟨_, rfl⟩
          have f8 : Fr (only wr.heap.size) w6 w8 := by rw [hw8]; exact (f7.trans (Fr.only1 _ ⟨wr.heap.size, 1, none⟩ _) (fun _ _ => id) (fun _ _ => id)).trans (Fr.only1 _ ⟨wr.heap.size, 2, none⟩ _) (fun _ _ => id) (fun _ _ => id)
          have B8 := hid_ (show Blk w8 wr.heap.size 46 (jobB (jobHd J 0 1 1) y) by rw [hw8]; exact (B7.out.set_ 1 (.int .i64 1)).set_ 2 (.int .i64 1))
          rw [← hw8]
          refine ⟨f8, ?_⟩
          clear hw8 z1 z2 y1 y2 B7
          refine wpAnyU_done (by kernel_rfl) ?_ _
          have S8 := hid_ (S.out.keep (P1.out.2.then_only f8 (.inr (Nat.le_refl _))))
          have F8 := hid_ (F5.out.then_only (P1.out.2.then_only f8 (.inr (Nat.le_refl _)) |>.mono (S' := only w4.heap.size) (fun _ _ e => e.elim)) (.inl rfl))
          have HSZ := hid_ (show W.heap.size ≤ w8.heap.size from S8.out.f.size)
          clear S6 F6 BH6 f7 f8 hne P1
          obtain ⟨J2, hJ2⟩ : ∃ J2, J2 = jobHd J 0 1 1 := ⟨_, rfl⟩
          rw [← hJ2] at B8
          have HJ2 := hid_ hJ2
          have HJr2 := hid_ (show JobRaw W J2 y by rw [hJ2]; exact HJr.out.hd_ 0 1 1)
          have HSm2 := hid_ (show JSm J2 y by rw [hJ2]; exact HSm.out.hd_ 0 1 1)
          clear hJ2
          as_aux_lemma =>
            have HR8 := hid_ (show w8.rangeAt wr.heap.size 0 (jobB J2 y).toList from B8.out.range (fun j v hv => by simpa using hv))
            go_wp2_with (refine wpList_load_mid rfl 46 (.tmp 14) rfl wr.heap.size 0 rfl (jobB J2 y).toList _ HR8.out Try.underlying46 rfl jb_size ?_)
            refine (job_ok _ J2 _ _ _ w4.heap.size 0).mono ?_
            rintro e w9 ⟨jb, cb, rfl, hjb, hcb, hf9⟩
            have S9 := hid_ (S8.out.keep hf9)
            have F9 := hid_ (F8.out.then_none hf9)
            have JA := hid_ (show JobAt W w9 J2 (yq y jb cb w4.heap.size) from ⟨{ (JobRaw.rd HJr2.out HSm2.out) with }, S9.out.f, hjb, hcb, HCA.out⟩)
            clear hjb hcb hf9 HR8
            go_wp2_with fail
            refine (begJ (q := yq y jb cb w4.heap.size) JA.out c1 S9.out.M.cc S9.out.M.cb (HJr2.out.rows HSm2.out)).mono ?_
            rintro e w10 ⟨i, a10, rfl, hI, hmv, hcc, hcb, hf10⟩
            have cabl := S9.out.M.cb.elim fun cs hb => hb.lt
            have hsz9 := hf10.size
            have EI := hid_ (show InOk W w10 w4.heap.size ⟨i, w9.heap.size, begD J2, a10, J2, yq y jb cb w4.heap.size⟩ from
              ⟨hI, (begD_ok J2).1, JA.out.fr hf10 (fun b e => by rw [show b = w4.heap.size from e]; exact HCA.out) (fun b t cs e hb => by
                obtain ⟨cs2, hb2⟩ := S9.out.M.cb
                have e2 : b = w4.heap.size := e
                subst e2
                obtain ⟨rfl, _⟩ := hb.uniq hb2
                decide), hmv, (begD_ok J2).2.1, HJr2.out.rows HSm2.out, fun e => (by have := hI.foot_le e; omega), S9.out.f.size, hsz9, rfl, rfl⟩)
            have MA10 := hid_ (S9.out.M.add EI.out hf10 hcc hcb (fun g hg => hI.foot_le hg) HCA.out)
            have PF10 := hid_ (S9.out.P.add (begD_first J2 (by rw [HJ2.out]; exact ⟨rfl, rfl, rfl⟩)) (begD_ok J2).1 (begD_ok J2).2.2.2.2.2.2.2.2)
            have OW10 := hid_ (own_fr S9.out.o hf10 (fun g hg e => by
              obtain ⟨cs2, hb2⟩ := S9.out.M.cb
              exact own_blk_ne S9.out.o hb2 (by decide) (by rw [hg, show g = w4.heap.size from e])))
            have FW10 := hid_ (S9.out.f.trans (S'' := none_) hf10 (fun _ _ => id) (fun g hg e => by have := HCA.out; have e2 : g = w4.heap.size := e; omega))
            have F10 := hid_ (F9.out.trans hf10 (fun _ _ => id) (fun _ _ => id))
            obtain ⟨oA, oc, rfl⟩ := S9.out.o.shape
            clear hI hmv hcc hcb hf10 cabl hsz9 EI
            obtain ⟨w11, hw11⟩ : ∃ z, z = w10.alloc (.cells #[.pointer (some ⟨i, 0, none⟩)] 47) := ⟨_, rfl⟩
            have f11 : Fr none_ w10 w11 := by rw [hw11]; exact (Fr.refl none_ w10).alloc _
            have PB := hid_ (show Blk w11 w10.heap.size 47 #[.pointer (some ⟨i, 0, none⟩)] by rw [hw11]; exact Blk.new w10 _ _)
            have OW11 := hid_ (own_none OW10.out f11)
            have HLk := hid_ (show L.length ≤ 6 by have := HLl.out; omega)
            have HS11 := hid_ (show w5.heap.size ≤ w11.heap.size from (F10.out.then_none f11).size)
            have hlk6 := HLk.out
            go_wp2_with (at_builtin; refine wpList_append_any _ rfl (.tmp 53) (.tmp 57) 37 rfl w5.heap.size 47 j0 _ 1 8 Try.underlying37 Hj.out.1 Hj.out.2.1 Hj.out.2.2.1 Hj.out.2.2.2 rfl (by omega) (.slice oA L.length oc) L.length (ptF (L.map (·.i))) rfl (by rw [← hw11]; exact OW11.out) (some ⟨w10.heap.size, 0, none⟩) 1 1 [.pointer (some ⟨i, 0, none⟩)] rfl (by rw [← hw11]; exact reads_blk9 PB.out) (by simp [Value.oneCell']) (by simp only [maxLen]; omega) (by omega) (by rw [← hw11]; exact HS11.out) ?_; intro A12 c12 w12 hown hgr; rw [← hw11] at hgr)
            have fg : Fr (fun g => (Value.slice oA L.length oc).ownBlock = some g) w11 w12 := (Fr.refl _ w11).grown hgr (fun g hg => .inl hg)
            have hbl : ∀ g, (Value.slice oA L.length oc).ownBlock = some g → w5.heap.size ≤ g := fun g hg => (own_blk OW11.out hg).1
            have hw45 := HW45.out
            have NX := hid_ (show Fst W w12 m (0 + 1) lm x0 w4.heap.size _ w5.heap.size (.slice A12 (L.length + 1) c12) (L ++ [⟨i, w9.heap.size, begD J2, a10, J2, yq y jb cb w4.heap.size⟩]) from
              ⟨(FW10.out.then_none f11).trans (S'' := none_) fg (fun _ _ => id) (fun g hg e => by have := hbl g e; omega),
               (MA10.out.keep f11).ptr fg (fun g hg => (own_blk OW11.out hg).2) (fun g hg => by have := hbl g hg; omega),
               by rw [List.map_append]; exact PF10.out,
               by rw [List.length_append, List.map_append]; simpa [ptF] using hown⟩)
            have NF := hid_ (show Fr (only w4.heap.size) w5 w12 from (F10.out.then_none f11).trans fg (fun _ _ => id) (fun g hg e => by have := hbl g e; omega))
            clear hown hgr fg hbl hw11 f11 hlk6 hw45
            go_wp2_with fail
            go_roundw
            case rel => exact ⟨k + 1, _, _, by omega, by go_num, by rw [List.length_append, HLl.out]; rfl, NX.out, NF.out⟩
            case measure => simp [intOf]; omega
      · obtain rfl : k = n := by omega
        obtain ⟨oA, oc, rfl⟩ := S.out.o.shape
        have hll := HLl.out
        rw [hll] at S ⊢
        clear BH F5
        go_wp2_with fail
        go_loopw [62] (fun u wr2 => ∃ (j : Nat) (L2 : List In1) (x2 : St) (c2 kk : Int), j ≤ tn ∧ u = .int .i64 j ∧ L2.length = k ∧ kk ≤ 1 + j ∧ 0 ≤ kk ∧ Fst W wr2 m kk lm x2 w4.heap.size c2 w5.heap.size (.slice oA k oc) L2) (fun u _ => tn - (intOf u).toNat)
        case atStart => exact ⟨0, L, x0, c1, 1, Nat.zero_le _, rfl, HLl.out, by omega, by omega, S.out⟩
        case round =>
          obtain ⟨j, L2, x2, c2, kk, hj, rfl, hL2, hkk, hkk0, hS2⟩ := hrel
          have S2 := hid_ hS2
          have HL2 := hid_ hL2
          have HKK := hid_ (And.intro hkk hkk0)
          clear hS2 hL2 hkk hkk0
          have hj0 : (0 : Int) ≤ (j : Int) := Int.natCast_nonneg _
          by_cases hjt : j < tn
          · have hj1 : (j : Int) < (tn : Int) := by omega
            obtain ⟨b, off, xx, rfl, hb, hxx, hx0, hx1⟩ := HT.out j hjt
            have ux : wr.cell? ⟨b, off + j, none⟩ = some (.int .u8 xx) := cellFr hxx S2.out.f
            clear hb hxx
            by_cases hk0 : k = 0
            · have hkd1 : decide ((0 : Int) < (k : Int)) = false := by simp; omega
              have hkd2 : decide (0 < k) = false := by simp; omega
              go_wp2_with fail
              go_roundw
              case rel => exact ⟨j + 1, L2, x2, c2, kk, by omega, by go_num, HL2.out, by have := HKK.out; omega, HKK.out.2, S2.out⟩
              case measure => simp [intOf]; omega
            · have hkd1 : decide ((0 : Int) < (k : Int)) = true := by simp; omega
              have hkd2 : decide (0 < k) = true := by simp; omega
              have hkne : (k : Int) ≠ 0 := by omega
              have hqex : ∃ qn : Nat, xx.tmod (k : Int) = (qn : Int) ∧ qn < k := ⟨(xx % (k : Int)).toNat, by rw [Int.tmod_eq_emod_of_nonneg hx0]; have := Int.emod_nonneg xx hkne; omega, by have := Int.emod_nonneg xx hkne; have := Int.emod_lt_of_pos xx (show (0 : Int) < (k : Int) by omega); omega⟩
              obtain ⟨qn, hmod, hqk⟩ := hqex
              have hq0 : (0 : Int) ≤ (qn : Int) := Int.natCast_nonneg _
              have hq1 : (qn : Int) < (k : Int) := by omega
              have hwq : IntKind.i64.wrap (qn : Int) = (qn : Int) := IntWalk.i64_in _ (by omega)
              have hwx : IntKind.i64.wrap xx = xx := IntWalk.i64_in _ (by omega)
              obtain ⟨z, hz⟩ : ∃ z, L2[qn]? = some z := ⟨_, List.getElem?_eq_getElem (by rw [HL2.out]; exact hqk)⟩
              have hown := S2.out.o
              rw [HL2.out] at hown
              obtain ⟨g, rfl, hg, hcell⟩ := own_pt hown (k := qn) (i := z.i) (by rw [List.getElem?_map, hz]; rfl)
              have EN := hid_ (S2.out.M.env (List.mem_of_getElem? hz))
              have HZZ := hid_ hz
              have HKt := hid_ (show kk + 1 ≤ 100000 by have := HKK.out; omega)
              clear hown hg hz hqk
              by_cases h7 : z.D.stage = 7
              · have S7 := hid_ h7
                clear h7
                go_wp2_with fail
                refine (step_over _ EN.out.I S7.out).mono ?_
                rintro e w13 ⟨rfl, rfl⟩
                go_wp2_with fail
                go_roundw
                case rel => exact ⟨j + 1, L2, x2, c2, kk, by omega, by go_num, HL2.out, by have := HKK.out; omega, HKK.out.2, S2.out⟩
                case measure => simp [intOf]; omega
              · have S7 := hid_ h7
                clear h7
                go_wp2_with fail
                refine (step_any EN.out S7.out).mono ?_
                rintro e w13 ⟨D', x', a', c', rfl, hSR, hC, hBh⟩
                have NX := hid_ (S2.out.upd HZZ.out (EN.out.next hSR hBh HKt.out) hBh.f hBh.fl (S2.out.P.step (by rw [List.getElem?_map, HZZ.out]; rfl) hSR))
                clear hSR hC hBh
                go_wp2_with fail
                go_roundw
                case rel => exact ⟨j + 1, _, x', c', kk + 1, by omega, by go_num, by rw [List.length_set]; exact HL2.out, by have := HKK.out; omega, by have := HKK.out; omega, NX.out⟩
                case measure => simp [intOf]; omega
          · obtain rfl : j = tn := by omega
            clear hll
            have HK3 := hid_ (show kk ≤ 200 by have := HKK.out; omega)
            go_wp2_with fail
            go_loopw [17, 82] (fun d u wr2 => ∃ (y : Nat) (L3 : List In1) (x3 : St) (c3 k3 : Int) (dn : Int), y ≤ k ∧ u = .int .i64 y ∧ d = .int .i64 dn ∧ (dn = 0 ∨ dn = 1) ∧ L3.length = k ∧ k3 ≤ 200 + 24 * y ∧ 0 ≤ k3 ∧ Fst W wr2 m k3 lm x3 w4.heap.size c3 w5.heap.size (.slice oA k oc) L3 ∧ (dn = 1 → ∃ (y1 : Nat) (z1 : In1), y1 < y ∧ L3[y1]? = some z1 ∧ z1.D.done = true) ∧ (dn = 0 → ∀ (y1 : Nat) (z1 : In1), y1 < y → L3[y1]? = some z1 → z1.D.done = false)) (fun _ u _ => k - (intOf u).toNat)
            case atStart => exact ⟨0, L2, x2, c2, kk, 0, Nat.zero_le _, rfl, rfl, .inl rfl, HL2.out, by have := HK3.out; omega, HKK.out.2, S2.out, fun e => (by omega), fun _ y1 z1 h => (by omega)⟩
            case round =>
              obtain ⟨y, L3, x3, c3, k3, dn, hy, rfl, rfl, hdn, hL3, hk3, hk30, hS3, hd1, hd2⟩ := hrel
              have HDN := hid_ hdn
              have S3 := hid_ hS3
              have HL3 := hid_ hL3
              have HK4 := hid_ (And.intro hk3 hk30)
              have HD := hid_ (And.intro hd1 hd2)
              clear hS3 hL3 hk3 hk30 hd1 hd2 hdn
              have hy0 : (0 : Int) ≤ (y : Int) := Int.natCast_nonneg _
              by_cases hyk : y < k
              · have hy1 : (y : Int) < (k : Int) := by omega
                obtain ⟨z, hz⟩ : ∃ z, L3[y]? = some z := ⟨_, List.getElem?_eq_getElem (by rw [HL3.out]; exact hyk)⟩
                have hown := S3.out.o
                rw [HL3.out] at hown
                obtain ⟨g, rfl, hg, hcell⟩ := own_pt hown (k := y) (i := z.i) (by rw [List.getElem?_map, hz]; rfl)
                have EN := hid_ (S3.out.M.env (List.mem_of_getElem? hz))
                have HZZ := hid_ hz
                clear hown hg hz
                go_wp2_with fail
                refine (runs_ok EN.out (by have := HK4.out; omega)).mono ?_
                rintro e w13 ⟨nr, zz, D', x', a', c', rfl, hs7, hz24, hR⟩
                have NX := hid_ (S3.out.upd HZZ.out hR.e hR.f hR.fl (PF.steps hR.s S3.out.P (by rw [List.getElem?_map, HZZ.out]; rfl)))
                have S7 := hid_ hs7
                have EI := hid_ hR.e
                clear hs7 hR
                go_wp2_with fail
                refine (done_ok EI.out.I S7.out).mono ?_
                rintro e w14 ⟨rfl, hf14⟩
                replace NX := hid_ (NX.out.keep hf14)
                clear hf14
                have hgl := (List.getElem?_eq_some_iff.1 HZZ.out).1
                have HGY := hid_ (show (L3.set y { z with D := D', a := a' })[y]? = some { z with D := D', a := a' } from List.getElem?_set_self hgl)
                clear hgl
                obtain ⟨dd, hdd⟩ : ∃ dd, dd = D'.done := ⟨_, rfl⟩
                rw [← hdd]
                have HDD := hid_ hdd
                clear hdd
                cases dd with
                | false =>
                  go_wp2_with fail
                  go_roundw
                  case rel =>
                    refine ⟨y + 1, _, x', c', _, dn, by omega, by go_num, rfl, HDN.out, by rw [List.length_set]; exact HL3.out, by have := HK4.out; omega, by have := HK4.out; omega, NX.out, fun e => ?_, fun e y1 z1 h1 h2 => ?_⟩
                    · obtain ⟨y1, z1, h1, h2, h3⟩ := HD.out.1 e
                      exact ⟨y1, z1, by omega, by rw [List.getElem?_set_ne (by omega)]; exact h2, h3⟩
                    · rcases Nat.lt_or_ge y1 y with h3 | h3
                      · rw [List.getElem?_set_ne (by omega)] at h2
                        exact HD.out.2 e y1 z1 h3 h2
                      · obtain rfl : y1 = y := by omega
                        rw [HGY.out] at h2
                        obtain rfl := Option.some.inj h2
                        exact HDD.out.symm
                  case measure => simp [intOf]; omega
                | true =>
                  have hdn : dn = 0 := by
                    rcases HDN.out with e | e
                    · exact e
                    · obtain ⟨y1, z1, h1, h2, h3⟩ := HD.out.1 e
                      have e1 : ((L3.set y { z with D := D', a := a' }).map (·.D))[y1]? = some z1.D := by rw [List.getElem?_map, List.getElem?_set_ne (by omega), h2]; rfl
                      have e2 : ((L3.set y { z with D := D', a := a' }).map (·.D))[y]? = some D' := by rw [List.getElem?_map, HGY.out]; rfl
                      have := NX.out.P.one y1 y _ _ e1 e2 h3 HDD.out.symm
                      omega
                  subst hdn
                  go_wp2_with fail
                  go_roundw
                  case rel =>
                    exact ⟨y + 1, _, x', c', _, 1, by omega, by go_num, by first | rfl | go_num, .inr rfl, by rw [List.length_set]; exact HL3.out, by have := HK4.out; omega, by have := HK4.out; omega, NX.out, fun _ => ⟨y, _, by omega, HGY.out, HDD.out.symm⟩, fun e => (by omega)⟩
                  case measure => simp [intOf]; omega
              · obtain rfl : y = k := by omega
                have hle : decide (dn ≤ 1) = true := by have := HDN.out; simp; omega
                go_wp2_with fail
                refine (awake12 _).mono ?_
                rintro e w15 ⟨rfl, hf15⟩
                have F15 := hid_ (S3.out.f.then_none hf15)
                clear hf15
                go_wp2_with fail
                go_ret
                exact ⟨rfl, F15.out⟩
theorem first12_walk_i {H : Type} {enc : TypeId × Value → H} (s p tt r c q : Int) (A : Option Addr) (n cap : Nat) (hc : n ≤ cap) (hm : cap ≤ maxLen) (T : Option Addr) (tn tc : Nat) (hc2 : tn ≤ tc) (hm2 : tc ≤ maxLen) (W : World) (hJ : Job12At enc W A n) (hT : Bytes12 W T tn) :
    Calls Try.prog 3 #[.agg #[.int .i64 s, .int .i64 p, .int .i64 tt, .int .i64 r, .int .i64 c, .int .i64 q], .slice A n cap, .slice T tn tc] W fun e w' => e = .returned (.bool true) ∧ Fr none_ W w' := by
  obtain ⟨L, hL⟩ := jobs_in hJ
  exact first12_walk s p tt r c q A n cap L T tn tc W hL (Nat.le_trans hc hm) hT (Nat.le_trans hc2 hm2)
end Go.Proofs.Ythcpccddcgbanaa

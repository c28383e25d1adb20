/- An installer's access where a new page's record is put. Written by gen_ins7.py. -/
import Derived.Test.YthcpccddcgbanaaFwdC12
namespace Go.Proofs.Ythcpccddcgbanaa
open Go.RowKit
set_option maxRecDepth 100000
set_option linter.unusedVariables false

theorem Inst.setAt {w : World} {B i : Nat} {D : Dt} {a : Ia} (h : Inst w B i D a) (s : Int) : Inst (w.setCell ⟨i, 24, none⟩ (.int .i64 s)) B i { D with at_ := s } a ∧ Fr (only i) w (w.setCell ⟨i, 24, none⟩ (.int .i64 s)) := by
  have f1 := Fr.only1 w ⟨i, 24, none⟩ (.int .i64 s)
  exact ⟨h.reb f1 (h.b.set_ 24 _) ⟨rfl, rfl, rfl, rfl⟩ ⟨rfl, rfl, rfl, rfl, rfl, rfl⟩ (h.e.only f1 h.b (by decide)), f1⟩
theorem Inst.base_at {w : World} {B i : Nat} {D : Dt} {a : Ia} (h : Inst w B i D a) {j : Nat} {R : Rc} (hj : D.bases[j]? = some R) : ∃ (g c : Nat) (C : Cr), a.bv = .slice (some ⟨g, 0, none⟩) D.bases.length c ∧ D.bases.length ≤ c ∧ a.Cs[j]? = some C ∧ C.R = R ∧ w.rangeAt g (j * 15) (crA C).toList := by
  have hl : a.Cs.length = D.bases.length := by have := congrArg List.length h.cs; simpa using this
  have hjl : j < a.Cs.length := by rw [hl]; exact (List.getElem?_eq_some_iff.1 hj).1
  obtain ⟨C, hC⟩ : ∃ C, a.Cs[j]? = some C := ⟨_, List.getElem?_eq_getElem hjl⟩
  have hR : C.R = R := by
    rw [← h.cs, List.getElem?_map, hC] at hj
    exact Option.some.inj hj
  obtain ⟨A', c', e, hcap, _, hp⟩ := own_parts h.bs
  obtain ⟨g, hg, hlt, hcell⟩ := hp (by omega)
  exact ⟨g, c', C, by rw [e, hg, hl], by omega, hC, hR, fun z v hv => hcell (j * 15 + z) v (crFlat_get a.Cs j C hC z v hv)⟩
theorem Env.nofoot {W w : World} {m : Nat} {k : Int} {l : Lm} {x : St} {B i : Nat} {D : Dt} {a : Ia} {J : Jd} {q : Jl} {c0 : Int} (h : Env W w m k l x B i D a J q c0) : ∀ g, foot i a g → ¬ mall m x g := fun g hg => by
  obtain ⟨t, cs, hb, ht⟩ := h.I.foot_blk hg
  refine h.M.mall_ty hb ?_
  rcases ht with rfl | rfl | rfl | rfl <;> decide
def Fwd1 (W : World) (m : Nat) (k : Int) (l : Lm) (x : St) (B i : Nat) (D : Dt) (a : Ia) (J : Jd) (q : Jl) (c0 : Int) (R : Rc) (w : World) (e : Ending) (w' : World) : Prop :=
  ∃ sl gn kk ss' a', e = .returned (.bool ((putB D kk sl gn).stage == 7)) ∧ AllocR l.n x.ss R sl gn kk ss' ∧ Behind W w m k l x { x with ss := ss' } B i (putB D kk sl gn) a a' J q c0 w'
set_option maxHeartbeats 8000000 in
theorem fwd1 {W w : World} {m : Nat} {k : Int} {l : Lm} {x : St} {B i : Nat} {D : Dt} {a : Ia} {J : Jd} {q : Jl} {c0 : Int} (h : Env W w m k l x B i D a J q c0) (hs : D.stage = 1) {j : Nat} (hat : D.at_ = (j : Int)) {R : Rc} (hR : D.bases[j]? = some R) :
    Calls Try.prog 44 #[.pointer (some ⟨i, 0, none⟩), .pointer (some ⟨m, 0, none⟩)] w (Fwd1 W m k l x B i D a J q c0 R w) := by
  have hs1 := h.d.s1 hs
  obtain ⟨gb, cb, C, hbv, hcap, hC, rfl, hrow⟩ := h.I.base_at hR
  have hjl : j < D.bases.length := (List.getElem?_eq_some_iff.1 hR).1
  have H := hid_ h
  have hb4 : D.bases.length ≤ 4 := h.I.zp.2.1
  have i5 : w.cell? ⟨i, 5, none⟩ = some (.int .i64 1) := by rw [← hs]; exact h.I.b.cell' rfl
  have i7 : w.cell? ⟨i, 7, none⟩ = some (.slice (some ⟨gb, 0, none⟩) D.bases.length cb) := by rw [← hbv]; exact h.I.b.cell' rfl
  have i24 : w.cell? ⟨i, 24, none⟩ = some (.int .i64 (j : Int)) := by rw [← hat]; exact h.I.b.cell' rfl
  have HR := hid_ hrow
  have HO := hid_ (h.I.bo C (List.mem_of_getElem? hC))
  have HZ := hid_ (show RowsOk C.R from h.I.zb C.R (by rw [← h.I.cs]; exact List.mem_map.2 ⟨C, List.mem_of_getElem? hC, rfl⟩))
  have S1 := hid_ (And.intro hs (And.intro hat hs1))
  have hi0 : (0 : Int) ≤ (j : Int) := Int.natCast_nonneg _
  have hi1 : (j : Int) < (D.bases.length : Int) := by omega
  have h4r : D.refs.length ≤ 4 := by omega
  clear h hs hs1 hrow hC hR hbv
  go_enter Try.func44, Try.ntmps44
  go_upto_region 15 with fail
  have hS0 : (fun w' : World => Fr none_ w w') w.drew := (Fr.refl _ w).drew
  refine wp_region_U (m := 12) (S := fun w' : World => Fr none_ w w') (by kernel_rfl) ?_
  refine wpAnyU_take2 (i := 0) (v := _) rfl (by kernel_rfl) (by kernel_rfl) (by kernel_rfl) (by kernel_rfl) (fun _ _ _ h => h) (.inl ⟨by kernel_rfl, fun w' hS => by go_simp; rfl⟩) hS0 ?_
  refine wpAnyU_take2 (i := 1) (v := _) rfl (by kernel_rfl) (by kernel_rfl) (by kernel_rfl) (by kernel_rfl) (fun _ _ _ h => h) (.inl ⟨by kernel_rfl, fun w' hS => by go_simp; rfl⟩) hS0 ?_
  refine wpAnyU_take2 (i := 2) (v := _) rfl (by kernel_rfl) (by kernel_rfl) (by kernel_rfl) (by kernel_rfl) (fun _ _ _ h => h) (.inl ⟨by kernel_rfl, fun w' hS => by go_simp; rfl⟩) hS0 ?_
  refine wpAnyU_take2 (i := 3) (v := _) rfl (by kernel_rfl) (by kernel_rfl) (by kernel_rfl) (by kernel_rfl) (fun _ _ _ h => h) (.inl ⟨by kernel_rfl, fun w' hS => by go_simp; rfl⟩) hS0 ?_
  refine wpAnyU_take2 (i := 4) (v := _) rfl (by kernel_rfl) (by kernel_rfl) (by kernel_rfl) (by kernel_rfl) (fun _ _ _ h => h) (.inl ⟨by kernel_rfl, fun w' hS => by go_simp; rfl⟩) hS0 ?_
  refine wpAnyU_take2 (i := 5) (v := _) rfl (by kernel_rfl) (by kernel_rfl) (by kernel_rfl) (by kernel_rfl) (fun _ _ _ h => h) (.inl ⟨by kernel_rfl, fun w' hS => by have s_ := cellFr i7 hS; go_simp; rfl⟩) hS0 ?_
  refine wpAnyU_take2 (i := 6) (v := _) rfl (by kernel_rfl) (by kernel_rfl) (by kernel_rfl) (by kernel_rfl) (fun _ _ _ h => h) (.inl ⟨by kernel_rfl, fun w' hS => by go_simp; rfl⟩) hS0 ?_
  refine wpAnyU_take2 (i := 7) (v := _) rfl (by kernel_rfl) (by kernel_rfl) (by kernel_rfl) (by kernel_rfl) (fun _ _ _ h => h) (.inl ⟨by kernel_rfl, fun w' hS => by go_simp; rfl⟩) hS0 ?_
  refine wpAnyU_take2 (i := 8) (v := _) rfl (by kernel_rfl) (by kernel_rfl) (by kernel_rfl) (by kernel_rfl) (fun _ _ _ h => h) (.inl ⟨by kernel_rfl, fun w' hS => by go_simp; rfl⟩) hS0 ?_
  refine wpAnyU_take2 (i := 9) (v := _) rfl (by kernel_rfl) (by kernel_rfl) (by kernel_rfl) (by kernel_rfl) (fun _ _ _ h => h) (.inl ⟨by kernel_rfl, fun w' hS => by have s_ := cellFr i24 hS; go_simp; rfl⟩) hS0 ?_
  refine wpAnyU_take2 (i := 10) (v := _) rfl (by kernel_rfl) (by kernel_rfl) (by kernel_rfl) (by kernel_rfl) (fun _ _ _ h => h) (.inl ⟨by kernel_rfl, fun w' hS => by go_simp; rfl⟩) hS0 ?_
  refine wpAnyU_take2 (i := 11) (v := .agg (crA C).toList.toArray) rfl (by kernel_rfl) (by kernel_rfl) (by kernel_rfl) (by kernel_rfl) (fun _ _ _ h => h) (yieldsIf_load_mid (by kernel_rfl) 44 (.tmp 90) rfl gb (j * 15) (by kernel_rfl) (crA C).toList _ (fun w' hS z v hv => cellFr (HR.out z v hv) hS) Try.underlying44 rfl rec_size) hS0 ?_
  refine wpAnyU_oneW (i := 12) rfl (by kernel_rfl) (by kernel_rfl) ?_
  go_simp
  clear i5 i7 i24 hS0
  refine (put_ok (H.out.I.keep (Fr.refl none_ w).drew) (H.out.M.keep (Fr.refl none_ w).drew) H.out.k0 H.out.k1 C.R C.A C.c C.B C.d (HO.out.keep (Fr.refl none_ w).drew) HZ.out h4r H.out.hB).mono ?_
  rintro e w1 ⟨sl, gn, kk, ss', v, a', rfl, hA, hev, hM1, hI1, hf1, hfl, hsm⟩
  have RA := hid_ hA
  have EV := hid_ hev
  have M1 := hid_ hM1
  have I1 := hid_ hI1
  have F1 := hid_ (show Fr (mf m x i a) w w1 from ((Fr.refl _ w).drew).trans hf1 (fun _ _ => id) (fun _ _ => id))
  have FL := hid_ (show FootLe i a a' w from hfl)
  have SM := hid_ hsm
  clear hA hev hM1 hI1 hf1 hfl hsm
  refine wpAnyU_oneW (i := 13) rfl (by kernel_rfl) (by kernel_rfl) ?_
  go_simp
  refine wpAnyU_done (by kernel_rfl) ?_ _
  rcases EV.out.nil_iff with ⟨rfl, rfl⟩ | ⟨hkk, b, rfl⟩
  rotate_left
  · have HK := hid_ hkk
    clear hkk
    replace I1 := hid_ (show Inst w1 B i D a' from (by have hq := I1.out; rwa [show putD D kk sl gn = D from if_neg HK.out] at hq))
    go_wp2_with fail
    refine (undo_ok _ kk I1.out EV.out.er).mono ?_
    rintro e w3 ⟨rfl, hI3, hf3⟩
    have I3 := hid_ (And.intro hI3 hf3)
    clear hI3 hf3
    go_wp2_with fail
    go_ret
    have ef : putB D kk sl gn = undoD D kk := if_neg HK.out
    refine ⟨sl, gn, kk, ss', { a' with ev := .iface 120 (.pointer (some ⟨b, 0, none⟩)) }, by rw [ef]; rfl, RA.out, ?_⟩
    rw [ef]
    exact H.out.behind I3.out.1 (M1.out.ty I3.out.2 I1.out.only_off) SM.out.2.2.2.1 (mf_tr F1.out (mf_i I3.out.2)) FL.out ⟨rfl, rfl, rfl, rfl, rfl, rfl⟩
  replace I1 := hid_ (show Inst w1 B i { D with refs := D.refs ++ [(sl, gn)] } a' from (by have hq := I1.out; rwa [show putD D 0 sl gn = { D with refs := D.refs ++ [(sl, gn)] } from if_pos rfl] at hq))
  have i24 : w1.cell? ⟨i, 24, none⟩ = some (.int .i64 (j : Int)) := by rw [← S1.out.2.1]; exact I1.out.b.cell' rfl
  have y24 := I1.out.b.frozen 24
  have hwj : IntKind.i64.wrap ((j : Int) + 1) = (j : Int) + 1 := IntWalk.i64_in _ (by omega)
  have I2 := hid_ (I1.out.setAt ((j : Int) + 1))
  have M2 := hid_ (M1.out.ty I2.out.2 I1.out.only_off)
  have F2 := hid_ (mf_tr F1.out (mf_i I2.out.2))
  go_upto_region 18 with fail
  obtain ⟨w2, hw2⟩ : ∃ z, z = w1.setCell ⟨i, 24, none⟩ (.int .i64 ((j : Int) + 1)) := ⟨_, rfl⟩
  rw [← hw2] at I2 M2 F2
  change Code.wp _ _ _ _ (w1.setCell ⟨i, 24, none⟩ (.int .i64 ((j : Int) + 1)))
  rw [← hw2]
  clear hw2 i24 y24 hwj
  have i24 : w2.cell? ⟨i, 24, none⟩ = some (.int .i64 ((j : Int) + 1)) := I2.out.1.b.cell' rfl
  obtain ⟨_, _, _, _, A5, c5, _, _, e5⟩ := I2.out.1.shapes
  have i7 : w2.cell? ⟨i, 7, none⟩ = some (.slice A5 D.bases.length c5) := by rw [← e5]; exact I2.out.1.b.cell' rfl
  clear e5
  by_cases hq : j + 1 = D.bases.length
  · have HQ := hid_ hq
    have hq2 : ((j : Int) + 1 == (D.bases.length : Int)) = true := by simp; omega
    clear hq hi1
    have i5 : ∃ u, w2.cell? ⟨i, 5, none⟩ = some u := ⟨_, I2.out.1.b.cell' rfl⟩
    obtain ⟨u5, i5⟩ := i5
    have y5 := I2.out.1.b.frozen 5
    have y24 := I2.out.1.b.frozen 24
    go_quiet (fail)
    go_wp2_with fail
    have hd := (Fr.refl none_ w2).drewN nq
    have I3 := ((I2.out.1.keep hd).setStage 2).1.setAt 0
    have f3 : Fr (only i) w2 (((w2.drewN nq).setCell ⟨i, 5, none⟩ (.int .i64 2)).setCell ⟨i, 24, none⟩ (.int .i64 0)) := (((Fr.refl (only i) w2).drewN nq).trans ((I2.out.1.keep hd).setStage 2).2 (fun _ _ => id) (fun _ _ => id)).trans I3.2 (fun _ _ => id) (fun _ _ => id)
    have I4 := hid_ I3.1
    have M4 := hid_ (M2.out.ty f3 I2.out.1.only_off)
    have F4 := hid_ (mf_tr F2.out (mf_i f3))
    clear I3 f3 hd i5 u5 y5 y24 i24 i7
    refine (over_ok I4.out).mono ?_
    rintro e w6 ⟨rfl, rfl⟩
    go_wp2_with fail
    go_ret
    have ef : putB D 0 sl gn = { D with refs := D.refs ++ [(sl, gn)], stage := 2, at_ := 0 } := by unfold putB; rw [if_pos rfl, if_pos (by rw [S1.out.2.1]; have := HQ.out; omega)]
    refine ⟨sl, gn, 0, ss', a', by rw [ef]; rfl, RA.out, ?_⟩
    rw [ef]
    exact H.out.behind I4.out M4.out SM.out.2.2.2.1 F4.out FL.out ⟨rfl, rfl, rfl, rfl, rfl, rfl⟩
  · have HQ := hid_ hq
    have hq2 : ((j : Int) + 1 == (D.bases.length : Int)) = false := by simp; omega
    clear hq hi1
    go_quiet (fail)
    go_wp2_with fail
    have hd := (Fr.refl none_ w2).drewN nq
    have I4 := hid_ (I2.out.1.keep hd)
    have M4 := hid_ (M2.out.keep hd)
    have F4 := hid_ (F2.out.then_none hd)
    clear hd i24 i7
    refine (over_ok I4.out).mono ?_
    rintro e w6 ⟨rfl, rfl⟩
    go_wp2_with fail
    go_ret
    have ef : putB D 0 sl gn = { D with refs := D.refs ++ [(sl, gn)], at_ := (j : Int) + 1 } := by unfold putB; rw [if_pos rfl, if_neg (by rw [S1.out.2.1]; have := HQ.out; omega), S1.out.2.1]
    refine ⟨sl, gn, 0, ss', a', by rw [ef]; rfl, RA.out, ?_⟩
    rw [ef]
    exact H.out.behind I4.out M4.out SM.out.2.2.2.1 F4.out FL.out ⟨rfl, rfl, rfl, rfl, rfl, rfl⟩
end Go.Proofs.Ythcpccddcgbanaa

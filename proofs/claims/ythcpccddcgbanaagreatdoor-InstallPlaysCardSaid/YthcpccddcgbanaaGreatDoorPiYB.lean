/- Texts of one proof, merged: FwdE12. -/
import Derived.Test.YthcpccddcgbanaaGreatDoorPiYA
namespace Go.Proofs.YthcpccddcgbanaaGreatDoor
open Go.RowKit
set_option maxRecDepth 100000
set_option linter.unusedVariables false

theorem Inst.page_at {w:World} {B i:Nat} {D:Dt} {a:Ia} (h:Inst w B i D a) {j:Nat} {p:Int} (hj:D.pages[j]?=some p):∃ (g c:Nat),a.pv=.slice (some ⟨g,0,none⟩) D.pages.length c∧D.pages.length≤c∧w.cell? ⟨g,j,none⟩=some (.int .i64 p):=by
  have hjl:=(List.getElem?_eq_some_iff.1 hj).1
  obtain ⟨A',c',e,hcap,_,hp⟩:=own_parts h.p
  obtain ⟨g,hg,hlt,hcell⟩:=hp (by omega)
  exact ⟨g,c',by rw [e,hg],hcap,hcell j _ (intF_get _ _ _ hj)⟩
theorem Inst.ref_at {w:World} {B i:Nat} {D:Dt} {a:Ia} (h:Inst w B i D a) {j:Nat} {p:Int × Int} (hj:D.refs[j]?=some p):∃ (g c:Nat),a.rv=.slice (some ⟨g,0,none⟩) D.refs.length c∧D.refs.length≤c∧w.cell? ⟨g,j * 2,none⟩=some (.int .i64 p.1)∧w.cell? ⟨g,j * 2+1,none⟩=some (.int .i64 p.2):=by
  have hjl:=(List.getElem?_eq_some_iff.1 hj).1
  obtain ⟨A',c',e,hcap,_,hp⟩:=own_parts h.r
  obtain ⟨g,hg,hlt,hcell⟩:=hp (by omega)
  exact ⟨g,c',by rw [e,hg],hcap,hcell _ _ (rf9_get _ _ _ hj).1,hcell _ _ (rf9_get _ _ _ hj).2⟩
def Fwd2 (W:World) (m:Nat) (k:Int) (l:Lm) (x:St) (B i:Nat) (D:Dt) (a:Ia) (J:Jd) (q:Jl) (c0:Int) (p s g:Int) (w:World) (e:Ending) (w':World):Prop:=
  ∃ ok c ps' a',e=.returned (.bool ((linkD D ok c).stage==7))∧SwapR x.ps p 0 0 s g ok c ps'∧Behind W w m k l x { x with ps:=ps' } B i (linkD D ok c) a a' J q c0 w'
set_option maxHeartbeats 8000000 in
theorem fwd2 {W w:World} {m:Nat} {k:Int} {l:Lm} {x:St} {B i:Nat} {D:Dt} {a:Ia} {J:Jd} {q:Jl} {c0:Int} (h:Env W w m k l x B i D a J q c0) (hs:D.stage=2) {j:Nat} (hat:D.at_=(j:Int)) {p s g:Int} (hp:D.pages[j]?=some p) (hr:D.refs[j]?=some (s,g)) :
  Calls Tryz.prog 42 #[.pointer (some ⟨i,0,none⟩),.pointer (some ⟨m,0,none⟩)] w (Fwd2 W m k l x B i D a J q c0 p s g w):=by
 have hs2:=h.d.s2 hs
 obtain ⟨gp,cp,hpv,hcp,g0⟩:=h.I.page_at hp
 obtain ⟨gr,cr,hrv,hcr,r0,r1⟩:=h.I.ref_at hr
 have hpl:j < D.pages.length:=(List.getElem?_eq_some_iff.1 hp).1
 have hrl:j < D.refs.length:=(List.getElem?_eq_some_iff.1 hr).1
 have H:=hid_ h
 have i5:w.cell? ⟨i,5,none⟩=some (.int .i64 2):=by rw [← hs];exact h.I.b.cell' rfl
 have i6:w.cell? ⟨i,6,none⟩=some (.slice (some ⟨gp,0,none⟩) D.pages.length cp):=by rw [← hpv];exact h.I.b.cell' rfl
 have i23:w.cell? ⟨i,23,none⟩=some (.slice (some ⟨gr,0,none⟩) D.refs.length cr):=by rw [← hrv];exact h.I.b.cell' rfl
 have i24:w.cell? ⟨i,24,none⟩=some (.int .i64 (j:Int)):=by rw [← hat];exact h.I.b.cell' rfl
 have hi0:(0:Int)≤(j:Int):=Int.natCast_nonneg _
 have hi1:(j:Int) < (D.pages.length:Int):=by omega
 have hi2:(j:Int) < (D.refs.length:Int):=by omega
 have S2:=hid_ (And.intro hs (And.intro hat hs2))
 have h4p:=h.d.lp
 have nI:¬ mall m x i∧¬ mall m x gp∧¬ mall m x gr:=⟨h.nofoot i (.inl rfl),h.nofoot gp (.inr (.inl (by rw [hpv];rfl))),h.nofoot gr (.inr (.inr (.inr (by rw [hrv];rfl))))⟩
 clear h hs hs2 hp hr hpv hrv
 go_enter Tryz.func42,Tryz.ntmps42
 go_upto_region 21 with fail
 have hS0:(fun w':World=>Fr (mall m x) w w') w.drew:=(Fr.refl _ w).drew
 refine wp_region_U (m:=28) (S:=fun w':World=>Fr (mall m x) w w') (by kernel_rfl) ?_
 refine wpAnyU_take2 (i:=0) (v:=_) rfl (by kernel_rfl) (by kernel_rfl) (by kernel_rfl) (by kernel_rfl) (fun _ _ _ h=>h) (.inl ⟨by kernel_rfl,fun w' hS=>by go_simp;rfl⟩) hS0 ?_
 refine wpAnyU_take2 (i:=1) (v:=_) rfl (by kernel_rfl) (by kernel_rfl) (by kernel_rfl) (by kernel_rfl) (fun _ _ _ h=>h) (.inl ⟨by kernel_rfl,fun w' hS=>by go_simp;rfl⟩) hS0 ?_
 refine wpAnyU_take2 (i:=2) (v:=_) rfl (by kernel_rfl) (by kernel_rfl) (by kernel_rfl) (by kernel_rfl) (fun _ _ _ h=>h) (.inl ⟨by kernel_rfl,fun w' hS=>by go_simp;rfl⟩) hS0 ?_
 refine wpAnyU_take2 (i:=3) (v:=_) rfl (by kernel_rfl) (by kernel_rfl) (by kernel_rfl) (by kernel_rfl) (fun _ _ _ h=>h) (.inl ⟨by kernel_rfl,fun w' hS=>by go_simp;rfl⟩) hS0 ?_
 refine wpAnyU_take2 (i:=4) (v:=_) rfl (by kernel_rfl) (by kernel_rfl) (by kernel_rfl) (by kernel_rfl) (fun _ _ _ h=>h) (.inl ⟨by kernel_rfl,fun w' hS=>by have s_:=cellFrS i6 hS nI.1;go_simp;rfl⟩) hS0 ?_
 refine wpAnyU_take2 (i:=5) (v:=_) rfl (by kernel_rfl) (by kernel_rfl) (by kernel_rfl) (by kernel_rfl) (fun _ _ _ h=>h) (.inl ⟨by kernel_rfl,fun w' hS=>by go_simp;rfl⟩) hS0 ?_
 refine wpAnyU_take2 (i:=6) (v:=_) rfl (by kernel_rfl) (by kernel_rfl) (by kernel_rfl) (by kernel_rfl) (fun _ _ _ h=>h) (.inl ⟨by kernel_rfl,fun w' hS=>by go_simp;rfl⟩) hS0 ?_
 refine wpAnyU_take2 (i:=7) (v:=_) rfl (by kernel_rfl) (by kernel_rfl) (by kernel_rfl) (by kernel_rfl) (fun _ _ _ h=>h) (.inl ⟨by kernel_rfl,fun w' hS=>by go_simp;rfl⟩) hS0 ?_
 refine wpAnyU_take2 (i:=8) (v:=_) rfl (by kernel_rfl) (by kernel_rfl) (by kernel_rfl) (by kernel_rfl) (fun _ _ _ h=>h) (.inl ⟨by kernel_rfl,fun w' hS=>by have s_:=cellFrS i24 hS nI.1;go_simp;rfl⟩) hS0 ?_
 refine wpAnyU_take2 (i:=9) (v:=_) rfl (by kernel_rfl) (by kernel_rfl) (by kernel_rfl) (by kernel_rfl) (fun _ _ _ h=>h) (.inl ⟨by kernel_rfl,fun w' hS=>by go_simp;rfl⟩) hS0 ?_
 refine wpAnyU_take2 (i:=10) (v:=_) rfl (by kernel_rfl) (by kernel_rfl) (by kernel_rfl) (by kernel_rfl) (fun _ _ _ h=>h) (.inl ⟨by kernel_rfl,fun w' hS=>by have s_:=cellFrS g0 hS nI.2.1;go_simp;rfl⟩) hS0 ?_
 refine wpAnyU_take2 (i:=11) (v:=_) rfl (by kernel_rfl) (by kernel_rfl) (by kernel_rfl) (by kernel_rfl) (fun _ _ _ h=>h) (.inl ⟨by kernel_rfl,fun w' hS=>by go_simp;rfl⟩) hS0 ?_
 refine wpAnyU_take2 (i:=12) (v:=_) rfl (by kernel_rfl) (by kernel_rfl) (by kernel_rfl) (by kernel_rfl) (fun _ _ _ h=>h) (.inl ⟨by kernel_rfl,fun w' hS=>by go_simp;rfl⟩) hS0 ?_
 refine wpAnyU_take2 (i:=13) (v:=_) rfl (by kernel_rfl) (by kernel_rfl) (by kernel_rfl) (by kernel_rfl) (fun _ _ _ h=>h) (.inl ⟨by kernel_rfl,fun w' hS=>by go_simp;rfl⟩) hS0 ?_
 refine wpAnyU_take2 (i:=14) (v:=_) rfl (by kernel_rfl) (by kernel_rfl) (by kernel_rfl) (by kernel_rfl) (fun _ _ _ h=>h) (.inl ⟨by kernel_rfl,fun w' hS=>by go_simp;rfl⟩) hS0 ?_
 refine wpAnyU_take2 (i:=15) (v:=_) rfl (by kernel_rfl) (by kernel_rfl) (by kernel_rfl) (by kernel_rfl) (fun _ _ _ h=>h) (.inl ⟨by kernel_rfl,fun w' hS=>by have s_:=cellFrS i23 hS nI.1;go_simp;rfl⟩) hS0 ?_
 refine wpAnyU_take2 (i:=16) (v:=_) rfl (by kernel_rfl) (by kernel_rfl) (by kernel_rfl) (by kernel_rfl) (fun _ _ _ h=>h) (.inl ⟨by kernel_rfl,fun w' hS=>by go_simp;rfl⟩) hS0 ?_
 refine wpAnyU_take2 (i:=17) (v:=_) rfl (by kernel_rfl) (by kernel_rfl) (by kernel_rfl) (by kernel_rfl) (fun _ _ _ h=>h) (.inl ⟨by kernel_rfl,fun w' hS=>by go_simp;rfl⟩) hS0 ?_
 refine wpAnyU_take2 (i:=18) (v:=_) rfl (by kernel_rfl) (by kernel_rfl) (by kernel_rfl) (by kernel_rfl) (fun _ _ _ h=>h) (.inl ⟨by kernel_rfl,fun w' hS=>by go_simp;rfl⟩) hS0 ?_
 refine wpAnyU_take2 (i:=19) (v:=_) rfl (by kernel_rfl) (by kernel_rfl) (by kernel_rfl) (by kernel_rfl) (fun _ _ _ h=>h) (.inl ⟨by kernel_rfl,fun w' hS=>by have s_:=cellFrS i24 hS nI.1;go_simp;rfl⟩) hS0 ?_
 refine wpAnyU_take2 (i:=20) (v:=_) rfl (by kernel_rfl) (by kernel_rfl) (by kernel_rfl) (by kernel_rfl) (fun _ _ _ h=>h) (.inl ⟨by kernel_rfl,fun w' hS=>by go_simp;rfl⟩) hS0 ?_
 refine wpAnyU_take2 (i:=21) (v:=_) rfl (by kernel_rfl) (by kernel_rfl) (by kernel_rfl) (by kernel_rfl) (fun _ _ _ h=>h) (.inl ⟨by kernel_rfl,fun w' hS=>by have s_0:=cellFrS r0 hS nI.2.2;have s_1:=cellFrS r1 hS nI.2.2;go_simp;rfl⟩) hS0 ?_
 clear i5 i6 i23 i24 g0 r0 r1
 refine wpAnyU_oneW (i:=22) rfl (by kernel_rfl) (by kernel_rfl) ?_
 go_simp
 refine (memSwap_any m k l x _ (H.out.M.keep (Fr.refl none_ w).drew) H.out.k0 H.out.k1 p 0 0 s g).mono ?_
 rintro e w1 ⟨ok,c,ps',v,rfl,hR,hev,hM1,hf1⟩
 have R1:=hid_ hR
 have EV:=hid_ hev
 have M1:=hid_ hM1
 have fS:Fr (mall m x) w w1:=(Fr.refl (mall m x) w).drew.trans hf1 (fun _ _=>id) (fun _ _=>id)
 have I1:=hid_ (H.out.I.mall H.out.M fS)
 refine ⟨fS,?_⟩
 clear hR hev hM1 hf1 hS0
 refine wpAnyU_take2 (i:=23) (v:=_) rfl (by kernel_rfl) (by kernel_rfl) (by kernel_rfl) (by kernel_rfl) (fun _ _ _ h=>h) (.inl ⟨by kernel_rfl,fun w' hS=>by go_simp;rfl⟩) fS ?_
 refine wpAnyU_take2 (i:=24) (v:=_) rfl (by kernel_rfl) (by kernel_rfl) (by kernel_rfl) (by kernel_rfl) (fun _ _ _ h=>h) (.inl ⟨by kernel_rfl,fun w' hS=>by go_simp;rfl⟩) fS ?_
 refine wpAnyU_take2 (i:=25) (v:=_) rfl (by kernel_rfl) (by kernel_rfl) (by kernel_rfl) (by kernel_rfl) (fun _ _ _ h=>h) (.inl ⟨by kernel_rfl,fun w' hS=>by go_simp;rfl⟩) fS ?_
 refine wpAnyU_take2 (i:=26) (v:=_) rfl (by kernel_rfl) (by kernel_rfl) (by kernel_rfl) (by kernel_rfl) (fun _ _ _ h=>h) (.inl ⟨by kernel_rfl,fun w' hS=>by go_simp;rfl⟩) fS ?_
 refine wpAnyU_take2 (i:=27) (v:=_) rfl (by kernel_rfl) (by kernel_rfl) (by kernel_rfl) (by kernel_rfl) (fun _ _ _ h=>h) (.inl ⟨by kernel_rfl,fun w' hS=>by go_simp;rfl⟩) fS ?_
 refine wpAnyU_done (by kernel_rfl) ?_ _
 have FS:=hid_ fS
 clear fS
 cases ok with
 | false =>
  have ef:linkD D false c=undoD D c:=if_neg (by simp)
  have EF:=hid_ ef
  clear ef
  rcases EV.out.nil_iff with ⟨rfl,rfl⟩ | ⟨hkk,b,rfl⟩
  ·go_wp2_with fail
   refine (undo_ok _ _ I1.out EV.out.er).mono ?_
   rintro e w3 ⟨rfl,hI3,hf3⟩
   have I3:=hid_ (And.intro hI3 hf3)
   clear hI3 hf3
   go_wp2_with fail
   go_ret
   refine ⟨false,0,ps',{ a with ev:=.nilIface },by rw [EF.out];rfl,R1.out,?_⟩
   rw [EF.out]
   exact H.out.behind I3.out.1 (M1.out.ty I3.out.2 I1.out.only_off) rfl (mf_tr (mf_m FS.out) (mf_i I3.out.2)) (FootLe.same w rfl rfl rfl) ⟨rfl,rfl,rfl,rfl,rfl,rfl⟩
  ·go_wp2_with fail
   refine (undo_ok _ _ I1.out EV.out.er).mono ?_
   rintro e w3 ⟨rfl,hI3,hf3⟩
   have I3:=hid_ (And.intro hI3 hf3)
   clear hI3 hf3
   go_wp2_with fail
   go_ret
   refine ⟨false,c,ps',{ a with ev:=.iface 188 (.pointer (some ⟨b,0,none⟩)) },by rw [EF.out];rfl,R1.out,?_⟩
   rw [EF.out]
   exact H.out.behind I3.out.1 (M1.out.ty I3.out.2 I1.out.only_off) rfl (mf_tr (mf_m FS.out) (mf_i I3.out.2)) (FootLe.same w rfl rfl rfl) ⟨rfl,rfl,rfl,rfl,rfl,rfl⟩
 | true =>
  obtain rfl:c=0:=by
   rcases Int.decEq c 0 with hc | hc
   ·exact absurd (R1.out.err hc) (by simp)
   ·exact hc
  obtain rfl:v=.nilIface:=by
   rcases EV.out.nil_iff with ⟨_,h⟩ | ⟨h,_⟩
   ·exact h
   ·exact absurd rfl h
  have i24:w1.cell? ⟨i,24,none⟩=some (.int .i64 (j:Int)):=by rw [← S2.out.2.1];exact I1.out.b.cell' rfl
  have y24:=I1.out.b.frozen 24
  have hwj:IntKind.i64.wrap ((j:Int)+1)=(j:Int)+1:=IntWalk.i64_in _ (by omega)
  have I2:=hid_ (I1.out.setAt ((j:Int)+1))
  have M2:=hid_ (M1.out.ty I2.out.2 I1.out.only_off)
  have F2:=hid_ (mf_tr (mf_m FS.out) (mf_i (a:=a) I2.out.2))
  go_upto_region 24 with fail
  obtain ⟨w2,hw2⟩:∃ z,z=w1.setCell ⟨i,24,none⟩ (.int .i64 ((j:Int)+1)):=⟨_,rfl⟩
  rw [← hw2] at I2 M2 F2
  change Code.wp _ _ _ _ (w1.setCell ⟨i,24,none⟩ (.int .i64 ((j:Int)+1)))
  rw [← hw2]
  clear hw2 i24 y24 hwj
  have i24:w2.cell? ⟨i,24,none⟩=some (.int .i64 ((j:Int)+1)):=I2.out.1.b.cell' rfl
  obtain ⟨A5,c5,_,_,_,_,e5,_,_⟩:=I2.out.1.shapes
  have i6:w2.cell? ⟨i,6,none⟩=some (.slice A5 D.pages.length c5):=by rw [← e5];exact I2.out.1.b.cell' rfl
  clear e5
  by_cases hq:j+1=D.pages.length
  ·have HQ:=hid_ hq
   have hq2:((j:Int)+1==(D.pages.length:Int))=true:=by simp;omega
   clear hq hi1
   have i5:∃ u,w2.cell? ⟨i,5,none⟩=some u:=⟨_,I2.out.1.b.cell' rfl⟩
   obtain ⟨u5,i5⟩:=i5
   have y5:=I2.out.1.b.frozen 5
   go_quiet (fail)
   go_wp2_with fail
   have hd:=(Fr.refl none_ w2).drewN nq
   have I3:=(I2.out.1.keep hd).setStage 3
   have f3:Fr (only i) w2 ((w2.drewN nq).setCell ⟨i,5,none⟩ (.int .i64 3)):=((Fr.refl (only i) w2).drewN nq).trans I3.2 (fun _ _=>id) (fun _ _=>id)
   have I4:=hid_ I3.1
   have M4:=hid_ (M2.out.ty f3 I2.out.1.only_off)
   have F4:=hid_ (mf_tr F2.out (mf_i f3))
   clear I3 f3 hd i5 u5 y5 i24 i6
   refine (over_ok I4.out).mono ?_
   rintro e w6 ⟨rfl,rfl⟩
   go_wp2_with fail
   go_ret
   have ef:linkD D true 0={ D with at_:=(j:Int)+1,stage:=3 }:=by unfold linkD;rw [if_pos rfl,if_pos (by rw [S2.out.2.1];have:=HQ.out;omega),S2.out.2.1]
   refine ⟨true,0,ps',a,by rw [ef];rfl,R1.out,?_⟩
   rw [ef]
   exact H.out.behind I4.out M4.out rfl F4.out (FootLe.refl _ _ _) ⟨rfl,rfl,rfl,rfl,rfl,rfl⟩
  ·have HQ:=hid_ hq
   have hq2:((j:Int)+1==(D.pages.length:Int))=false:=by simp;omega
   clear hq hi1
   go_quiet (fail)
   go_wp2_with fail
   have hd:=(Fr.refl none_ w2).drewN nq
   have I4:=hid_ (I2.out.1.keep hd)
   have M4:=hid_ (M2.out.keep hd)
   have F4:=hid_ (F2.out.then_none hd)
   clear hd i24 i6
   refine (over_ok I4.out).mono ?_
   rintro e w6 ⟨rfl,rfl⟩
   go_wp2_with fail
   go_ret
   have ef:linkD D true 0={ D with at_:=(j:Int)+1 }:=by unfold linkD;rw [if_pos rfl,if_neg (by rw [S2.out.2.1];have:=HQ.out;omega),S2.out.2.1]
   refine ⟨true,0,ps',a,by rw [ef];rfl,R1.out,?_⟩
   rw [ef]
   exact H.out.behind I4.out M4.out rfl F4.out (FootLe.refl _ _ _) ⟨rfl,rfl,rfl,rfl,rfl,rfl⟩
end Go.Proofs.YthcpccddcgbanaaGreatDoor

/- Texts of one proof, merged: FwdC12, FwdD12. -/
import Derived.Test.YthcpccddcgbanaaGreatDoorPiY
namespace Go.Proofs.YthcpccddcgbanaaGreatDoor
set_option maxRecDepth 100000
set_option linter.unusedVariables false
open Go.RowKit

def mfc (m:Nat) (x:St) (i:Nat) (a:Ia) (g:Nat):Nat→Prop:=fun k=>mall m x k∨foot i a k∨k=g
theorem mfc_mf {m g i:Nat} {x:St} {a:Ia} {w w':World} (h:Fr (mf m x i a) w w'):Fr (mfc m x i a g) w w':=h.mono (fun _ _ e=>e.elim .inl (fun e=>.inr (.inl e)))
theorem JobAt.mall {W w w':World} {J:Jd} {q:Jl} {m:Nat} {k:Int} {l:Lm} {x:St} (h:JobAt W w J q) (hM:Mm w m k l x) (hf:Fr (mall m x) w w') (hW:∀ b,mall m x b→W.heap.size≤b):JobAt W w' J q:=
  h.fr hf hW (fun b t cs hb hbb=>⟨fun e=>by subst e;exact hM.mall_ty hbb (by decide) hb,fun e=>by subst e;exact hM.mall_ty hbb (by decide) hb⟩)
theorem JobAt.foot {W w w':World} {J:Jd} {q:Jl} {B i:Nat} {D:Dt} {a:Ia} (h:JobAt W w J q) (hI:Inst w B i D a) (hf:Fr (foot i a) w w') (hW:W.heap.size≤B):JobAt W w' J q:=
  h.fr hf (fun b hb=>Nat.le_trans hW (hI.foot_le hb)) (fun b t cs hb hbb=>by
    obtain ⟨t',cs',hb',ht⟩:=hI.foot_blk hb
    obtain ⟨rfl,_⟩:=hbb.uniq hb'
    rcases ht with rfl | rfl | rfl | rfl <;> decide)
structure Env (W w:World) (m:Nat) (k:Int) (l:Lm) (x:St) (B i:Nat) (D:Dt) (a:Ia) (J:Jd) (q:Jl) (c0:Int):Prop where
  I:Inst w B i D a
  M:Mm w m k l x
  k0:0≤k
  k1:k≤100000
  d:DOk D
  j:JobAt W w J q
  mv:a.mv=jobF q.jb q.cb
  nw:D.news=J.news
  zJ:RowsOk J.head∧∀ R ∈ J.bases,RowsOk R
  cc:w.cell? ⟨q.cab,q.cao,none⟩=some (.int .i64 c0)
  cb:∃ cs:CS q,Blk w q.cab 3 cs.1
  off:¬ foot i a q.cab
  hW:∀ b,mall m x b→W.heap.size≤b
  hWB:W.heap.size≤B
  hB:B≤w.heap.size
theorem Env.fr {W w w':World} {m:Nat} {k:Int} {l:Lm} {x:St} {B i:Nat} {D:Dt} {a:Ia} {J:Jd} {q:Jl} {c0:Int} (h:Env W w m k l x B i D a J q c0) (hf:Fr none_ w w'):Env W w' m k l x B i D a J q c0:=
  ⟨h.I.keep hf,h.M.keep hf,h.k0,h.k1,h.d,h.j.keep hf,h.mv,h.nw,h.zJ,cellFr h.cc hf,h.cb.elim fun cs hb=>⟨cs,hb.fr hf id⟩,h.off,h.hW,h.hWB,Nat.le_trans h.hB hf.size⟩
structure Behind (W w:World) (m:Nat) (k:Int) (l:Lm) (x x':St) (B i:Nat) (D':Dt) (a a':Ia) (J:Jd) (q:Jl) (c':Int) (w':World):Prop where
  I:Inst w' B i D' a'
  M:Mm w' m (k+1) l x'
  mv:a'.mv=a.mv
  cc:w'.cell? ⟨q.cab,q.cao,none⟩=some (.int .i64 c')
  cb:∃ cs:CS q,Blk w' q.cab 3 cs.1
  f:Fr (mfc m x i a q.cab) w w'
  fl:FootLe i a a' w
  sm:x'.a=x.a∧x'.G=x.G∧x'.T=x.T∧x'.H=x.H∧x'.C=x.C∧x'.M=x.M
theorem Env.behind {W w w':World} {m:Nat} {k:Int} {l:Lm} {x x':St} {B i:Nat} {D D':Dt} {a a':Ia} {J:Jd} {q:Jl} {c0:Int} (h:Env W w m k l x B i D a J q c0) (hI:Inst w' B i D' a') (hM:Mm w' m (k+1) l x') (hmv:a'.mv=a.mv) (hf:Fr (mf m x i a) w w') (hfl:FootLe i a a' w) (hsm:x'.a=x.a∧x'.G=x.G∧x'.T=x.T∧x'.H=x.H∧x'.C=x.C∧x'.M=x.M):Behind W w m k l x x' B i D' a a' J q c0 w':=by
  obtain ⟨cs,hb⟩:=h.cb
  have ho:¬ mf m x i a q.cab:=fun e=>e.elim (h.M.mall_ty hb (by decide)) h.off
  exact ⟨hI,hM,hmv,cellFrS h.cc hf ho,⟨cs,hb.fr hf ho⟩,mfc_mf hf,hfl,hsm⟩
def takeC (D:Dt) (c c0:Int):Int:=if c=0∧(D.pages.length:Int)+1=D.news then wrap64 (c0+1) else c0
def Fwd0 (W:World) (m:Nat) (k:Int) (l:Lm) (x:St) (B i:Nat) (D:Dt) (a:Ia) (J:Jd) (q:Jl) (c0:Int) (w:World) (e:Ending) (w':World):Prop:=
  ∃ p c ps' a',e=.returned (.bool ((takeD J D p c).stage==7))∧TakeR x.ps p c ps'∧Behind W w m k l x { x with ps:=ps' } B i (takeD J D p c) a a' J q (takeC D c c0) w'
set_option maxHeartbeats 8000000 in
theorem fwd0 {W w:World} {m:Nat} {k:Int} {l:Lm} {x:St} {B i:Nat} {D:Dt} {a:Ia} {J:Jd} {q:Jl} {c0:Int} (h:Env W w m k l x B i D a J q c0) (hs:D.stage=0) :
  Calls Tryz.prog 42 #[.pointer (some ⟨i,0,none⟩),.pointer (some ⟨m,0,none⟩)] w (Fwd0 W m k l x B i D a J q c0 w):=by
 obtain ⟨j0,hj0,hy0,ht0,hc0⟩:=info_parts (show (Tryz.prog.info? 3).map (fun i=>(i.zero,i.size,i.bytes))=some (some (.int .i64 0),1,8) by kernel_rfl)
 have Hj:=hid_ (And.intro hj0 (And.intro hy0 (And.intro ht0 hc0)))
 have hs0:=h.d.s0 hs
 have H:=hid_ h
 have S0:=hid_ (And.intro hs hs0)
 have i5:w.cell? ⟨i,5,none⟩=some (.int .i64 0):=by rw [← hs];exact h.I.b.cell' rfl
 clear hj0 hy0 ht0 hc0 h hs hs0
 go_enter Tryz.func42,Tryz.ntmps42
 go_wp2_with fail
 refine (memTake_any m k l x _ H.out.M H.out.k0 H.out.k1).mono ?_
 rintro e w1 ⟨n,c,ps',v,rfl,hT,hev,hM1,hf1⟩
 have RT:=hid_ hT
 have EV:=hid_ hev
 have M1:=hid_ hM1
 have F1:=hid_ hf1
 have I1:=hid_ (H.out.I.mall H.out.M hf1)
 have J1:=hid_ (H.out.j.mall H.out.M hf1 H.out.hW)
 have CM:=hid_ (show ¬ mall m x q.cab from H.out.cb.elim fun cs hb=>H.out.M.mall_ty hb (by decide))
 clear hT hev hM1 hf1 i5
 rcases EV.out.nil_iff with ⟨rfl,rfl⟩ | ⟨hkk,b,rfl⟩
 rotate_left
 ·have HK:=hid_ hkk
  clear hkk
  go_wp2_with fail
  refine (undo_ok _ c I1.out EV.out.er).mono ?_
  rintro e w3 ⟨rfl,hI3,hf3⟩
  have I3:=hid_ (And.intro hI3 hf3)
  clear hI3 hf3
  go_wp2_with fail
  go_ret
  have ef:takeD J D n c=undoD D c:=if_neg HK.out
  have ec:takeC D c c0=c0:=if_neg (fun e=>HK.out e.1)
  refine ⟨n,c,ps',{ a with ev:=.iface 188 (.pointer (some ⟨b,0,none⟩)) },by rw [ef];rfl,RT.out,?_⟩
  rw [ef,ec]
  exact H.out.behind I3.out.1 (M1.out.ty I3.out.2 I1.out.only_off) rfl (mf_tr (mf_m F1.out) (mf_i I3.out.2)) (FootLe.same w rfl rfl rfl) ⟨rfl,rfl,rfl,rfl,rfl,rfl⟩
 obtain ⟨Ap,cp,A2,c2,A3,c3,e1,e2,e3⟩:=I1.out.shapes
 have E1:=hid_ e1
 have i6:w1.cell? ⟨i,6,none⟩=some (.slice Ap D.pages.length cp):=by rw [← e1];exact I1.out.b.cell' rfl
 clear e1 e2 e3
 have hlp:=H.out.d.lp
 obtain ⟨w2,hw2⟩:∃ z,z=w1.alloc (.cells #[.int .i64 n] 3):=⟨_,rfl⟩
 have f2:Fr none_ w1 w2:=by rw [hw2];exact (Fr.refl none_ w1).alloc _
 have PB:Hid (Blk w2 w1.heap.size 3 #[.int .i64 n]):=hid_ (by rw [hw2];exact Blk.new w1 _ _)
 have I2:=hid_ (I1.out.keep f2)
 have M2:=hid_ (M1.out.keep f2)
 have J2:=hid_ (J1.out.keep f2)
 have F2:=hid_ (F1.out.then_none f2)
 have hB2:B≤w2.heap.size:=Nat.le_trans H.out.hB F2.out.size
 clear f2
 go_upto_region 12 with (at_builtin;refine wpList_append_at _ rfl (.tmp 59) (.tmp 61) 39 rfl B 3 j0 _ 1 8 Tryz.underlying39 Hj.out.1 Hj.out.2.1 Hj.out.2.2.1 Hj.out.2.2.2 rfl (by omega) (.slice Ap D.pages.length cp) D.pages.length (intF D.pages) rfl (by rw [← hw2,← E1.out];exact I2.out.p) (some ⟨w1.heap.size,0,none⟩) 1 1 [.int .i64 n] rfl (by rw [← hw2];exact reads_blk9 PB.out) (by simp [Value.oneCell']) (by simp only [maxLen];omega) (by omega) (by rw [← hw2];exact hB2) ?_;intro v' w3 hown hgr hat;rw [← hw2,← E1.out] at hgr;rw [← hw2,← E1.out] at hat;have hB3:=I2.out.b.grown hgr (Ne.symm (own_blk_ne I2.out.p I2.out.b (by decide)));have i6:∃ u,w3.cell? ⟨i,6,none⟩=some u:=⟨_,hB3.cell' rfl⟩;obtain ⟨u6,i6⟩:=i6;have y6:=hB3.frozen 6;obtain ⟨A5,c5,rfl⟩:=hown.shape;have HO:=hid_ (And.intro hown (And.intro hgr hat));clear hown hgr hat hB3)
 have hpl:D.pages.length≤3:=by have h1:=S0.out.2.2.2;have h2:=(H.out.d.n (by rw [S0.out.1];decide)).2;omega
 obtain ⟨w4,hw4⟩:∃ z,z=w3.setCell ⟨i,6,none⟩ (.slice A5 (D.pages.length+1) c5):=⟨_,rfl⟩
 have hp:=I2.out.pushP HO.out.1 HO.out.2.1 hpl
 have M4:=hid_ (M2.out.ty hp.2 I2.out.off)
 have J4:=hid_ (J2.out.foot I2.out hp.2 H.out.hWB)
 have I4:=hid_ hp.1
 have FF:=hid_ hp.2
 have F4:=hid_ (mf_tr (i:=i) (a:=a) (mf_m F2.out) (mf_f hp.2))
 have FL4:=hid_ (show FootLe i a { a with pv:=.slice A5 (D.pages.length+1) c5 } w from FootLe.push F2.out.size ⟨.inr HO.out.2.2,.inl rfl,.inl rfl⟩)
 have FI:=hid_ (fun g (hg:foot i a g)=>H.out.I.foot_lt hg)
 rw [← hw4] at M4 J4 I4 F4 FF
 change Code.wp _ _ _ _ (w3.setCell ⟨i,6,none⟩ (.slice A5 (D.pages.length+1) c5))
 rw [← hw4]
 clear hw4 hw2 i6 u6 y6 HO hp hB2 PB hpl
 have i6:w4.cell? ⟨i,6,none⟩=some (.slice A5 (D.pages.length+1) c5):=I4.out.b.cell' rfl
 obtain ⟨nn,hnn⟩:∃ nn:Nat,D.news=(nn:Int):=⟨D.news.toNat,by have:=H.out.d.n (by rw [S0.out.1];decide);omega⟩
 have HNN:=hid_ hnn
 have i3:w4.cell? ⟨i,3,none⟩=some (.int .i64 nn):=by rw [← hnn];exact I4.out.b.cell' rfl
 clear hnn
 by_cases hq:D.pages.length+1=nn
 ·have HQ:=hid_ hq
  have hq2:((D.pages.length:Int)+1==(nn:Int))=true:=by simp;omega
  have hq3:(((D.pages.length+1:Nat):Int)==(nn:Int))=true:=by simp;omega
  clear hq
  go_quiet (fail)
  go_wp2_with fail
  obtain ⟨cs0,hcb⟩:=H.out.cb
  have hnm:¬ mf m x i a q.cab:=fun e=>e.elim CM.out H.out.off
  refine (madeJ ((I4.out.keep ((Fr.refl none_ _).drewN nq))) (J4.out.keep ((Fr.refl none_ _).drewN nq)) H.out.mv c0 (cellFr (cellFrS H.out.cc F4.out hnm) ((Fr.refl none_ _).drewN nq)) cs0 ((hcb.fr F4.out hnm).drewN nq) (fun e=>by rcases FL4.out _ e with e | e;exact H.out.off e;have:=hcb.lt;omega) (H.out.d.n (by rw [S0.out.1];decide)) S0.out.2.2.1 H.out.zJ (Nat.le_trans H.out.hB F4.out.size)).mono ?_
  rintro e w5 ⟨a5,rfl,hI5,hf5,hfl5,hmv5,hcc5,hcb5⟩
  have I5:=hid_ hI5
  have f45:Fr (fun g=>foot i { a with pv:=.slice A5 (D.pages.length+1) c5 } g∨g=q.cab) w4 w5:=((Fr.refl _ w4).drewN nq).trans hf5 (fun _ _=>id) (fun _ _=>id)
  have M5:=hid_ (M4.out.ty f45 (fun g hg=>by
   rcases hg with hg | hg
   ·exact I4.out.off g hg
   ·subst hg
    exact ⟨_,_,hcb.fr F4.out hnm,by decide⟩))
  have F5:=hid_ (show Fr (mfc m x i a q.cab) w w5 from (mfc_mf F4.out).trans f45 (fun _ _=>id) (fun g hg e=>by
   rcases e with e | e
   ·rcases FL4.out g e with e | e
    ·exact .inr (.inl e)
    ·omega
   ·exact .inr (.inr e)))
  have FL5:=hid_ (FL4.out.trans hfl5 F4.out.size)
  have C5:=hid_ (And.intro hmv5 (And.intro hcc5 hcb5))
  clear hI5 hf5 hfl5 hmv5 hcc5 hcb5 f45 hcb hnm i6 i3
  go_wp2_with fail
  refine (over_ok I5.out).mono ?_
  rintro e w6 ⟨rfl,rfl⟩
  go_wp2_with fail
  go_ret
  have hqi:(D.pages.length:Int)+1=D.news:=by rw [HNN.out];have:=HQ.out;omega
  have ef:takeD J D n 0=madeD J { D with pages:=D.pages ++ [n] }:=by unfold takeD;rw [if_pos rfl,if_pos hqi]
  have ec:takeC D 0 c0=wrap64 (c0+1):=if_pos ⟨rfl,hqi⟩
  refine ⟨n,0,ps',a5,by rw [ef];rfl,RT.out,?_⟩
  rw [ef,ec]
  exact ⟨I5.out,M5.out,C5.out.1,C5.out.2.1,C5.out.2.2,F5.out,FL5.out,rfl,rfl,rfl,rfl,rfl,rfl⟩
 ·have HQ:=hid_ hq
  have hq2:((D.pages.length:Int)+1==(nn:Int))=false:=by simp;omega
  have hq3:(((D.pages.length+1:Nat):Int)==(nn:Int))=false:=by simp;omega
  clear hq
  go_quiet (fail)
  go_wp2_with fail
  have I5:=hid_ (I4.out.keep ((Fr.refl none_ _).drewN nq))
  refine (over_ok I5.out).mono ?_
  rintro e w6 ⟨rfl,rfl⟩
  go_wp2_with fail
  go_ret
  have hqi:¬ (D.pages.length:Int)+1=D.news:=by rw [HNN.out];have:=HQ.out;omega
  have ef:takeD J D n 0={ D with pages:=D.pages ++ [n] }:=by unfold takeD;rw [if_pos rfl,if_neg hqi]
  have ec:takeC D 0 c0=c0:=if_neg (fun e=>hqi e.2)
  refine ⟨n,0,ps',{ a with pv:=.slice A5 (D.pages.length+1) c5 },by rw [ef];rfl,RT.out,?_⟩
  rw [ef,ec]
  exact H.out.behind I5.out (M4.out.keep ((Fr.refl none_ _).drewN nq)) rfl (F4.out.then_none ((Fr.refl none_ _).drewN nq)) FL4.out ⟨rfl,rfl,rfl,rfl,rfl,rfl⟩
open Go.RowKit

theorem Inst.setAt {w:World} {B i:Nat} {D:Dt} {a:Ia} (h:Inst w B i D a) (s:Int):Inst (w.setCell ⟨i,24,none⟩ (.int .i64 s)) B i { D with at_:=s } a∧Fr (only i) w (w.setCell ⟨i,24,none⟩ (.int .i64 s)):=by
  have f1:=Fr.only1 w ⟨i,24,none⟩ (.int .i64 s)
  exact ⟨h.reb f1 (h.b.set_ 24 _) ⟨rfl,rfl,rfl,rfl⟩ ⟨rfl,rfl,rfl,rfl,rfl,rfl⟩ (h.e.only f1 h.b (by decide)),f1⟩
theorem Inst.base_at {w:World} {B i:Nat} {D:Dt} {a:Ia} (h:Inst w B i D a) {j:Nat} {R:Rc} (hj:D.bases[j]?=some R):∃ (g c:Nat) (C:Cr),a.bv=.slice (some ⟨g,0,none⟩) D.bases.length c∧D.bases.length≤c∧a.Cs[j]?=some C∧C.R=R∧w.rangeAt g (j * 15) (crA C).toList:=by
  have hl:a.Cs.length=D.bases.length:=by have:=congrArg List.length h.cs;simpa using this
  have hjl:j < a.Cs.length:=by rw [hl];exact (List.getElem?_eq_some_iff.1 hj).1
  obtain ⟨C,hC⟩:∃ C,a.Cs[j]?=some C:=⟨_,List.getElem?_eq_getElem hjl⟩
  have hR:C.R=R:=by
    rw [← h.cs,List.getElem?_map,hC] at hj
    exact Option.some.inj hj
  obtain ⟨A',c',e,hcap,_,hp⟩:=own_parts h.bs
  obtain ⟨g,hg,hlt,hcell⟩:=hp (by omega)
  exact ⟨g,c',C,by rw [e,hg,hl],by omega,hC,hR,fun z v hv=>hcell (j * 15+z) v (crFlat_get a.Cs j C hC z v hv)⟩
theorem Env.nofoot {W w:World} {m:Nat} {k:Int} {l:Lm} {x:St} {B i:Nat} {D:Dt} {a:Ia} {J:Jd} {q:Jl} {c0:Int} (h:Env W w m k l x B i D a J q c0):∀ g,foot i a g→¬ mall m x g:=fun g hg=>by
  obtain ⟨t,cs,hb,ht⟩:=h.I.foot_blk hg
  refine h.M.mall_ty hb ?_
  rcases ht with rfl | rfl | rfl | rfl <;> decide
def Fwd1 (W:World) (m:Nat) (k:Int) (l:Lm) (x:St) (B i:Nat) (D:Dt) (a:Ia) (J:Jd) (q:Jl) (c0:Int) (R:Rc) (w:World) (e:Ending) (w':World):Prop:=
  ∃ sl gn kk ss' a',e=.returned (.bool ((putB D kk sl gn).stage==7))∧AllocR l.n x.ss R sl gn kk ss'∧Behind W w m k l x { x with ss:=ss' } B i (putB D kk sl gn) a a' J q c0 w'
set_option maxHeartbeats 8000000 in
theorem fwd1 {W w:World} {m:Nat} {k:Int} {l:Lm} {x:St} {B i:Nat} {D:Dt} {a:Ia} {J:Jd} {q:Jl} {c0:Int} (h:Env W w m k l x B i D a J q c0) (hs:D.stage=1) {j:Nat} (hat:D.at_=(j:Int)) {R:Rc} (hR:D.bases[j]?=some R) :
  Calls Tryz.prog 42 #[.pointer (some ⟨i,0,none⟩),.pointer (some ⟨m,0,none⟩)] w (Fwd1 W m k l x B i D a J q c0 R w):=by
 have hs1:=h.d.s1 hs
 obtain ⟨gb,cb,C,hbv,hcap,hC,rfl,hrow⟩:=h.I.base_at hR
 have hjl:j < D.bases.length:=(List.getElem?_eq_some_iff.1 hR).1
 have H:=hid_ h
 have hb4:D.bases.length≤4:=h.I.zp.2.1
 have i5:w.cell? ⟨i,5,none⟩=some (.int .i64 1):=by rw [← hs];exact h.I.b.cell' rfl
 have i7:w.cell? ⟨i,7,none⟩=some (.slice (some ⟨gb,0,none⟩) D.bases.length cb):=by rw [← hbv];exact h.I.b.cell' rfl
 have i24:w.cell? ⟨i,24,none⟩=some (.int .i64 (j:Int)):=by rw [← hat];exact h.I.b.cell' rfl
 have HR:=hid_ hrow
 have HO:=hid_ (h.I.bo C (List.mem_of_getElem? hC))
 have HZ:=hid_ (show RowsOk C.R from h.I.zb C.R (by rw [← h.I.cs];exact List.mem_map.2 ⟨C,List.mem_of_getElem? hC,rfl⟩))
 have S1:=hid_ (And.intro hs (And.intro hat hs1))
 have hi0:(0:Int)≤(j:Int):=Int.natCast_nonneg _
 have hi1:(j:Int) < (D.bases.length:Int):=by omega
 have h4r:D.refs.length≤4:=by omega
 clear h hs hs1 hrow hC hR hbv
 go_enter Tryz.func42,Tryz.ntmps42
 go_upto_region 15 with fail
 have hS0:(fun w':World=>Fr none_ w w') w.drew:=(Fr.refl _ w).drew
 refine wp_region_U (m:=12) (S:=fun w':World=>Fr none_ w w') (by kernel_rfl) ?_
 refine wpAnyU_take2 (i:=0) (v:=_) rfl (by kernel_rfl) (by kernel_rfl) (by kernel_rfl) (by kernel_rfl) (fun _ _ _ h=>h) (.inl ⟨by kernel_rfl,fun w' hS=>by go_simp;rfl⟩) hS0 ?_
 refine wpAnyU_take2 (i:=1) (v:=_) rfl (by kernel_rfl) (by kernel_rfl) (by kernel_rfl) (by kernel_rfl) (fun _ _ _ h=>h) (.inl ⟨by kernel_rfl,fun w' hS=>by go_simp;rfl⟩) hS0 ?_
 refine wpAnyU_take2 (i:=2) (v:=_) rfl (by kernel_rfl) (by kernel_rfl) (by kernel_rfl) (by kernel_rfl) (fun _ _ _ h=>h) (.inl ⟨by kernel_rfl,fun w' hS=>by go_simp;rfl⟩) hS0 ?_
 refine wpAnyU_take2 (i:=3) (v:=_) rfl (by kernel_rfl) (by kernel_rfl) (by kernel_rfl) (by kernel_rfl) (fun _ _ _ h=>h) (.inl ⟨by kernel_rfl,fun w' hS=>by go_simp;rfl⟩) hS0 ?_
 refine wpAnyU_take2 (i:=4) (v:=_) rfl (by kernel_rfl) (by kernel_rfl) (by kernel_rfl) (by kernel_rfl) (fun _ _ _ h=>h) (.inl ⟨by kernel_rfl,fun w' hS=>by go_simp;rfl⟩) hS0 ?_
 refine wpAnyU_take2 (i:=5) (v:=_) rfl (by kernel_rfl) (by kernel_rfl) (by kernel_rfl) (by kernel_rfl) (fun _ _ _ h=>h) (.inl ⟨by kernel_rfl,fun w' hS=>by have s_:=cellFr i7 hS;go_simp;rfl⟩) hS0 ?_
 refine wpAnyU_take2 (i:=6) (v:=_) rfl (by kernel_rfl) (by kernel_rfl) (by kernel_rfl) (by kernel_rfl) (fun _ _ _ h=>h) (.inl ⟨by kernel_rfl,fun w' hS=>by go_simp;rfl⟩) hS0 ?_
 refine wpAnyU_take2 (i:=7) (v:=_) rfl (by kernel_rfl) (by kernel_rfl) (by kernel_rfl) (by kernel_rfl) (fun _ _ _ h=>h) (.inl ⟨by kernel_rfl,fun w' hS=>by go_simp;rfl⟩) hS0 ?_
 refine wpAnyU_take2 (i:=8) (v:=_) rfl (by kernel_rfl) (by kernel_rfl) (by kernel_rfl) (by kernel_rfl) (fun _ _ _ h=>h) (.inl ⟨by kernel_rfl,fun w' hS=>by go_simp;rfl⟩) hS0 ?_
 refine wpAnyU_take2 (i:=9) (v:=_) rfl (by kernel_rfl) (by kernel_rfl) (by kernel_rfl) (by kernel_rfl) (fun _ _ _ h=>h) (.inl ⟨by kernel_rfl,fun w' hS=>by have s_:=cellFr i24 hS;go_simp;rfl⟩) hS0 ?_
 refine wpAnyU_take2 (i:=10) (v:=_) rfl (by kernel_rfl) (by kernel_rfl) (by kernel_rfl) (by kernel_rfl) (fun _ _ _ h=>h) (.inl ⟨by kernel_rfl,fun w' hS=>by go_simp;rfl⟩) hS0 ?_
 refine wpAnyU_take2 (i:=11) (v:=.agg (crA C).toList.toArray) rfl (by kernel_rfl) (by kernel_rfl) (by kernel_rfl) (by kernel_rfl) (fun _ _ _ h=>h) (yieldsIf_load_mid (by kernel_rfl) 55 (.tmp 90) rfl gb (j * 15) (by kernel_rfl) (crA C).toList _ (fun w' hS z v hv=>cellFr (HR.out z v hv) hS) Tryz.underlying55 rfl rec_size) hS0 ?_
 refine wpAnyU_oneW (i:=12) rfl (by kernel_rfl) (by kernel_rfl) ?_
 go_simp
 clear i5 i7 i24 hS0
 refine (put_ok (H.out.I.keep (Fr.refl none_ w).drew) (H.out.M.keep (Fr.refl none_ w).drew) H.out.k0 H.out.k1 C.R C.A C.c C.B C.d (HO.out.keep (Fr.refl none_ w).drew) HZ.out h4r H.out.hB).mono ?_
 rintro e w1 ⟨sl,gn,kk,ss',v,a',rfl,hA,hev,hM1,hI1,hf1,hfl,hsm⟩
 have RA:=hid_ hA
 have EV:=hid_ hev
 have M1:=hid_ hM1
 have I1:=hid_ hI1
 have F1:=hid_ (show Fr (mf m x i a) w w1 from ((Fr.refl _ w).drew).trans hf1 (fun _ _=>id) (fun _ _=>id))
 have FL:=hid_ (show FootLe i a a' w from hfl)
 have SM:=hid_ hsm
 clear hA hev hM1 hI1 hf1 hfl hsm
 refine wpAnyU_oneW (i:=13) rfl (by kernel_rfl) (by kernel_rfl) ?_
 go_simp
 refine wpAnyU_done (by kernel_rfl) ?_ _
 rcases EV.out.nil_iff with ⟨rfl,rfl⟩ | ⟨hkk,b,rfl⟩
 rotate_left
 ·have HK:=hid_ hkk
  clear hkk
  replace I1:=hid_ (show Inst w1 B i D a' from (by have hq:=I1.out;rwa [show putD D kk sl gn=D from if_neg HK.out] at hq))
  go_wp2_with fail
  refine (undo_ok _ kk I1.out EV.out.er).mono ?_
  rintro e w3 ⟨rfl,hI3,hf3⟩
  have I3:=hid_ (And.intro hI3 hf3)
  clear hI3 hf3
  go_wp2_with fail
  go_ret
  have ef:putB D kk sl gn=undoD D kk:=if_neg HK.out
  refine ⟨sl,gn,kk,ss',{ a' with ev:=.iface 188 (.pointer (some ⟨b,0,none⟩)) },by rw [ef];rfl,RA.out,?_⟩
  rw [ef]
  exact H.out.behind I3.out.1 (M1.out.ty I3.out.2 I1.out.only_off) SM.out.2.2.2.1 (mf_tr F1.out (mf_i I3.out.2)) FL.out ⟨rfl,rfl,rfl,rfl,rfl,rfl⟩
 replace I1:=hid_ (show Inst w1 B i { D with refs:=D.refs ++ [(sl,gn)] } a' from (by have hq:=I1.out;rwa [show putD D 0 sl gn={ D with refs:=D.refs ++ [(sl,gn)] } from if_pos rfl] at hq))
 have i24:w1.cell? ⟨i,24,none⟩=some (.int .i64 (j:Int)):=by rw [← S1.out.2.1];exact I1.out.b.cell' rfl
 have y24:=I1.out.b.frozen 24
 have hwj:IntKind.i64.wrap ((j:Int)+1)=(j:Int)+1:=IntWalk.i64_in _ (by omega)
 have I2:=hid_ (I1.out.setAt ((j:Int)+1))
 have M2:=hid_ (M1.out.ty I2.out.2 I1.out.only_off)
 have F2:=hid_ (mf_tr F1.out (mf_i I2.out.2))
 go_upto_region 18 with fail
 obtain ⟨w2,hw2⟩:∃ z,z=w1.setCell ⟨i,24,none⟩ (.int .i64 ((j:Int)+1)):=⟨_,rfl⟩
 rw [← hw2] at I2 M2 F2
 change Code.wp _ _ _ _ (w1.setCell ⟨i,24,none⟩ (.int .i64 ((j:Int)+1)))
 rw [← hw2]
 clear hw2 i24 y24 hwj
 have i24:w2.cell? ⟨i,24,none⟩=some (.int .i64 ((j:Int)+1)):=I2.out.1.b.cell' rfl
 obtain ⟨_,_,_,_,A5,c5,_,_,e5⟩:=I2.out.1.shapes
 have i7:w2.cell? ⟨i,7,none⟩=some (.slice A5 D.bases.length c5):=by rw [← e5];exact I2.out.1.b.cell' rfl
 clear e5
 by_cases hq:j+1=D.bases.length
 ·have HQ:=hid_ hq
  have hq2:((j:Int)+1==(D.bases.length:Int))=true:=by simp;omega
  clear hq hi1
  have i5:∃ u,w2.cell? ⟨i,5,none⟩=some u:=⟨_,I2.out.1.b.cell' rfl⟩
  obtain ⟨u5,i5⟩:=i5
  have y5:=I2.out.1.b.frozen 5
  have y24:=I2.out.1.b.frozen 24
  go_quiet (fail)
  go_wp2_with fail
  have hd:=(Fr.refl none_ w2).drewN nq
  have I3:=((I2.out.1.keep hd).setStage 2).1.setAt 0
  have f3:Fr (only i) w2 (((w2.drewN nq).setCell ⟨i,5,none⟩ (.int .i64 2)).setCell ⟨i,24,none⟩ (.int .i64 0)):=(((Fr.refl (only i) w2).drewN nq).trans ((I2.out.1.keep hd).setStage 2).2 (fun _ _=>id) (fun _ _=>id)).trans I3.2 (fun _ _=>id) (fun _ _=>id)
  have I4:=hid_ I3.1
  have M4:=hid_ (M2.out.ty f3 I2.out.1.only_off)
  have F4:=hid_ (mf_tr F2.out (mf_i f3))
  clear I3 f3 hd i5 u5 y5 y24 i24 i7
  refine (over_ok I4.out).mono ?_
  rintro e w6 ⟨rfl,rfl⟩
  go_wp2_with fail
  go_ret
  have ef:putB D 0 sl gn={ D with refs:=D.refs ++ [(sl,gn)],stage:=2,at_:=0 }:=by unfold putB;rw [if_pos rfl,if_pos (by rw [S1.out.2.1];have:=HQ.out;omega)]
  refine ⟨sl,gn,0,ss',a',by rw [ef];rfl,RA.out,?_⟩
  rw [ef]
  exact H.out.behind I4.out M4.out SM.out.2.2.2.1 F4.out FL.out ⟨rfl,rfl,rfl,rfl,rfl,rfl⟩
 ·have HQ:=hid_ hq
  have hq2:((j:Int)+1==(D.bases.length:Int))=false:=by simp;omega
  clear hq hi1
  go_quiet (fail)
  go_wp2_with fail
  have hd:=(Fr.refl none_ w2).drewN nq
  have I4:=hid_ (I2.out.1.keep hd)
  have M4:=hid_ (M2.out.keep hd)
  have F4:=hid_ (F2.out.then_none hd)
  clear hd i24 i7
  refine (over_ok I4.out).mono ?_
  rintro e w6 ⟨rfl,rfl⟩
  go_wp2_with fail
  go_ret
  have ef:putB D 0 sl gn={ D with refs:=D.refs ++ [(sl,gn)],at_:=(j:Int)+1 }:=by unfold putB;rw [if_pos rfl,if_neg (by rw [S1.out.2.1];have:=HQ.out;omega),S1.out.2.1]
  refine ⟨sl,gn,0,ss',a',by rw [ef];rfl,RA.out,?_⟩
  rw [ef]
  exact H.out.behind I4.out M4.out SM.out.2.2.2.1 F4.out FL.out ⟨rfl,rfl,rfl,rfl,rfl,rfl⟩
end Go.Proofs.YthcpccddcgbanaaGreatDoor

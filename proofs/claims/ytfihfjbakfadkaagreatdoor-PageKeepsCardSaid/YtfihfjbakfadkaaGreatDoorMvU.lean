/- Texts of one proof, merged: Two10, PuA10, Push10, Qst10, Few10. -/
import Derived.Deep.DeepCutAuto
import Derived.Test.YtfihfjbakfadkaaGreatDoorMvA
import Derived.Test.YtfihfjbakfadkaaGreatDoorMvD
import Derived.Test.YtfihfjbakfadkaaGreatDoorMvI
import Derived.Test.YtfihfjbakfadkaaGreatDoorMvN
import Derived.Test.YtfihfjbakfadkaaGreatDoorMvO
import Derived.Test.YtfihfjbakfadkaaGreatDoorMvT
namespace Go.Proofs.YtfihfjbakfadkaaGreatDoor
set_option maxRecDepth 100000
set_option linter.unusedVariables false
open Go.RowKit Go.BigFrame

structure On (x:St) (l:Lm) (js:List Nat) (s0 g0:Int):Prop where
  p:Pst x js s0 g0
  ne:js≠[]
  ls:js.length≤l.s
  l4:js.length≤4000
theorem ph_page {b0 g:Nat} {w:World} {s:LdS} {ss:List Sl} {js:List Nat} {n s0 g0:Int} (h:Ldr b0 w g s) (ph:LdPh ss js n s0 g0 (js.length+1) s) (hr:∀ j ∈ js,PRec (recOf ss j)) (hl:js.length≤400) :
    Calls Tryz.prog 25 #[.pointer (some ⟨g,0,none⟩)] w fun e w'=>∃ v,e=.returned v∧LdMade w.heap.size s w v w':=by
  obtain ⟨ho,hv,_⟩:=ph.done
  have hlen:=ph.len
  have hrec:=ph.recs hr
  simp only [Nat.add_sub_cancel] at hlen
  refine ldPage_made h ho hv (fun C hC=>(hrec C hC).ok) (by omega) (fun D hD=>?_) (fun D hD=>?_) (by omega)
  · obtain ⟨C,hC,rfl⟩:=List.mem_map.1 hD
    exact ⟨(hrec C hC).val,(hrec C hC).rows,(hrec C hC).zr⟩
  · obtain ⟨C,hC,rfl⟩:=List.mem_map.1 hD
    exact (hrec C hC).ze
def Stand (ss ss':List Sl):Prop:=∀ (js:List Nat) (s g:Int),Links ss js s g→Links ss' js s g∧js.map (recOf ss')=js.map (recOf ss)∧js.map (refOf ss')=js.map (refOf ss)
theorem Stand.refl (ss:List Sl):Stand ss ss:=fun js s g h=>⟨h,rfl,rfl⟩
theorem Stand.trans {a b c:List Sl} (h:Stand a b) (k:Stand b c):Stand a c:=fun js s g hl=>by
  obtain ⟨h1,h2,h3⟩:=h js s g hl
  obtain ⟨k1,k2,k3⟩:=k js s g h1
  exact ⟨k1,k2.trans h2,k3.trans h3⟩
theorem Stand.of {last:Int} {ss ss':List Sl} {R:Rc} {sl gn c:Int} (ha:AllocR last ss R sl gn c ss'):Stand ss ss':=fun js s g h=>links_alloc h ha
abbrev Rc.hang (R:Rc) (s g:Int):Rc:={ R with nslot:=s,ngen:=g }
theorem hang_ok {R:Rc} (h:PRec R) (s g:Int):PRec (R.hang s g):=⟨⟨h.ok.low,h.ok.high,h.ok.key,h.ok.hkey,h.ok.ents⟩,h.val,h.rows,h.zr,h.ze⟩
theorem few_prec {w:World} {A:Option Addr} {n:Nat} {L:List Ch} (h:InReads w A n L) (hw:RwIn L) (h7:FewOk7 L) (h8:FewOk8 L):∀ C ∈ L,PRec C.R:=fun C hC=>by
  have hr:=few_rows h7 hw C hC
  have he:=few_ents h8 C hC
  obtain ⟨k,hk⟩:=List.mem_iff_getElem?.1 hC
  obtain ⟨_,_,_,_,_,hi⟩:=h.at_ hk
  exact ⟨⟨hi.low,hi.high,hi.key,hi.hkey,⟨by omega,hi.ents⟩⟩,hr.1,hr.2.1,hr.2.2,by omega⟩
open Go.RowKit Go.BigFrame

structure PuSt (m:Nat) (k:Int) (l:Lm) (x:St) (js:List Nat) (w:World) (d:Nat) (w':World) (y:St) (js1:List Nat) (s g kk:Int):Prop where
  mm:Mm w' m kk l y
  p:Pst y js1 s g
  ne:js1≠[]
  le:js1.length≤js.length+d
  k0:k≤kk
  k1:kk≤k+3 * (d:Int)
  st:Stand x.ss y.ss
  al:mall m y=mall m x
  fr:Fr (mall m x) w w'
  len:y.ss.length=x.ss.length
theorem AllocR.len {last:Int} {ss ss':List Sl} {R:Rc} {sl gn c:Int} (h:AllocR last ss R sl gn c ss'):ss'.length=ss.length:=by
  rcases h with ⟨i,t,vr,ve,_,_,_,_,_,_,rfl⟩ | ⟨_,_,_,_,rfl⟩
  · exact List.length_set
  · rfl
theorem PuSt.start {m:Nat} {k:Int} {l:Lm} {x:St} {js:List Nat} {w:World} {s g:Int} (hm:Mm w m k l x) (hp:Pst x js s g) (hne:js≠[]):PuSt m k l x js w 0 w x js s g k:=
  ⟨hm,hp,hne,Nat.le_refl _,Int.le_refl _,by omega,Stand.refl _,rfl,Fr.refl _ _,rfl⟩
theorem PuSt.failed {m:Nat} {k:Int} {l:Lm} {x:St} {js:List Nat} {w:World} {d:Nat} {w1:World} {y:St} {js1:List Nat} {s g kk:Int} (h:PuSt m k l x js w d w1 y js1 s g kk) {w':World} {R:Rc} {sl gn c last:Int} {ss':List Sl} (ha:AllocR last y.ss R sl gn c ss') (hm:Mm w' m (kk+1+1) l { y with ss:=ss' }) (hf:Fr (mall m x) w1 w') :
    PuSt m k l x js w (d+1) w' { y with ss:=ss' } js1 s g (kk+1+1):=
  ⟨hm,h.p.alloc ha,h.ne,by have:=h.le;omega,by have:=h.k0;omega,by have:=h.k1;push_cast;omega,h.st.trans (Stand.of ha),h.al,h.fr.trans hf (fun _ _=>id) (fun _ _=>id),ha.len.trans h.len⟩
theorem PuSt.hung {m:Nat} {k:Int} {l:Lm} {x:St} {js:List Nat} {w:World} {d:Nat} {w1:World} {y:St} {js1:List Nat} {s g kk:Int} (h:PuSt m k l x js w d w1 y js1 s g kk) {w':World} {R:Rc} {sl gn last k3:Int} {ss':List Sl} {ps':List Pg} {ok:Bool} (ha:AllocR last y.ss R sl gn 0 ss') (hR:PRec R) (hn:(R.nslot=s∧R.ngen=g)∨(R.nslot=0∧R.ngen=0)) (hs:SwapR y.ps 0 s g sl gn ok k3 ps')
    (hm:Mm w' m (kk+1+1+1) l { y with ss:=ss',ps:=ps' }) (hf:Fr (mall m x) w1 w') :
    ∃ js2,PuSt m k l x js w (d+1) w' { y with ss:=ss',ps:=ps' } js2 sl gn (kk+1+1+1):=by
  obtain ⟨js2,h1,h2,h3⟩:=h.p.push ha hR hn hs
  exact ⟨js2,hm,h1,h2,by have:=h.le;omega,by have:=h.k0;omega,by have:=h.k1;push_cast;omega,h.st.trans (Stand.of ha),h.al,h.fr.trans hf (fun _ _=>id) (fun _ _=>id),ha.len.trans h.len⟩
theorem fr_old {m:Nat} {x:St} {w0 w w':World} (h0:Fr none_ w0 w) (hb:∀ i,mall m x i→w0.heap.size≤i) (hf:Fr (mall m x) w w'):Fr none_ w0 w':=
  h0.trans hf (fun _ _=>id) (fun i hi e=>by have:=hb i e;omega)
structure PuIn (w:World) (A:Option Addr) (n:Nat) (L:List Ch):Prop where
  rd:InReads w A n L
  pr:∀ C ∈ L,PRec C.R
open Go.RowKit Go.BigFrame

theorem recA_hang (R:Rc) (vr ve:Value) (s g:Int):((recA R vr ve).setIfInBounds 13 (.int .i64 s)).setIfInBounds 14 (.int .i64 g)=recA (R.hang s g) vr ve:=by
  simp only [List.setIfInBounds_toArray,List.set_cons_zero,List.set_cons_succ]
theorem hang_set {w w':World} {b:Nat} {R:Rc} {vr ve:Value} {s g:Int} (h:Blk w b 33 (recA R vr ve)) (hw:w'=(w.setCell ⟨b,13,none⟩ (.int .i64 s)).setCell ⟨b,14,none⟩ (.int .i64 g)):Blk w' b 33 (recA (R.hang s g) vr ve)∧Fr (only b) w w':=by
  subst hw
  refine ⟨?_,((Fr.refl (only b) w).setCell (p:=⟨b,13,none⟩) (.inl (Eq.refl _)) _).setCell (p:=⟨b,14,none⟩) (.inl (Eq.refl _)) _⟩
  have:=(h.set_ 13 (.int .i64 s)).set_ 14 (.int .i64 g)
  rwa [recA_hang] at this
theorem recA_range {w:World} {b:Nat} {R:Rc} {vr ve:Value} (h:Blk w b 33 (recA R vr ve)):w.rangeAt b 0 (recA R vr ve).toList:=fun j v hv=>by
  rw [Nat.zero_add]
  exact h.cell' (by simpa using hv)
set_option maxHeartbeats 8000000 in
theorem push10_ok {w0:World} {m:Nat} {k:Int} {l:Lm} {x:St} {js:List Nat} {s0 g0:Int} {A:Option Addr} {n cap:Nat} {L:List Ch} (base:Bool) (w:World) (h:PuIn w0 A n L) (hf:Fr none_ w0 w) (hn:n≤400) (hm:Mm w m k l x) (hp:Pst x js s0 g0) (hne:js≠[]) (hb:∀ i,mall m x i→w0.heap.size≤i) (h0:0≤k) (h1:k≤50000) :
  Calls Tryz.prog 20 #[.pointer (some ⟨m,0,none⟩),.slice A n cap,.bool base] w fun e w'=>e=.returned (.tuple #[])∧∃ y js1 s g kk,PuSt m k l x js w n w' y js1 s g kk:=by
 have H:=hid_ h
 have F:=hid_ hf
 have ST:=hid_ (PuSt.start hm hp hne)
 have HB:=hid_ hb
 have HN:=hid_ hn
 have HLN:=hid_ h.rd.1
 have hi1:(0:Int)≤(n:Int):=Int.natCast_nonneg _
 clear h hf hm hp hne hb
 go_enter Tryz.func20,Tryz.ntmps20
 go_wp2_with fail
 go_loopw [6] (fun i wr=>∃ (j:Nat) (y:St) (js1:List Nat) (s g kk:Int),j≤n∧((j=0∧i=.int .i64 (-1))∨∃ j':Nat,j=j'+1∧i=.int .i64 (j':Int))∧PuSt m k l x js w (n - j) wr y js1 s g kk) (fun i _=>(intOf i+1).toNat)
 case atStart =>
  refine ⟨n,x,js,s0,g0,k,Nat.le_refl _,?_,by rw [Nat.sub_self];exact ST.out⟩
  cases n with
  | zero=>exact .inl ⟨rfl,by go_num⟩
  | succ n'=>exact .inr ⟨n',rfl,by go_num⟩
 case round =>
  obtain ⟨j,y,js1,s,g,kk,hj,hjj,hps⟩:=hrel
  rcases hjj with ⟨rfl,rfl⟩ | ⟨j',rfl,rfl⟩
  ·have P:=hid_ hps
   clear hps ST
   go_wp2_with fail
   exact bodyPost_end (results_none rfl _ _ _) rfl ⟨rfl,y,js1,s,g,kk,by simpa using P.out⟩
  ·have P:=hid_ hps
   have HKK:Hid (0≤kk∧kk≤60000):=hid_ (by have h2:=hps.k0;have h3:=hps.k1;have h4:=HN.out;omega)
   clear hps ST
   obtain ⟨C,hC⟩:∃ C,L[j']?=some C:=⟨_,List.getElem?_eq_getElem (by have:=HLN.out;omega)⟩
   have HC:=hid_ hC
   have HJ:=hid_ hj
   have HR:Hid (PRec C.R):=hid_ (H.out.pr C (List.mem_of_getElem? hC))
   have hi0:(0:Int)≤(j':Int):=Int.natCast_nonneg _
   have hlt:(j':Int) < (n:Int):=by omega
   clear hC hj
   go_wp2_with fail
   refine (memHead_any m kk l y wr P.out.mm HKK.out.1 (by have:=HKK.out.2;omega) 0).mono ?_
   rintro e w1 ⟨s1,g1,c1,v1,rfl,hhd,-,hm1,hf1⟩
   obtain ⟨rfl,rfl,rfl⟩:=P.out.p.head hhd
   have M1:=hid_ hm1
   have F1:Hid (Fr (mall m x) wr w1):=hid_ (by rw [← P.out.al];exact hf1)
   clear hhd hm1 hf1
   go_upto_region 4 with fail
   obtain ⟨w2,hw2⟩:∃ z,z=w1.alloc (.cells #[.int .i64 s1,.int .i64 g1] 23):=⟨_,rfl⟩
   have K2:Hid (Blk w2 w1.heap.size 23 #[.int .i64 s1,.int .i64 g1]∧Fr none_ w1 w2):=hid_ (by rw [hw2];exact ⟨Blk.new w1 _ _,(Fr.refl none_ w1).alloc _⟩)
   change Code.wp _ _ _ _ (w1.alloc (.cells #[.int .i64 s1,.int .i64 g1] 23))
   rw [← hw2]
   clear hw2
   have BH:=hid_ K2.out.1
   replace M1:=hid_ (M1.out.keep K2.out.2)
   replace F1:=hid_ (F1.out.then_none K2.out.2)
   obtain ⟨gh,hgh⟩:∃ g,g=w1.heap.size:=⟨_,rfl⟩
   rw [← hgh] at BH
   rw [← hgh]
   clear hgh K2
   have F02:Hid (Fr none_ w0 w2):=hid_ (fr_old F.out HB.out (P.out.fr.trans F1.out (fun _ _=>id) (fun _ _=>id)))
   obtain ⟨b,off,rfl,hbb,hR,hO⟩:=(H.out.rd.keep F02.out).at_ HC.out
   have HRG:=hid_ hR
   have HO:=hid_ hO
   clear hR hO
   go_wp2_with (refine wpList_load_mid rfl 33 (.tmp 26) rfl b (off+j' * 15) rfl (recL C) _ HRG.out Tryz.underlying33 rfl rec_size8 ?_)
   refine (clone_ok C.R C.A C.c C.B C.d _ HO.out.rd (by have:=HR.out.zr;omega) (by have:=HR.out.ze;omega)).mono ?_
   rintro e w3 ⟨A1,c1,B1,d1,rfl,hro,hf3⟩
   have RO:=hid_ hro
   replace BH:=hid_ (BH.out.fr hf3 id)
   replace M1:=hid_ (M1.out.keep hf3)
   replace F1:=hid_ (F1.out.then_none hf3)
   have HW3:Hid (wr.heap.size≤w3.heap.size):=hid_ F1.out.size
   clear hro hf3 HRG HO hbb F02
   go_upto_region 5 with (refine wpList_store_mid rfl 33 (.tmp 9) (.tmp 28) rfl w3.heap.size 0 (recL ⟨C.R,A1,c1,B1,d1⟩).toArray rfl rfl (new_there w3 _ recZ8) rec_size8 (rec_one ⟨C.R,A1,c1,B1,d1⟩) ?_;obtain ⟨wa,hwa⟩:∃ wa,wa=(w3.alloc (.cells recZ8 33)).setCells w3.heap.size 0 (recL ⟨C.R,A1,c1,B1,d1⟩):=⟨_,rfl⟩;change wpList _ _ _ _ _ ((w3.alloc (.cells recZ8 33)).setCells w3.heap.size 0 (recL ⟨C.R,A1,c1,B1,d1⟩));rw [← hwa];have P1:Hid (Blk wa w3.heap.size 33 (recL ⟨C.R,A1,c1,B1,d1⟩).toArray∧Fr none_ w3 wa):=hid_ (by rw [hwa];exact new_copy w3 _ recZ8 _ rfl);clear hwa)
   have BR:Hid (Blk wa w3.heap.size 33 (recA C.R (.slice A1 C.R.rows.length c1) (.slice B1 C.R.ents.length d1))):=hid_ P1.out.1
   replace BH:=hid_ (BH.out.fr P1.out.2 id)
   replace M1:=hid_ (M1.out.keep P1.out.2)
   replace F1:=hid_ (F1.out.then_none P1.out.2)
   replace RO:=hid_ (RO.out.keep P1.out.2)
   obtain ⟨gr,hgr⟩:∃ g,g=w3.heap.size:=⟨_,rfl⟩
   have HG:Hid (wr.heap.size≤gr):=hid_ (by rw [hgr];exact HW3.out)
   rw [← hgr] at BR
   rw [← hgr]
   clear hgr P1
   have x0:wa.cell? ⟨gh,0,none⟩=some (.int .i64 s1):=BH.out.cell' rfl
   have x1:wa.cell? ⟨gh,1,none⟩=some (.int .i64 g1):=BH.out.cell' rfl
   have z0:wa.cell? ⟨gr,13,none⟩=some (.int .i64 C.R.nslot):=BR.out.cell' rfl
   have z1:wa.cell? ⟨gr,14,none⟩=some (.int .i64 C.R.ngen):=BR.out.cell' rfl
   have y0:=BR.out.frozen 13
   have y1:=BR.out.frozen 14
   go_upto_region 6 with fail
   obtain ⟨w5,hw5⟩:∃ z,z=(wa.setCell ⟨gr,13,none⟩ (.int .i64 s1)).setCell ⟨gr,14,none⟩ (.int .i64 g1):=⟨_,rfl⟩
   have K5:=hid_ (hang_set BR.out hw5)
   change Code.wp _ _ _ _ ((wa.setCell ⟨gr,13,none⟩ (.int .i64 s1)).setCell ⟨gr,14,none⟩ (.int .i64 g1))
   rw [← hw5]
   clear hw5 x0 x1 z0 z1 y0 y1
   have HRL:Hid (RecReads wa C.R A1 B1):=hid_ RO.out.reads
   replace M1:=hid_ (M1.out.rec9 BR.out K5.out.2)
   replace BH:=hid_ (BH.out.fr K5.out.2 (only_ne (Blk.ne_ BH.out BR.out (by decide))))
   replace F1:=hid_ (F1.out.then_only K5.out.2 (.inr HG.out))
   replace RO:=hid_ (RO.out.only K5.out.2 BR.out (by decide) (by decide))
   replace BR:=hid_ K5.out.1
   clear K5 HRL
   go_cut [38] (fun u wq=>∃ bq,u=.bool bq∧w5=wq)
   case first =>
    cases base with
    | false =>
     go_wp2_with fail
     go_meet
     case rel=>exact ⟨_,rfl,rfl⟩
    | true =>
     go_wp2_with fail
     go_meet
     case rel=>exact ⟨_,rfl,rfl⟩
   case rest =>
    obtain ⟨bq,rfl,rfl⟩:=hcut
    cases bq with
    | false =>
     go_upto_region 8 with fail
     obtain ⟨s2,g2,hb2,hsg,hfq⟩:∃ s2 g2:Int,Blk w5 gr 33 (recA (C.R.hang s2 g2) (.slice A1 C.R.rows.length c1) (.slice B1 C.R.ents.length d1))∧((s2=s1∧g2=g1)∨(s2=0∧g2=0))∧Fr (only gr) w5 w5:=⟨_,_,BR.out,.inl ⟨rfl,rfl⟩,Fr.refl _ _⟩
     have HSG:=hid_ hsg
     replace M1:=hid_ (M1.out.rec9 BR.out hfq)
     replace BH:=hid_ (BH.out.fr hfq (only_ne (Blk.ne_ BH.out BR.out (by decide))))
     replace F1:=hid_ (F1.out.then_only hfq (.inr HG.out))
     replace RO:=hid_ (RO.out.only hfq BR.out (by decide) (by decide))
     replace BR:=hid_ hb2
     clear hb2 hsg hfq
     go_wp2_with (refine wpList_load_mid rfl 33 (.tmp 9) rfl gr 0 rfl (recA (C.R.hang s2 g2) (.slice A1 C.R.rows.length c1) (.slice B1 C.R.ents.length d1)).toList _ (recA_range BR.out) Tryz.underlying33 rfl rec_size8 ?_)
     refine (memAlloc_any m (kk+1) l y _ M1.out (by have:=HKK.out.1;omega) (by have:=HKK.out.2;omega) (C.R.hang s2 g2) A1 c1 B1 d1 (fun w' hf=>⟨(RO.out.only hf M1.out.b (by decide) (by decide)).reads.r,(RO.out.only hf M1.out.b (by decide) (by decide)).reads.e⟩) ⟨by have:=HR.out.zr;show C.R.rows.length≤1000;omega,by have:=HR.out.ze;show C.R.ents.length≤1000;omega⟩).mono ?_
     rintro e w7 ⟨sl,gn,kc,ss',v7,rfl,hal,hev,hm7,hf7⟩
     have AL:=hid_ hal
     have NB:Hid (¬ mall m y gh):=hid_ (M1.out.nref BH.out)
     replace BH:=hid_ (BH.out.fr hf7 NB.out)
     have M7:=hid_ hm7
     replace F1:Hid (Fr (mall m x) wr w7):=hid_ (F1.out.trans hf7 (fun _ _=>id) (fun i _ e=>by rw [← P.out.al];exact e))
     clear hal hm7 hf7 M1 RO BR NB
     go_upto_region 9 with fail
     obtain ⟨w8,hw8⟩:∃ z,z=w7.alloc (.cells #[.int .i64 sl,.int .i64 gn] 23):=⟨_,rfl⟩
     have K8:Hid (Blk w8 w7.heap.size 23 #[.int .i64 sl,.int .i64 gn]∧Fr none_ w7 w8):=hid_ (by rw [hw8];exact ⟨Blk.new w7 _ _,(Fr.refl none_ w7).alloc _⟩)
     change Code.wp _ _ _ _ (w7.alloc (.cells #[.int .i64 sl,.int .i64 gn] 23))
     rw [← hw8]
     clear hw8
     replace M7:=hid_ (M7.out.keep K8.out.2)
     replace F1:=hid_ (F1.out.then_none K8.out.2)
     replace BH:=hid_ (BH.out.fr K8.out.2 id)
     have BX:=hid_ K8.out.1
     obtain ⟨gx,hgx⟩:∃ g,g=w7.heap.size:=⟨_,rfl⟩
     rw [← hgx] at BX
     rw [← hgx]
     clear hgx K8
     have hnj:n - j'=n - (j'+1)+1:=by have:=HJ.out;omega
     have HNJ:=hid_ hnj
     clear hnj
     rcases hev with ⟨rfl,rfl⟩ | ⟨hc,bF,rfl,-⟩
     ·have x0:w8.cell? ⟨gh,0,none⟩=some (.int .i64 s1):=BH.out.cell' rfl
      have x1:w8.cell? ⟨gh,1,none⟩=some (.int .i64 g1):=BH.out.cell' rfl
      have z0:w8.cell? ⟨gx,0,none⟩=some (.int .i64 sl):=BX.out.cell' rfl
      have z1:w8.cell? ⟨gx,1,none⟩=some (.int .i64 gn):=BX.out.cell' rfl
      go_wp2_with fail
      refine (memSwap_any m (kk+1+1) l { y with ss:=ss' } _ M7.out (by have:=HKK.out.1;omega) (by have:=HKK.out.2;omega) 0 s1 g1 sl gn).mono ?_
      rintro e w9 ⟨ok,k3,ps',v9,rfl,hsw,-,hm9,hf9⟩
      have HP:Hid (∃ js2,PuSt m k l x js w (n - (j'+1)+1) w9 { y with ss:=ss',ps:=ps' } js2 sl gn (kk+1+1+1)):=hid_ (P.out.hung AL.out (hang_ok HR.out s2 g2) HSG.out hsw hm9 (F1.out.trans hf9 (fun _ _=>id) (fun i _ e=>by rw [← P.out.al];exact e)))
      clear hsw hm9 hf9 x0 x1 z0 z1 M7
      go_wp2_with fail
      go_roundw
      case rel =>
       obtain ⟨js2,hp2⟩:=HP.out
       refine ⟨j',_,js2,sl,gn,_,by have:=HJ.out;omega,?_,by rw [HNJ.out];exact hp2⟩
       cases j' with
       | zero=>exact .inl ⟨rfl,by go_num⟩
       | succ q=>exact .inr ⟨q,rfl,by go_num⟩
      case measure=>simp [intOf]
     ·have HP:Hid (PuSt m k l x js w (n - (j'+1)+1) w8 { y with ss:=ss' } js1 s1 g1 (kk+1+1)):=hid_ (P.out.failed AL.out M7.out F1.out)
      go_wp2_with fail
      go_roundw
      case rel =>
       refine ⟨j',_,js1,s1,g1,_,by have:=HJ.out;omega,?_,by rw [HNJ.out];exact HP.out⟩
       cases j' with
       | zero=>exact .inl ⟨rfl,by go_num⟩
       | succ q=>exact .inr ⟨q,rfl,by go_num⟩
      case measure=>simp [intOf]
    | true =>
     have z0:w5.cell? ⟨gr,13,none⟩=some (.int .i64 s1):=BR.out.cell' rfl
     have z1:w5.cell? ⟨gr,14,none⟩=some (.int .i64 g1):=BR.out.cell' rfl
     have y0:=BR.out.frozen 13
     have y1:=BR.out.frozen 14
     go_upto_region 8 with fail
     obtain ⟨w6,hw6⟩:∃ z,z=(w5.setCell ⟨gr,13,none⟩ (.int .i64 0)).setCell ⟨gr,14,none⟩ (.int .i64 0):=⟨_,rfl⟩
     have K6:=hid_ (hang_set BR.out hw6)
     change Code.wp _ _ _ _ ((w5.setCell ⟨gr,13,none⟩ (.int .i64 0)).setCell ⟨gr,14,none⟩ (.int .i64 0))
     rw [← hw6]
     clear hw6 z0 z1 y0 y1
     obtain ⟨s2,g2,hb2,hsg,hfq⟩:∃ s2 g2:Int,Blk w6 gr 33 (recA (C.R.hang s2 g2) (.slice A1 C.R.rows.length c1) (.slice B1 C.R.ents.length d1))∧((s2=s1∧g2=g1)∨(s2=0∧g2=0))∧Fr (only gr) w5 w6:=⟨0,0,K6.out.1,.inr ⟨rfl,rfl⟩,K6.out.2⟩
     clear K6
     have HSG:=hid_ hsg
     replace M1:=hid_ (M1.out.rec9 BR.out hfq)
     replace BH:=hid_ (BH.out.fr hfq (only_ne (Blk.ne_ BH.out BR.out (by decide))))
     replace F1:=hid_ (F1.out.then_only hfq (.inr HG.out))
     replace RO:=hid_ (RO.out.only hfq BR.out (by decide) (by decide))
     replace BR:=hid_ hb2
     clear hb2 hsg hfq
     go_wp2_with (refine wpList_load_mid rfl 33 (.tmp 9) rfl gr 0 rfl (recA (C.R.hang s2 g2) (.slice A1 C.R.rows.length c1) (.slice B1 C.R.ents.length d1)).toList _ (recA_range BR.out) Tryz.underlying33 rfl rec_size8 ?_)
     refine (memAlloc_any m (kk+1) l y _ M1.out (by have:=HKK.out.1;omega) (by have:=HKK.out.2;omega) (C.R.hang s2 g2) A1 c1 B1 d1 (fun w' hf=>⟨(RO.out.only hf M1.out.b (by decide) (by decide)).reads.r,(RO.out.only hf M1.out.b (by decide) (by decide)).reads.e⟩) ⟨by have:=HR.out.zr;show C.R.rows.length≤1000;omega,by have:=HR.out.ze;show C.R.ents.length≤1000;omega⟩).mono ?_
     rintro e w7 ⟨sl,gn,kc,ss',v7,rfl,hal,hev,hm7,hf7⟩
     have AL:=hid_ hal
     have NB:Hid (¬ mall m y gh):=hid_ (M1.out.nref BH.out)
     replace BH:=hid_ (BH.out.fr hf7 NB.out)
     have M7:=hid_ hm7
     replace F1:Hid (Fr (mall m x) wr w7):=hid_ (F1.out.trans hf7 (fun _ _=>id) (fun i _ e=>by rw [← P.out.al];exact e))
     clear hal hm7 hf7 M1 RO BR NB
     go_upto_region 9 with fail
     obtain ⟨w8,hw8⟩:∃ z,z=w7.alloc (.cells #[.int .i64 sl,.int .i64 gn] 23):=⟨_,rfl⟩
     have K8:Hid (Blk w8 w7.heap.size 23 #[.int .i64 sl,.int .i64 gn]∧Fr none_ w7 w8):=hid_ (by rw [hw8];exact ⟨Blk.new w7 _ _,(Fr.refl none_ w7).alloc _⟩)
     change Code.wp _ _ _ _ (w7.alloc (.cells #[.int .i64 sl,.int .i64 gn] 23))
     rw [← hw8]
     clear hw8
     replace M7:=hid_ (M7.out.keep K8.out.2)
     replace F1:=hid_ (F1.out.then_none K8.out.2)
     replace BH:=hid_ (BH.out.fr K8.out.2 id)
     have BX:=hid_ K8.out.1
     obtain ⟨gx,hgx⟩:∃ g,g=w7.heap.size:=⟨_,rfl⟩
     rw [← hgx] at BX
     rw [← hgx]
     clear hgx K8
     have hnj:n - j'=n - (j'+1)+1:=by have:=HJ.out;omega
     have HNJ:=hid_ hnj
     clear hnj
     rcases hev with ⟨rfl,rfl⟩ | ⟨hc,bF,rfl,-⟩
     ·have x0:w8.cell? ⟨gh,0,none⟩=some (.int .i64 s1):=BH.out.cell' rfl
      have x1:w8.cell? ⟨gh,1,none⟩=some (.int .i64 g1):=BH.out.cell' rfl
      have z0:w8.cell? ⟨gx,0,none⟩=some (.int .i64 sl):=BX.out.cell' rfl
      have z1:w8.cell? ⟨gx,1,none⟩=some (.int .i64 gn):=BX.out.cell' rfl
      go_wp2_with fail
      refine (memSwap_any m (kk+1+1) l { y with ss:=ss' } _ M7.out (by have:=HKK.out.1;omega) (by have:=HKK.out.2;omega) 0 s1 g1 sl gn).mono ?_
      rintro e w9 ⟨ok,k3,ps',v9,rfl,hsw,-,hm9,hf9⟩
      have HP:Hid (∃ js2,PuSt m k l x js w (n - (j'+1)+1) w9 { y with ss:=ss',ps:=ps' } js2 sl gn (kk+1+1+1)):=hid_ (P.out.hung AL.out (hang_ok HR.out s2 g2) HSG.out hsw hm9 (F1.out.trans hf9 (fun _ _=>id) (fun i _ e=>by rw [← P.out.al];exact e)))
      clear hsw hm9 hf9 x0 x1 z0 z1 M7
      go_wp2_with fail
      go_roundw
      case rel =>
       obtain ⟨js2,hp2⟩:=HP.out
       refine ⟨j',_,js2,sl,gn,_,by have:=HJ.out;omega,?_,by rw [HNJ.out];exact hp2⟩
       cases j' with
       | zero=>exact .inl ⟨rfl,by go_num⟩
       | succ q=>exact .inr ⟨q,rfl,by go_num⟩
      case measure=>simp [intOf]
     ·have HP:Hid (PuSt m k l x js w (n - (j'+1)+1) w8 { y with ss:=ss' } js1 s1 g1 (kk+1+1)):=hid_ (P.out.failed AL.out M7.out F1.out)
      go_wp2_with fail
      go_roundw
      case rel =>
       refine ⟨j',_,js1,s1,g1,_,by have:=HJ.out;omega,?_,by rw [HNJ.out];exact HP.out⟩
       cases j' with
       | zero=>exact .inl ⟨rfl,by go_num⟩
       | succ q=>exact .inr ⟨q,rfl,by go_num⟩
      case measure=>simp [intOf]
open Go.RowKit Go.BigFrame

theorem rowT_ne {e t:TypeId} (he:RowT e) (ht:¬ RowT t):e≠t:=fun q=>ht (q ▸ he)
theorem own_not_map {w:World} {b s n:Nat} {e:TypeId} {v:Value} {xs:List Value} (h:w.ownsRow b e s v n xs) {m:Nat} {k:Int} {l:Lm} {x:St} (hM:Mm w m k l x) {i:Nat} (hi:v.ownBlock=some i):i≠x.M:=by
  rcases h.2 with ⟨rfl,_⟩ | ⟨g,cap,cur,rfl,_,hh,_⟩
  · cases hi
  · have e1:g=i:=by simpa [Value.ownBlock] using hi
    subst e1
    have hb:Blk w g e cur:=hh
    intro e2
    exact hM.ck.mne hb e2.symm
theorem off_mall {w:World} {m:Nat} {k:Int} {l:Lm} {x:St} (hM:Mm w m k l x):OffRows w (mall m x):=fun h he i hi e=>by
  obtain ⟨cs,hG,_⟩:=hM.ar.hG
  obtain ⟨cap,cur,hT0,hH,_⟩:=id hM.tb
  rcases e with e | e | e | e | e
  · exact own_blk_ne h hM.b (rowT_ne he (by unfold RowT;decide)) (by rw [hi,e])
  · exact own_blk_ne h hG (rowT_ne he (by unfold RowT;decide)) (by rw [hi,e])
  · exact own_blk_ne h hH (rowT_ne he (by unfold RowT;decide)) (by rw [hi,e])
  · exact own_blk_ne h hM.ck.hC (rowT_ne he (by unfold RowT;decide)) (by rw [hi,e])
  · exact own_not_map h hM hi e
theorem off_lall {w:World} {m b0:Nat} {k:Int} {l:Lm} {x:St} (hM:Mm w m k l x) (hb:w.heap.size≤b0):OffRows w (lall m x b0):=fun h he i hi e=>by
  rcases e with e | e
  · exact off_mall hM h he i hi e
  · have:=(h.lt i hi).2
    omega
theorem Mm.npage {w:World} {m:Nat} {k:Int} {l:Lm} {x:St} {b:Nat} {cs:Array Value} (h:Mm w m k l x) (hb:Blk w b 48 cs):¬ mall m x b:=by
  obtain ⟨cs,hG,_⟩:=h.ar.hG
  obtain ⟨cap,cur,hT0,hH,_⟩:=id h.tb
  rintro (e | e | e | e | e)
  · exact Blk.ne_ hb h.b (by decide) e
  · exact Blk.ne_ hb hG (by decide) e
  · exact Blk.ne_ hb hH (by decide) e
  · exact Blk.ne_ hb h.ck.hC (by decide) e
  · exact h.ck.mne hb e.symm
theorem tuple_injQ {pv qv:Array Value} {ev fv:Value} (h:Value.tuple #[.agg pv,ev]=.tuple #[.agg qv,fv]):pv=qv∧ev=fv:=by
  injection h with h
  simpa using h
theorem made_q {b0:Nat} {s:LdS} {w w':World} {pv:Array Value} {ev:Value} (h:LdMade b0 s w (.tuple #[.agg pv,ev]) w'):∃ k,PgQ s.n s.hs s.hg (s.L.map (·.R)) s.refs w' pv ev k:=by
  rcases h.1 with ⟨leaf,lv,iv,A,c,B,d,C,x,D,y,h1,h2,h3⟩ | ⟨k,h1,_,h2⟩
  · obtain ⟨rfl,rfl⟩:=tuple_injQ h2
    exact ⟨0,.inl ⟨leaf,lv,iv,A,c,B,d,C,x,D,y,b0,h1,by rw [List.length_map],h3,rfl,rfl⟩⟩
  · obtain ⟨rfl,rfl⟩:=tuple_injQ h2
    exact ⟨k,.inr ⟨h1,rfl,rfl⟩⟩
theorem Laid.keep0 {w w':World} (h:Laid w) (hf:Fr none_ w w'):Laid w':=h.fr hf id
set_option maxHeartbeats 2000000 in
theorem ldPage_busy {b0 g:Nat} {w:World} {s:LdS} (h:Ldr b0 w g s) (ho:s.over=false):Calls Tryz.prog 25 #[.pointer (some ⟨g,0,none⟩)] w fun e w'=>e=.returned (.tuple #[.agg pgZ,errV 11])∧Fr none_ w w':=by
  obtain ⟨w0,hw0,f0,bx,bz⟩:=page_boxes w (.pointer (some ⟨g,0,none⟩))
  have BX:=hid_ bx
  have BZ:=hid_ bz
  have F0:=hid_ f0
  have H:=hid_ (h.keep f0)
  have x0:w0.cell? ⟨w.heap.size,0,none⟩=some (.pointer (some ⟨g,0,none⟩)):=bx.cell' rfl
  have g2:w0.cell? ⟨g,2,none⟩=some (.bool false):=by rw [← ho];exact H.out.b.cell' rfl
  clear bx bz f0 h ho
  go_enter Tryz.func25,Tryz.ntmps25
  go_upto_region 1 with fail
  change Code.wp _ _ _ _ ((w.alloc (.cells #[.pointer (some ⟨g,0,none⟩)] 84)).alloc (.cells pgZ 40))
  rw [← hw0]
  clear hw0
  go_wp2_with (refine wpList_store_mid rfl 40 (.tmp 2) (.tmp 17) rfl (w.heap.size+1) 0 pgZ rfl rfl (BZ.out.there7 rfl) page_size (by simp [Value.oneCell']) ?_;have ov:=BZ.out.over7 pgZ.toList rfl;obtain ⟨w9,hw9⟩:∃ z,z=w0.setCells (w.heap.size+1) 0 pgZ.toList:=⟨_,rfl⟩;rw [← hw9] at ov;change wpList _ _ _ _ _ (w0.setCells (w.heap.size+1) 0 pgZ.toList);rw [← hw9];have OV:=hid_ ov;clear hw9 ov)
  exact bodyPost_ret (results_cell_tmp7 _ _ rfl (w.heap.size+1) 0 pgZ.toList _ rfl (Blk.range7 (l:=pgZ.toList) OV.out.1) Tryz.underlying40 rfl page_size) rfl ⟨rfl,F0.out.then_only OV.out.2 (.inr (by omega))⟩
theorem q_same {ss:List Sl} {js:List Nat} {s0 g0:Int} {A:Option Addr} {cap:Nat} {D:Option Addr} {rc:Nat} {L:List Ch} {wv:Array Value} {kw k:Int} {s:LdS} {pv:Array Value} {ev:Value} {w8 w':World} (hq:PgQ s.n s.hs s.hg (s.L.map (·.R)) s.refs w8 pv ev k) (hn:s.n=0) (hs:s.hs=s0) (hg:s.hg=g0) (hL:s.L.map (·.R)=js.map (recOf ss)) (hr:s.refs=js.map (refOf ss)) (q:NowQ ss js s0 g0 A cap D rc L wv kw w') (hf8:Fr none_ w8 w') (hj:js.length≤400) :
    (Calls Tryz.prog 11 #[.agg pv,.agg wv] w' fun e w2=>e=.returned (.bool true)∧Fr none_ w' w2)∧k=kw∧((k=0∧ev=.nilIface)∨(k≠0∧ev=errV k)):=by
  have hlen:(js.map (refOf ss)).length=js.length:=List.length_map _
  have hq':PgQ 0 s0 g0 (L.map (·.R)) (js.map (refOf ss)) w8 pv ev k:=by
    rw [← hn,← hs,← hg,q.lr,← hL,← hr]
    exact hq
  have hw:PgW 0 s0 g0 (L.map (·.R)) A js.length cap D (js.map (refOf ss)).length rc w' wv kw:=by rw [hlen];exact q.pg.pg
  refine ⟨?_,pg_code hq' hw⟩
  have hrd:Reads w' 2 D (js.map (refOf ss)).length (rpFlat (js.map (refOf ss))):=by rw [hlen];exact Reads.of_own q.ro
  exact pg_same hq' hw hf8 (Fr.refl _ _) q.ch hrd (by omega) q.len hj (fun X hX=>⟨by have:=(q.ok X hX).zr;omega,by have:=(q.ok X hX).ze;omega⟩)
open Go.RowKit Go.BigFrame
theorem few10_ok (A:Option Addr) (n cap:Nat) (L:List Ch) (w:World) (h:InReads w A n L) (hw:RwIn L) (hm:n≤maxLen):Calls Tryz.prog 6 #[.slice A n cap] w fun e w'=>∃ b:Bool,e=.returned (.bool b)∧(b=true→FewOk7 L∧FewOk8 L∧n≤40)∧Fr none_ w w':=by
  have H:=hid_ h
  have HW:=hid_ hw
  have hn0:(0:Int)≤(n:Int):=Int.natCast_nonneg _
  clear h hw
  go_enter Tryz.func6,Tryz.ntmps6
  by_cases h40:n≤40
  · have d0:decide ((n:Int)≤40)=true:=by simp;omega
    have H40:=hid_ h40
    clear h40
    go_wp2_with fail
    refine (few7_ok A n cap L w H.out HW.out hm).mono ?_
    rintro e w1 ⟨b,rfl,hb,hf⟩
    have G0:=hid_ hb
    have F1:=hid_ hf
    clear hb hf
    cases b with
    | false =>
      go_wp2_with fail
      go_ret
      exact ⟨false,rfl,(fun h=>by cases h),F1.out⟩
    | true =>
      go_wp2_with fail
      refine (few8_ok A n cap L w1 (H.out.keep F1.out) hm).mono ?_
      rintro e w2 ⟨b,rfl,hb,hf⟩
      have G1:=hid_ hb
      replace F1:=hid_ (F1.out.then_none hf)
      clear hb hf
      cases b with
      | false =>
        go_wp2_with fail
        go_ret
        exact ⟨false,rfl,(fun h=>by cases h),F1.out⟩
      | true =>
        go_wp2_with fail
        go_ret
        exact ⟨true,rfl,(fun _=>⟨G0.out trivial,G1.out trivial,H40.out⟩),F1.out⟩
  · have d0:decide ((n:Int)≤40)=false:=by simp;omega
    clear h40
    go_wp2_with fail
    go_ret
    exact ⟨false,rfl,(fun h=>by cases h),Fr.refl _ _⟩
end Go.Proofs.YtfihfjbakfadkaaGreatDoor

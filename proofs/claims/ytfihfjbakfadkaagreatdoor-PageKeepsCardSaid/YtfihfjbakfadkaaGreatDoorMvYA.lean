/- Texts of one proof, merged: PKeeps10. -/
import Derived.Test.YtfihfjbakfadkaaGreatDoorMvI
import Derived.Test.YtfihfjbakfadkaaGreatDoorMvU
import Derived.Test.YtfihfjbakfadkaaGreatDoorMvY
namespace Go.Proofs.YtfihfjbakfadkaaGreatDoor
open Go.RowKit Go.BigFrame
set_option maxRecDepth 100000
set_option linter.unusedVariables false

theorem Blk.range0k {w:World} {g:Nat} {t:TypeId} {cs:Array Value} (h:Blk w g t cs):w.rangeAt g 0 cs.toList:=fun j v hv=>by
  rw [Nat.zero_add]
  exact h.cell' (by simpa using hv)
structure KeS (w7:World) (b0 m g:Nat) (K:Int) (y:St) (js:List Nat) (s0 g0:Int) (wr:World) (i:Nat) (s:LdS) (z:St) (kk:Int):Prop where
  mm:Mm wr m kk lim10 z
  ld:Ldr b0 wr g s
  ph:LdPh z.ss js 0 s0 g0 i s
  f7:Fr (lall m y b0) w7 wr
  st:Stand y.ss z.ss
  al:mall m z=mall m y
  p0:i=0→z=y
  pt:∃ js1 s1 g1,Pst z js1 s1 g1∧js1≠[]
  k0:0≤kk
  k1:kk≤K+200 * (i:Int)
theorem KeS.keep {w7:World} {b0 m g:Nat} {K:Int} {y:St} {js:List Nat} {s0 g0:Int} {wr w':World} {i:Nat} {s:LdS} {z:St} {kk:Int} (h:KeS w7 b0 m g K y js s0 g0 wr i s z kk) (hf:Fr none_ wr w'):KeS w7 b0 m g K y js s0 g0 w' i s z kk:=
  ⟨h.mm.keep hf,h.ld.keep hf,h.ph,h.f7.then_none hf,h.st,h.al,h.p0,h.pt,h.k0,h.k1⟩
theorem ke_step {w7:World} {b0 m g:Nat} {K:Int} {y:St} {js:List Nat} {s0 g0:Int} {wr:World} {i:Nat} {s:LdS} {z:St} {kk:Int} (h:KeS w7 b0 m g K y js s0 g0 wr i s z kk) (hb:∀ i,mall m y i→i < b0) (h1:K≤50000) (ho:On y lim10 js s0 g0) (hi:i≤js.length) :
    Calls Tryz.prog 28 #[.pointer (some ⟨g,0,none⟩),.pointer (some ⟨m,0,none⟩)] wr fun e w'=>∃ s',e=.returned (.bool (decide (i=js.length)))∧KeS w7 b0 m g K y js s0 g0 w' (i+1) s' z (kk+1):=by
  have h4:=ho.l4
  have hls:=ho.ls
  have hls':js.length≤100:=hls
  have hk0:=h.k0
  have hk1:=h.k1
  have hb':∀ i,mall m z i→i < b0:=by rw [h.al];exact hb
  have hli:Links z.ss js s0 g0:=(h.st js s0 g0 ho.p.li).1
  have fin:∀ {w':World} {s':LdS},LdPh z.ss js 0 s0 g0 (i+1) s'→Ldr b0 w' g s'→Mm w' m (kk+1) lim10 z→Fr (lown m z g s) wr w'→KeS w7 b0 m g K y js s0 g0 w' (i+1) s' z (kk+1):=fun {w' s'} ph hl hmm hf =>
    ⟨hmm,hl,ph,h.f7.trans hf (fun _ _=>id) (fun j _ e=>by
      rcases h.ld.lall j e with e | e
      · exact .inl (by rw [← h.al];exact e)
      · exact .inr e),h.st,h.al,fun e=>absurd e (Nat.succ_ne_zero i),h.pt,by omega,by push_cast;omega⟩
  rcases Nat.eq_zero_or_pos i with h0 | h0
  · subst h0
    obtain rfl:=h.p0 rfl
    refine (step_ph h.ld h.mm hb' hk0 (by omega) h.ph hi ⟨0,rfl,ho.p.pg⟩ hli ho.ne hls h4).mono ?_
    rintro e w' ⟨s',he,ph,hl,hmm,hf,_⟩
    exact ⟨s',he,fin ph hl hmm hf⟩
  · refine (step_phK h.ld h.mm hb' hk0 (by omega) h.ph hi h0 hli ho.ne hls h4).mono ?_
    rintro e w' ⟨s',he,ph,hl,hmm,hf,_⟩
    exact ⟨s',he,fin ph hl hmm hf⟩
theorem KeS.pushed {w7:World} {b0 m g:Nat} {K:Int} {y:St} {js:List Nat} {s0 g0:Int} {wr w':World} {i d:Nat} {s:LdS} {z z':St} {kk kk' s1 g1:Int} {js0 js1:List Nat} (h:KeS w7 b0 m g K y js s0 g0 wr (i+1) s z kk) (hb:∀ i,mall m y i→i < b0) (hli:Links y.ss js s0 g0) (hp:PuSt m kk lim10 z js0 wr d w' z' js1 s1 g1 kk') (hd:d≤40) (hK:kk≤K+200 * (i:Int)+1):KeS w7 b0 m g K y js s0 g0 w' (i+1) s z' kk':=by
  have hlz:=(h.st js s0 g0 hli).1
  have e1:=hp.k0
  have e2:=hp.k1
  have e3:=h.k0
  exact ⟨hp.mm,h.ld.fr hp.fr (fun j e=>hb j (by rw [← h.al];exact e)),h.ph.stand hlz hp.st,h.f7.trans hp.fr (fun _ _=>id) (fun j _ e=>.inl (by rw [← h.al];exact e)),h.st.trans hp.st,hp.al.trans h.al,fun e=>absurd e (Nat.succ_ne_zero i),⟨js1,s1,g1,hp.p,hp.ne⟩,by omega,by push_cast;omega⟩
set_option maxHeartbeats 16000000 in
theorem pkeeps10_law (A:Option Addr) (n cap:Nat) (L:List Ch) (A2:Option Addr) (n2 cap2:Nat) (L2:List Ch) (gv:Nat) (w:World) (h:InReads w A n L) (hw:RwIn L) (hm:n≤maxLen) (h2:InReads w A2 n2 L2) (hw2:RwIn L2) (hm2:n2≤maxLen) (hgv:gv < 256) (hL:Laid w) :
  Calls Tryz.prog 5 #[.slice A n cap,.slice A2 n2 cap2,.int .u8 (gv:Int)] w (RetQ (.bool true) w):=by
 have H:=hid_ h
 have HW:=hid_ hw
 have HL:=hid_ hL
 have HM:=hid_ hm
 have H2:=hid_ h2
 have HW2:=hid_ hw2
 have HM2:=hid_ hm2
 have HGV:=hid_ hgv
 clear h hw hL hm h2 hw2 hm2 hgv
 go_enter Tryz.func5,Tryz.ntmps5
 go_wp2_with fail
 refine (few10_ok A n cap L w H.out HW.out HM.out).mono ?_
 rintro e w0 ⟨b,rfl,hb,hf⟩
 have G0:=hid_ hb
 have F0:=hid_ hf
 clear hb hf
 cases b with
 | false =>
  go_wp2_with fail
  refine (awake10_ok w0).mono ?_
  rintro e w2 ⟨rfl,hf⟩
  go_wp2_with fail
  go_ret
  exact ⟨rfl,F0.out.then_none hf⟩
 | true =>
 have HF0:=hid_ (G0.out rfl)
 clear G0
 go_wp2_with fail
 refine (few10_ok A2 n2 cap2 L2 w0 (H2.out.keep F0.out) HW2.out HM2.out).mono ?_
 rintro e w1 ⟨b,rfl,hb,hf⟩
 have G2:=hid_ hb
 have F1:=hid_ (F0.out.then_none hf)
 clear hb hf F0
 cases b with
 | false =>
  go_wp2_with fail
  refine (awake10_ok w1).mono ?_
  rintro e w2 ⟨rfl,hf⟩
  go_wp2_with fail
  go_ret
  exact ⟨rfl,F1.out.then_none hf⟩
 | true =>
 have PI:Hid (PuIn w A n L∧n≤40):=hid_ ⟨⟨H.out,few_prec H.out HW.out HF0.out.1 HF0.out.2.1⟩,HF0.out.2.2⟩
 have PI2:Hid (PuIn w A2 n2 L2∧n2≤40):=hid_ ⟨⟨H2.out,few_prec H2.out HW2.out (G2.out rfl).1 (G2.out rfl).2.1⟩,(G2.out rfl).2.2⟩
 clear G2
 go_wp2_with fail
 refine (limits10_ok w1).mono ?_
 rintro e w2 ⟨rfl,hf2⟩
 have F2:=hid_ (F1.out.then_none hf2)
 clear hf2 F1
 go_wp2_with fail
 refine (memNew_ok lim10 _ lim10_right).mono ?_
 rintro e w3 ⟨m,a,G,vr,ve,T0,H0,C0,M0,rfl,hM,hf3,hm3,hC3,hM3,hG3,hH3⟩
 obtain ⟨x,hx⟩:∃ x:St,x=⟨a,G,ss10 vr ve,T0,H0,ps10,C0,M0,1,0,.map []⟩:=⟨_,rfl⟩
 have M3:Hid (Mm w3 m 0 lim10 x):=hid_ (by rw [hx];exact hM)
 have PS:Hid (Pst x [0] 1 1):=hid_ (by rw [hx];exact pst_new vr ve a G T0 H0 C0 M0)
 have HS0:Hid (x.ss.length=100):=hid_ (by rw [hx];rfl)
 have HN:Hid (∀ i,mall m x i→w.heap.size≤i):=hid_ (by
  have h0:=F2.out.size
  subst hx
  rintro i (e | e | e | e | e) <;> subst e <;> omega)
 have F3:=hid_ (F2.out.then_none hf3)
 clear hM hf3 hx hm3 hC3 hM3 hG3 hH3 F2
 go_wp2_with fail
 refine (push10_ok true w3 PI.out.1 F3.out (by have:=PI.out.2;omega) M3.out PS.out (by simp) HN.out (by omega) (by omega)).mono ?_
 rintro e w4 ⟨rfl,y,js,s0,g0,K,hps⟩
 have M4:=hid_ hps.mm
 have PT:=hid_ hps.p
 have JN:=hid_ hps.ne
 have SL:Hid (y.ss.length≤100):=hid_ (by rw [hps.len,HS0.out];exact Nat.le_refl _)
 have KK:Hid (0≤K∧K≤200):=hid_ (by
  have h1:=hps.k0
  have h2:=hps.k1
  have h3:=PI.out.2
  omega)
 have JL:Hid (js.length≤41):=hid_ (by
  have h3:=hps.le
  have h4:=PI.out.2
  simp only [List.length_cons,List.length_nil] at h3
  omega)
 have F4:Hid (Fr none_ w w4):=hid_ (fr_old F3.out HN.out hps.fr)
 have HY:Hid (∀ i,mall m y i→w.heap.size≤i):=hid_ (by rw [hps.al];exact HN.out)
 clear hps M3 PS F3 HN
 go_wp2_with fail
 refine (shown10_ok w4 M4.out PT.out JN.out (by have:=JL.out;omega)).mono ?_
 rintro e w5 ⟨LP,PA,pc,T,tc,C,cn,cc,rfl,hsh,htb,hf5⟩
 have SH:=hid_ hsh
 have TB:=hid_ htb
 have F45:=hid_ hf5
 clear hsh htb hf5
 go_wp2_with fail
 refine (now10_ok (T:=T) (tc:=tc) (C:=C) (cn:=cn) (cc:=cc) w5 SH.out TB.out PT.out.li JN.out (by have:=JL.out;omega) SL.out PT.out.rc).mono ?_
 rintro e w6 ⟨QA,qc,QD,qd,QL,wv,kw,rfl,hws,hwo,hq,hf6⟩
 have NQ:=hid_ hq
 have F46:=hid_ (F45.out.then_none hf6)
 clear hq hf6 SH TB F45
 go_upto_region 6 with (refine wpList_store_mid rfl 48 (.tmp 9) (.tmp 38) rfl w6.heap.size 0 wv rfl rfl (by rw [hws];exact new_there w6 _ pgZ) (by rw [hws];exact rpage_size) hwo ?_;obtain ⟨w7,hw_⟩:∃ z,z=(w6.alloc (.cells pgZ 48)).setCells w6.heap.size 0 wv.toList:=⟨_,rfl⟩;change wpList _ _ _ _ _ ((w6.alloc (.cells pgZ 48)).setCells w6.heap.size 0 wv.toList);rw [← hw_];have Q_w7:Hid (Blk w7 w6.heap.size 48 wv∧Fr none_ w6 w7):=hid_ (by rw [hw_];have h9:=new_copy w6 48 pgZ wv.toList (by rw [Array.length_toList,hws];rfl);simpa using h9);clear hw_)
 obtain ⟨gW,hgW⟩:∃ g,g=w6.heap.size:=⟨_,rfl⟩
 have BW:=hid_ Q_w7.out.1
 rw [← hgW] at BW
 rw [← hgW]
 replace NQ:=hid_ (NQ.out.fr Q_w7.out.2 (OffRows.none_ _))
 have M7:=hid_ ((M4.out.keep F46.out).keep Q_w7.out.2)
 have F7:=hid_ ((F4.out.then_none F46.out).then_none Q_w7.out.2)
 clear hgW Q_w7 F46 M4 F4
 go_wp2_with fail
 refine (ldBegin_ok 0 w7).mono ?_
 rintro e w8 ⟨rfl,hL8,hf8⟩
 obtain ⟨b0,hb0⟩:∃ b,b=w7.heap.size:=⟨_,rfl⟩
 rw [← hb0] at hL8
 rw [← hb0]
 have HB:Hid (∀ i,mall m y i→i < b0):=hid_ (by rw [hb0];exact M7.out.mall_lt)
 have HB7:Hid (w7.heap.size≤b0):=hid_ (by rw [hb0];exact Nat.le_refl _)
 have HWB:Hid (w.heap.size≤b0):=hid_ (by rw [hb0];exact F7.out.size)
 have ON:Hid (On y lim10 js s0 g0):=hid_ ⟨PT.out,JN.out,by show js.length≤100;have:=JL.out;omega,by have:=JL.out;omega⟩
 have hkk1:=KK.out.1
 have hkk2:=KK.out.2
 have S8:Hid (KeS w7 b0 m b0 K y js s0 g0 w8 0 (LdS.new 0) y K):=hid_ ⟨M7.out.keep hf8,hL8,LdPh.new _ _ _ _ _,(hf8.mono (fun _ _ e=>e.elim)),Stand.refl _,rfl,fun _=>rfl,⟨js,s0,g0,PT.out,JN.out⟩,hkk1,by omega⟩
 have hj0:(0:Int)≤(js.length:Int):=Int.natCast_nonneg _
 have hj1:(js.length:Int)≤41:=by have:=JL.out;omega
 obtain ⟨gm,hgm⟩:∃ q,q=gv % (js.length+1):=⟨_,rfl⟩
 have hmI:(gv:Int) % ((js.length:Int)+1)=(gm:Int):=by rw [hgm];push_cast;rfl
 have hgmn:gm≤js.length:=by rw [hgm];have:=Nat.mod_lt gv (show 0 < js.length+1 by omega);omega
 have hgv0:(0:Int)≤(gv:Int):=Int.natCast_nonneg _
 have hgv1:(gv:Int)≤255:=by have:=HGV.out;omega
 have hgm0:(0:Int)≤(gv:Int) % ((js.length:Int)+1)∧(gv:Int) % ((js.length:Int)+1)≤41:=by omega
 have hjz:((js.length:Int)+1==0)=false:=by simp;omega
 have HMI:=hid_ hmI
 clear hL8 hf8 hb0 hgm hmI
 go_wp2_with fail
 go_loopw [13,43] (fun u v wr=>∃ (i:Nat) (s:LdS) (z:St) (kk:Int),i≤js.length+1∧u=.bool (decide (i=js.length+1))∧v=.int .i64 i∧KeS w7 b0 m b0 K y js s0 g0 wr i s z kk) (fun _ v _=>js.length+1 - (intOf v).toNat)
 case atStart=>exact ⟨0,_,y,K,Nat.zero_le _,by simp,rfl,S8.out⟩
 case round =>
  obtain ⟨i,s,z,kk,hi,rfl,rfl,hs⟩:=hrel
  have S:=hid_ hs
  clear hs S8
  have hi0:(0:Int)≤(i:Int):=Int.natCast_nonneg _
  by_cases hlt:i < js.length+1
  ·have hi1:(i:Int) < (js.length:Int)+1:=by omega
   have HI:=hid_ hlt
   rw [decide_eq_false (show ¬ i=js.length+1 by omega)]
   clear hlt hi
   go_wp2_with fail
   refine (ke_step S.out HB.out (by have:=KK.out;omega) ON.out (by have:=HI.out;omega)).mono ?_
   rintro e w9 ⟨s',rfl,hs⟩
   have S2:=hid_ hs
   have HK1:Hid (kk+1≤K+200 * (i:Int)+1):=hid_ (by have:=S.out.k1;omega)
   clear hs S
   rw [show decide (i=js.length)=decide (i+1=js.length+1) from by simp]
   go_upto_region 14 with fail
   go_cut [55] (fun u wq=>u=.bool ((i:Int)==(gm:Int))∧w9=wq)
   case first =>
    go_wp2_with fail
    (try simp only [HMI.out])
    go_meet
    case rel=>exact ⟨by first | rfl | (simp [HMI.out]),rfl⟩
   case rest =>
    obtain ⟨rfl,rfl⟩:=hcut
    obtain ⟨bb,hbb⟩:∃ bb,bb=((i:Int)==(gm:Int)):=⟨_,rfl⟩
    rw [← hbb]
    clear hbb
    cases bb with
    | false =>
     go_wp2_with fail
     go_roundw
     case rel=>exact ⟨i+1,s',z,kk+1,by have:=HI.out;omega,by simp,by go_num,S2.out⟩
     case measure=>have:=HI.out;simp [intOf];omega
    | true =>
     have FW:Hid (Fr none_ w w9):=hid_ (F7.out.trans S2.out.f7 (fun _ _=>id) (fun i hi e=>by
      rcases e with e | e
      ·have:=HY.out i e;omega
      ·have:=HWB.out;omega))
     obtain ⟨js0,s9,g9,hpt,hjn⟩:=S2.out.pt
     have PTz:=hid_ hpt
     have JNz:=hid_ hjn
     clear hpt hjn
     go_wp2_with fail
     refine (push10_ok false w9 PI2.out.1 FW.out (by have:=PI2.out.2;omega) S2.out.mm PTz.out JNz.out (by rw [S2.out.al];exact HY.out) S2.out.k0 (by have:=HK1.out;have:=KK.out;have:=HI.out;have:=JL.out;omega)).mono ?_
     rintro e w10 ⟨rfl,z',js1,s1,g1,kk',hps⟩
     have S3:=hid_ (S2.out.pushed HB.out PT.out.li hps (by exact PI2.out.2) HK1.out)
     clear hps S2
     go_wp2_with fail
     go_roundw
     case rel=>exact ⟨i+1,s',z',kk',by have:=HI.out;omega,by simp,by go_num,S3.out⟩
     case measure=>have:=HI.out;simp [intOf];omega
  ·obtain rfl:i=js.length+1:=by omega
   clear hi hlt
   rw [decide_eq_true (show js.length+1=js.length+1 from rfl)]
   have hsd:=S.out.st js s0 g0 PT.out.li
   have HSD:=hid_ hsd
   have HRC:Hid (∀ j ∈ js,PRec (recOf z.ss j)):=hid_ (fun j hj=>by
    have e:recOf z.ss j=recOf y.ss j:=List.map_inj_left.1 hsd.2.1 j hj
    rw [e]
    exact PT.out.rc j hj)
   clear hsd
   go_wp2_with fail
   refine (ph_page S.out.ld S.out.ph HRC.out (by have:=JL.out;omega)).mono ?_
   rintro e w9 ⟨v9,rfl,hmd⟩
   obtain ⟨pv,ev,rfl,hps,hpo⟩:=hmd.shape
   have MD:=hid_ hmd
   have F9:=hid_ hmd.2
   clear hmd
   go_upto_region 18 with (refine wpList_store_mid rfl 40 (.tmp 15) (.tmp 63) rfl w9.heap.size 0 pv rfl rfl (by rw [hps];exact new_there w9 _ pgZ) (by rw [hps];exact page_size) hpo ?_;obtain ⟨w10,hw_⟩:∃ z,z=(w9.alloc (.cells pgZ 40)).setCells w9.heap.size 0 pv.toList:=⟨_,rfl⟩;change wpList _ _ _ _ _ ((w9.alloc (.cells pgZ 40)).setCells w9.heap.size 0 pv.toList);rw [← hw_];have Q_w10:Hid (Blk w10 w9.heap.size 40 pv∧Fr none_ w9 w10):=hid_ (by rw [hw_];have h9:=new_copy w9 40 pgZ pv.toList (by rw [Array.length_toList,hps];rfl);simpa using h9);clear hw_)
   have S10:=hid_ (S.out.keep (F9.out.then_none Q_w10.out.2))
   obtain ⟨gP,hgP⟩:∃ g,g=w9.heap.size:=⟨_,rfl⟩
   have BP:=hid_ Q_w10.out.1
   rw [← hgP] at BP
   rw [← hgP]
   have FP:=hid_ Q_w10.out.2
   clear hgP Q_w10
   have NQ10:=hid_ (NQ.out.fr S10.out.f7 (off_lall M7.out HB7.out))
   have BW10:=hid_ (BW.out.fr S10.out.f7 (fun e=>by
    rcases e with e | e
    ·exact M7.out.npage BW.out e
    ·have:=BW.out.lt;have:=HB7.out;omega))
   have F10:Hid (Fr none_ w w10):=hid_ (F7.out.trans S10.out.f7 (fun _ _=>id) (fun i hi e=>by
    rcases e with e | e
    ·have:=HY.out i e;omega
    ·have:=HWB.out;omega))
   have HL10:=hid_ (HL.out.keep0 F10.out)
   obtain ⟨kq,hkq⟩:=made_q MD.out
   have hd:=S.out.ph.done
   obtain ⟨hsm,hke,hcd⟩:=q_same hkq S.out.ph.nn hd.2.2.1 hd.2.2.2.1 (hd.2.2.2.2.1.trans HSD.out.2.1) (hd.2.2.2.2.2.trans HSD.out.2.2) NQ10.out FP.out (by have:=JL.out;omega)
   subst hke
   have SM:=hid_ hsm
   have HCD:=hid_ hcd
   clear hkq hd hsm hcd MD
   go_wp2_with (first | (refine wpList_load_midG (by kernel_rfl) 40 (.tmp 15) rfl gP 0 rfl pv.toList _ (Blk.range0k BP.out) Tryz.underlying40 rfl (by rw [Array.length_toList,hps];exact page_size) ?_) | (refine wpList_load_midG (by kernel_rfl) 48 (.tmp 9) rfl gW 0 rfl wv.toList _ (Blk.range0k BW10.out) Tryz.underlying48 rfl (by rw [Array.length_toList,hws];exact rpage_size) ?_))
   try rw [Array.toArray_toList,Array.toArray_toList]
   refine SM.out.mono ?_
   rintro e w11 ⟨rfl,hf11⟩
   replace F10:=hid_ (F10.out.then_none hf11)
   replace HL10:=hid_ (HL10.out.keep0 hf11)
   clear hf11 SM
   rcases HCD.out with hz | hz
   rotate_left
   ·obtain ⟨hkq,rfl⟩:=hz
    have e1:(kq==kq)=true:=by simp
    go_wp2_with fail
    refine (code_hit kq w11 HL10.out).mono ?_
    rintro e w12 ⟨rfl,hf12⟩
    replace F10:=hid_ (F10.out.then_none hf12)
    clear hf12
    go_wp2_with fail
    refine (awake10_ok w12).mono ?_
    rintro e w13 ⟨rfl,hf13⟩
    go_wp2_with fail
    go_ret
    exact ⟨rfl,F10.out.then_none hf13⟩
   obtain ⟨rfl,rfl⟩:=hz
   go_wp2_with fail
   refine (code_nil w11).mono ?_
   rintro e w12 ⟨rfl,hf12⟩
   replace F10:=hid_ (F10.out.then_none hf12)
   clear hf12
   go_wp2_with fail
   refine (awake10_ok w12).mono ?_
   rintro e w13 ⟨rfl,hf13⟩
   go_wp2_with fail
   go_ret
   exact ⟨rfl,F10.out.then_none hf13⟩
theorem pkeeps10_walk_i {H:Type} {enc:TypeId × Value→H} (A:Option Addr) (n cap:Nat) (hc:n≤cap) (hm:cap≤maxLen) (A2:Option Addr) (n2 cap2:Nat) (hc2:n2≤cap2) (hm2:cap2≤maxLen) (g:Int) (hg:(Lit.int .u8 g).wf=true) (w:World) (h:RecordAt enc w A n) (h2:RecordAt enc w A2 n2) (hL:Laid w):Calls Tryz.prog 5 #[.slice A n cap,.slice A2 n2 cap2,.int .u8 g] w fun e w'=>e=.returned (.bool true)∧Fr none_ w w':=by
  obtain ⟨L,hi,hr⟩:=ins_of2 h
  obtain ⟨L2,hi2,hr2⟩:=ins_of2 h2
  have hg2:=wf_u8 hg
  obtain ⟨gv,rfl⟩:∃ q:Nat,g=q:=⟨g.toNat,by omega⟩
  exact pkeeps10_law A n cap L A2 n2 cap2 L2 gv w hi hr (Nat.le_trans hc hm) hi2 hr2 (Nat.le_trans hc2 hm2) (by omega) hL
end Go.Proofs.YtfihfjbakfadkaaGreatDoor

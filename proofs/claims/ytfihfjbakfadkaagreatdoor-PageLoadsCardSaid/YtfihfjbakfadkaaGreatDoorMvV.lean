/- Texts of one proof, merged: PLoads10. -/
import Derived.Test.YtfihfjbakfadkaaGreatDoorMvI
import Derived.Test.YtfihfjbakfadkaaGreatDoorMvU
namespace Go.Proofs.YtfihfjbakfadkaaGreatDoor
open Go.RowKit Go.BigFrame
set_option maxRecDepth 100000
set_option linter.unusedVariables false

theorem Blk.range0l {w:World} {g:Nat} {t:TypeId} {cs:Array Value} (h:Blk w g t cs):w.rangeAt g 0 cs.toList:=fun j v hv=>by
  rw [Nat.zero_add]
  exact h.cell' (by simpa using hv)
structure LoS (w7:World) (b0 m g:Nat) (K:Int) (y:St) (js:List Nat) (s0 g0:Int) (wr:World) (i:Nat) (s:LdS):Prop where
  mm:Mm wr m (K+(i:Int)) lim10 y
  ld:Ldr b0 wr g s
  ph:LdPh y.ss js 0 s0 g0 i s
  f7:Fr (lall m y b0) w7 wr
theorem LoS.keep {w7:World} {b0 m g:Nat} {K:Int} {y:St} {js:List Nat} {s0 g0:Int} {wr w':World} {i:Nat} {s:LdS} (h:LoS w7 b0 m g K y js s0 g0 wr i s) (hf:Fr none_ wr w'):LoS w7 b0 m g K y js s0 g0 w' i s:=
  ⟨h.mm.keep hf,h.ld.keep hf,h.ph,h.f7.then_none hf⟩
theorem lo_step {w7:World} {b0 m g:Nat} {K:Int} {y:St} {js:List Nat} {s0 g0:Int} {wr:World} {i:Nat} {s:LdS} (h:LoS w7 b0 m g K y js s0 g0 wr i s) (hb:∀ i,mall m y i→i < b0) (h0:0≤K) (h1:K≤50000) (ho:On y lim10 js s0 g0) (hi:i≤js.length) :
    Calls Tryz.prog 28 #[.pointer (some ⟨g,0,none⟩),.pointer (some ⟨m,0,none⟩)] wr fun e w'=>∃ s',e=.returned (.bool (decide (i=js.length)))∧LoS w7 b0 m g K y js s0 g0 w' (i+1) s':=by
  have h4:=ho.l4
  refine (step_ph h.ld h.mm hb (by omega) (by omega) h.ph hi ⟨0,rfl,ho.p.pg⟩ ho.p.li ho.ne ho.ls ho.l4).mono ?_
  rintro e w' ⟨s',he,ph,hl,hmm,hf,_⟩
  refine ⟨s',he,?_,hl,ph,h.f7.trans hf (fun _ _=>id) (fun i _ e=>h.ld.lall i e)⟩
  have e1:K+((i+1:Nat):Int)=K+(i:Int)+1:=by push_cast;omega
  rw [e1]
  exact hmm
set_option maxHeartbeats 16000000 in
theorem ploads10_law (A:Option Addr) (n cap:Nat) (L:List Ch) (base:Bool) (w:World) (h:InReads w A n L) (hw:RwIn L) (hm:n≤maxLen) (hL:Laid w) :
  Calls Tryz.prog 4 #[.slice A n cap,.bool base] w (RetQ (.bool true) w):=by
 have H:=hid_ h
 have HW:=hid_ hw
 have HL:=hid_ hL
 have HM:=hid_ hm
 clear h hw hL hm
 go_enter Tryz.func4,Tryz.ntmps4
 go_wp2_with fail
 refine (few10_ok A n cap L w H.out HW.out HM.out).mono ?_
 rintro e w1 ⟨b,rfl,hb,hf⟩
 have G0:=hid_ hb
 have F1:=hid_ hf
 clear hb hf
 cases b with
 | false =>
  go_wp2_with fail
  refine (awake10_ok w1).mono ?_
  rintro e w2 ⟨rfl,hf⟩
  go_wp2_with fail
  go_ret
  exact ⟨rfl,F1.out.then_none hf⟩
 | true =>
 have PI:Hid (PuIn w A n L∧n≤40):=hid_ ⟨⟨H.out,few_prec H.out HW.out (G0.out rfl).1 (G0.out rfl).2.1⟩,(G0.out rfl).2.2⟩
 clear G0
 go_wp2_with fail
 refine (limits10_ok w1).mono ?_
 rintro e w2 ⟨rfl,hf2⟩
 have F2:=hid_ (F1.out.then_none hf2)
 clear hf2 F1
 go_wp2_with fail
 refine (memNew_ok lim10 _ lim10_right).mono ?_
 rintro e w3 ⟨m,a,G,vr,ve,T0,H0,C0,M0,rfl,hM,hf3,hm3,hC3,hM3,hG3,hH3⟩
 obtain ⟨x,hx⟩:∃ x:St,x=⟨a,G,ss10 vr ve,T0,H0,ps10,C0,M0,1,0,.map []⟩:=⟨_,rfl⟩
 have M3:Hid (Mm w3 m 0 lim10 x):=hid_ (by rw [hx];exact hM)
 have PS:Hid (Pst x [0] 1 1):=hid_ (by rw [hx];exact pst_new vr ve a G T0 H0 C0 M0)
 have HS0:Hid (x.ss.length=100):=hid_ (by rw [hx];rfl)
 have HN:Hid (∀ i,mall m x i→w.heap.size≤i):=hid_ (by
  have h0:=F2.out.size
  subst hx
  rintro i (e | e | e | e | e) <;> subst e <;> omega)
 have F3:=hid_ (F2.out.then_none hf3)
 clear hM hf3 hx hm3 hC3 hM3 hG3 hH3 F2
 go_wp2_with fail
 refine (push10_ok base w3 PI.out.1 F3.out (by have:=PI.out.2;omega) M3.out PS.out (by simp) HN.out (by omega) (by omega)).mono ?_
 rintro e w4 ⟨rfl,y,js,s0,g0,K,hps⟩
 have M4:=hid_ hps.mm
 have PT:=hid_ hps.p
 have JN:=hid_ hps.ne
 have SL:Hid (y.ss.length≤100):=hid_ (by rw [hps.len,HS0.out];exact Nat.le_refl _)
 have KK:Hid (0≤K∧K≤200):=hid_ (by
  have h1:=hps.k0
  have h2:=hps.k1
  have h3:=PI.out.2
  omega)
 have JL:Hid (js.length≤41):=hid_ (by
  have h3:=hps.le
  have h4:=PI.out.2
  simp only [List.length_cons,List.length_nil] at h3
  omega)
 have F4:Hid (Fr none_ w w4):=hid_ (fr_old F3.out HN.out hps.fr)
 have HY:Hid (∀ i,mall m y i→w.heap.size≤i):=hid_ (by rw [hps.al];exact HN.out)
 clear hps M3 PS F3 HN
 go_wp2_with fail
 refine (shown10_ok w4 M4.out PT.out JN.out (by have:=JL.out;omega)).mono ?_
 rintro e w5 ⟨LP,PA,pc,T,tc,C,cn,cc,rfl,hsh,htb,hf5⟩
 have SH:=hid_ hsh
 have TB:=hid_ htb
 have F45:=hid_ hf5
 clear hsh htb hf5
 go_wp2_with fail
 refine (now10_ok (T:=T) (tc:=tc) (C:=C) (cn:=cn) (cc:=cc) w5 SH.out TB.out PT.out.li JN.out (by have:=JL.out;omega) SL.out PT.out.rc).mono ?_
 rintro e w6 ⟨QA,qc,QD,qd,QL,wv,kw,rfl,hws,hwo,hq,hf6⟩
 have NQ:=hid_ hq
 have F46:=hid_ (F45.out.then_none hf6)
 clear hq hf6 SH TB F45
 go_upto_region 6 with (refine wpList_store_mid rfl 48 (.tmp 7) (.tmp 34) rfl w6.heap.size 0 wv rfl rfl (by rw [hws];exact new_there w6 _ pgZ) (by rw [hws];exact rpage_size) hwo ?_;obtain ⟨w7,hw_⟩:∃ z,z=(w6.alloc (.cells pgZ 48)).setCells w6.heap.size 0 wv.toList:=⟨_,rfl⟩;change wpList _ _ _ _ _ ((w6.alloc (.cells pgZ 48)).setCells w6.heap.size 0 wv.toList);rw [← hw_];have Q_w7:Hid (Blk w7 w6.heap.size 48 wv∧Fr none_ w6 w7):=hid_ (by rw [hw_];have h9:=new_copy w6 48 pgZ wv.toList (by rw [Array.length_toList,hws];rfl);simpa using h9);clear hw_)
 obtain ⟨gW,hgW⟩:∃ g,g=w6.heap.size:=⟨_,rfl⟩
 have BW:=hid_ Q_w7.out.1
 rw [← hgW] at BW
 rw [← hgW]
 replace NQ:=hid_ (NQ.out.fr Q_w7.out.2 (OffRows.none_ _))
 have M7:=hid_ ((M4.out.keep F46.out).keep Q_w7.out.2)
 have F7:=hid_ ((F4.out.then_none F46.out).then_none Q_w7.out.2)
 clear hgW Q_w7 F46 M4 F4
 go_wp2_with fail
 refine (memCount_ok w7 M7.out).mono ?_
 rintro e w7' ⟨rfl,rfl⟩
 go_wp2_with fail
 refine (ldBegin_ok 0 w7).mono ?_
 rintro e w8 ⟨rfl,hL8,hf8⟩
 obtain ⟨b0,hb0⟩:∃ b,b=w7.heap.size:=⟨_,rfl⟩
 rw [← hb0] at hL8
 rw [← hb0]
 have HB:Hid (∀ i,mall m y i→i < b0):=hid_ (by rw [hb0];exact M7.out.mall_lt)
 have HB7:Hid (w7.heap.size≤b0):=hid_ (by rw [hb0];exact Nat.le_refl _)
 have HWB:Hid (w.heap.size≤b0):=hid_ (by rw [hb0];exact F7.out.size)
 have ON:Hid (On y lim10 js s0 g0):=hid_ ⟨PT.out,JN.out,by show js.length≤100;have:=JL.out;omega,by have:=JL.out;omega⟩
 have S8:Hid (LoS w7 b0 m b0 K y js s0 g0 w8 0 (LdS.new 0)):=hid_ ⟨by have:=M7.out.keep hf8;simpa using this,hL8,LdPh.new _ _ _ _ _,(hf8.mono (fun _ _ e=>e.elim))⟩
 have hkk1:=KK.out.1
 have hkk2:=KK.out.2
 have hj0:(0:Int)≤(js.length:Int):=Int.natCast_nonneg _
 have hj1:(js.length:Int)≤41:=by have:=JL.out;omega
 clear hL8 hf8 hb0
 go_wp2_with fail
 go_loopw [41] (fun v wr=>∃ (i:Nat) (s:LdS),i≤js.length+1∧v=.int .i64 i∧LoS w7 b0 m b0 K y js s0 g0 wr i s) (fun v _=>js.length+1 - (intOf v).toNat)
 case atStart=>exact ⟨0,_,Nat.zero_le _,rfl,S8.out⟩
 case round =>
  obtain ⟨i,s,hi,rfl,hs⟩:=hrel
  have S:=hid_ hs
  clear hs S8
  have hi0:(0:Int)≤(i:Int):=Int.natCast_nonneg _
  by_cases hlt:i < js.length+1
  ·have hi1:(i:Int) < (js.length:Int)+1:=by omega
   have HI:=hid_ hlt
   have hov:s.over=false:=by rw [S.out.ph.ov];exact decide_eq_false (by omega)
   clear hlt hi
   have HOV:=hid_ hov
   clear hov
   go_wp2_with fail
   refine (ldPage_busy S.out.ld HOV.out).mono ?_
   rintro e w9 ⟨rfl,hf9⟩
   replace S:=hid_ (S.out.keep hf9)
   clear hf9
   go_upto_region 12 with (refine wpList_store_mid rfl 40 (.tmp 13) (.tmp 47) rfl w9.heap.size 0 pgZ rfl rfl (new_there w9 _ pgZ) page_size (by simp [Value.oneCell']) ?_;obtain ⟨w10,hw10⟩:∃ z,z=(w9.alloc (.cells pgZ 40)).setCells w9.heap.size 0 pgZ.toList:=⟨_,rfl⟩;change wpList _ _ _ _ _ ((w9.alloc (.cells pgZ 40)).setCells w9.heap.size 0 pgZ.toList);rw [← hw10];have K10:Hid (Fr none_ w9 w10):=hid_ (by rw [hw10];exact (new_copy w9 _ pgZ _ rfl).2);clear hw10)
   replace S:=hid_ (S.out.keep K10.out)
   clear K10
   go_wp2_with fail
   refine (isF 11 11 w10).mono ?_
   rintro e w10' ⟨rfl,rfl⟩
   rw [show ((11:Int)==11)=true from rfl]
   go_wp2_with fail
   refine (ldOver_ok S.out.ld).mono ?_
   rintro e w10' ⟨rfl,rfl⟩
   rw [HOV.out]
   go_wp2_with fail
   refine (lo_step S.out HB.out (by have:=KK.out;omega) (by have:=KK.out;omega) ON.out (by have:=HI.out;omega)).mono ?_
   rintro e w11 ⟨s',rfl,hs⟩
   have S2:=hid_ hs
   clear hs S HOV
   have hE:((i:Int)==(js.length:Int))=decide (i=js.length):=by
    by_cases e:i=js.length
    ·rw [decide_eq_true e,e];simp
    ·rw [decide_eq_false e];simp;omega
   obtain ⟨bb,hbb⟩:∃ bb,bb=decide (i=js.length):=⟨_,rfl⟩
   rw [← hbb] at hE
   rw [← hbb]
   clear hbb
   have hn1:(js.length:Int)+1 - 1=(js.length:Int):=by omega
   cases bb with
   | true =>
    go_wp2_with fail
    refine (memCount_ok w11 S2.out.mm).mono ?_
    rintro e w11' ⟨rfl,rfl⟩
    have hc1:K+((i+1:Nat):Int)=K+(i:Int)+1:=by push_cast;omega
    rw [hc1]
    have hc2:(K+(i:Int)+1 != K+(i:Int)+1)=false:=by simp
    go_wp2_with fail
    go_roundw
    case rel=>exact ⟨i+1,s',by have:=HI.out;omega,by go_num,S2.out⟩
    case measure=>have:=HI.out;simp [intOf];omega
   | false =>
    go_wp2_with fail
    refine (memCount_ok w11 S2.out.mm).mono ?_
    rintro e w11' ⟨rfl,rfl⟩
    have hc1:K+((i+1:Nat):Int)=K+(i:Int)+1:=by push_cast;omega
    rw [hc1]
    have hc2:(K+(i:Int)+1 != K+(i:Int)+1)=false:=by simp
    go_wp2_with fail
    go_roundw
    case rel=>exact ⟨i+1,s',by have:=HI.out;omega,by go_num,S2.out⟩
    case measure=>have:=HI.out;simp [intOf];omega
  ·obtain rfl:i=js.length+1:=by omega
   clear hi hlt
   have hov:s.over=true:=by rw [S.out.ph.ov];simp
   have HOV:=hid_ hov
   clear hov
   go_wp2_with fail
   refine (ph_page S.out.ld S.out.ph PT.out.rc (by have:=JL.out;omega)).mono ?_
   rintro e w9 ⟨v9,rfl,hmd⟩
   obtain ⟨pv,ev,rfl,hps,hpo⟩:=hmd.shape
   have MD:=hid_ hmd
   have F9:=hid_ hmd.2
   clear hmd
   go_upto_region 18 with (refine wpList_store_mid rfl 40 (.tmp 15) (.tmp 77) rfl w9.heap.size 0 pv rfl rfl (by rw [hps];exact new_there w9 _ pgZ) (by rw [hps];exact page_size) hpo ?_;obtain ⟨w10,hw_⟩:∃ z,z=(w9.alloc (.cells pgZ 40)).setCells w9.heap.size 0 pv.toList:=⟨_,rfl⟩;change wpList _ _ _ _ _ ((w9.alloc (.cells pgZ 40)).setCells w9.heap.size 0 pv.toList);rw [← hw_];have Q_w10:Hid (Blk w10 w9.heap.size 40 pv∧Fr none_ w9 w10):=hid_ (by rw [hw_];have h9:=new_copy w9 40 pgZ pv.toList (by rw [Array.length_toList,hps];rfl);simpa using h9);clear hw_)
   have F910:=hid_ (F9.out.then_none Q_w10.out.2)
   have S10:=hid_ (S.out.keep F910.out)
   obtain ⟨gP,hgP⟩:∃ g,g=w9.heap.size:=⟨_,rfl⟩
   have BP:=hid_ Q_w10.out.1
   rw [← hgP] at BP
   rw [← hgP]
   have FP:=hid_ Q_w10.out.2
   clear hgP Q_w10 F910
   have NQ10:=hid_ (NQ.out.fr S10.out.f7 (off_lall M7.out HB7.out))
   have BW10:=hid_ (BW.out.fr S10.out.f7 (fun e=>by
    rcases e with e | e
    ·exact M7.out.npage BW.out e
    ·have:=BW.out.lt;have:=HB7.out;omega))
   have F10:Hid (Fr none_ w w10):=hid_ (F7.out.trans S10.out.f7 (fun _ _=>id) (fun i hi e=>by
    rcases e with e | e
    ·have:=HY.out i e;omega
    ·have:=HWB.out;omega))
   have HL10:=hid_ (HL.out.keep0 F10.out)
   obtain ⟨kq,hkq⟩:=made_q MD.out
   have hd:=S.out.ph.done
   obtain ⟨hsm,hke,hcd⟩:=q_same hkq S.out.ph.nn hd.2.2.1 hd.2.2.2.1 hd.2.2.2.2.1 hd.2.2.2.2.2 NQ10.out FP.out (by have:=JL.out;omega)
   subst hke
   have SM:=hid_ hsm
   have HCD:=hid_ hcd
   clear hkq hd hsm hcd MD
   go_wp2_with fail
   refine (ldOver_ok S10.out.ld).mono ?_
   rintro e w10' ⟨rfl,rfl⟩
   rw [HOV.out]
   go_wp2_with fail
   refine (step_over _ S10.out.ld HOV.out).mono ?_
   rintro e w10' ⟨rfl,rfl⟩
   go_wp2_with fail
   refine (memCount_ok w10 S10.out.mm).mono ?_
   rintro e w10' ⟨rfl,rfl⟩
   have hc1:K+((js.length+1:Nat):Int)=K+((js.length:Int)+1):=by push_cast;omega
   rw [hc1]
   have hc2:(K+((js.length:Int)+1)==K+((js.length:Int)+1))=true:=by simp
   go_wp2_with (first | (refine wpList_load_midG (by kernel_rfl) 40 (.tmp 15) rfl gP 0 rfl pv.toList _ (Blk.range0l BP.out) Tryz.underlying40 rfl (by rw [Array.length_toList,hps];exact page_size) ?_) | (refine wpList_load_midG (by kernel_rfl) 48 (.tmp 7) rfl gW 0 rfl wv.toList _ (Blk.range0l BW10.out) Tryz.underlying48 rfl (by rw [Array.length_toList,hws];exact rpage_size) ?_))
   try rw [Array.toArray_toList,Array.toArray_toList]
   refine SM.out.mono ?_
   rintro e w11 ⟨rfl,hf11⟩
   replace F10:=hid_ (F10.out.then_none hf11)
   replace HL10:=hid_ (HL10.out.keep0 hf11)
   clear hf11 SM
   rcases HCD.out with hz | hz
   rotate_left
   ·obtain ⟨hkq,rfl⟩:=hz
    have e0:(kq==0)=false:=by simpa using hkq
    have e1:(kq==kq)=true:=by simp
    go_wp2_with fail
    refine (code_hit kq w11 HL10.out).mono ?_
    rintro e w12 ⟨rfl,hf12⟩
    replace F10:=hid_ (F10.out.then_none hf12)
    clear hf12
    go_wp2_with fail
    refine (awake10_ok w12).mono ?_
    rintro e w13 ⟨rfl,hf13⟩
    go_wp2_with fail
    go_ret
    exact ⟨rfl,F10.out.then_none hf13⟩
   obtain ⟨rfl,rfl⟩:=hz
   go_wp2_with fail
   refine (code_nil w11).mono ?_
   rintro e w12 ⟨rfl,hf12⟩
   replace F10:=hid_ (F10.out.then_none hf12)
   clear hf12
   go_wp2_with fail
   refine (awake10_ok w12).mono ?_
   rintro e w13 ⟨rfl,hf13⟩
   go_wp2_with fail
   go_ret
   exact ⟨rfl,F10.out.then_none hf13⟩
theorem ploads10_walk_i {H:Type} {enc:TypeId × Value→H} (A:Option Addr) (n cap:Nat) (hc:n≤cap) (hm:cap≤maxLen) (base:Bool) (w:World) (h:RecordAt enc w A n) (hL:Laid w):Calls Tryz.prog 4 #[.slice A n cap,.bool base] w fun e w'=>e=.returned (.bool true)∧Fr none_ w w':=by
  obtain ⟨L,hi,hr⟩:=ins_of2 h
  exact ploads10_law A n cap L base w hi hr (Nat.le_trans hc hm) hL
end Go.Proofs.YtfihfjbakfadkaaGreatDoor

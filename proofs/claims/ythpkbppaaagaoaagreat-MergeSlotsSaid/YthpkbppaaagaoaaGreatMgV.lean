/- Texts of one proof, merged: MSl13. -/
import Derived.Test.YthpkbppaaagaoaaGreatMgR
import Derived.Test.YthpkbppaaagaoaaGreatMgU
namespace Go.Proofs.YthpkbppaaagaoaaGreat
open Go.RowKit Go.BigFrame
set_option maxRecDepth 100000
set_option linter.unusedVariables false

theorem liveTo_len (ss:List Sl):∀ k,k≤ss.length→(liveTo ss k).length=usedN (ss.take k)
  | 0,_=>rfl
  | k+1,h=>by
    have ih:=liveTo_len ss k (by omega)
    obtain ⟨s,hs⟩:∃ s,ss[k]?=some s:=⟨_,List.getElem?_eq_getElem (by omega)⟩
    have ht:ss.take (k+1)=ss.take k ++ [s]:=by rw [List.take_add_one,hs];rfl
    unfold usedN at ih ⊢
    rw [ht,List.countP_append]
    cases hu:s.used with
    | true=>rw [live_hit hs hu,List.length_append,ih];simp [hu]
    | false=>rw [live_miss hs hu,ih];simp [hu]
theorem live_len (ss:List Sl):(liveTo ss ss.length).length=usedN ss:=by rw [liveTo_len ss _ (Nat.le_refl _),List.take_length]
theorem used_same {ps ps':List Pg} (h:ps'.map (·.1)=ps.map (·.1)):usedTo ps' ps'.length=usedTo ps ps.length:=by
  have hl:ps'.length=ps.length:=by have:=congrArg List.length h;rwa [List.length_map,List.length_map] at this
  unfold usedTo
  rw [hl]
  refine List.filter_congr fun i _=>?_
  rw [← List.getElem?_map,← List.getElem?_map,h]
set_option maxHeartbeats 8000000 in
theorem mslots13_law (l:List Rw) (N:List ByteArray) (A B:Option Addr) (c d:Nat) (a2:Int) (w:World) (h:Reads w 2 A l.length (rwFlat l)) (ho:∀ p ∈ l,SzOk p.1∧SzOk p.2) (hc:l.length≤c∧c≤maxLen) (hN:TxReads w B N.length N) (hd:N.length≤d∧d≤maxLen) (ha:0≤a2∧a2≤255) :
  Calls Tryz.prog 7 #[.slice A l.length c,.slice B N.length d,.int .u8 a2] w (RetQ (.bool true) w):=by
 have H:=hid_ h
 have HO:=hid_ ho
 have HN:=hid_ hN
 obtain ⟨ha0,ha1⟩:=ha
 obtain ⟨w0,hw0⟩:∃ z,z=w.alloc (.cells #[] 9):=⟨_,rfl⟩
 have f0:Fr none_ w w0:=by rw [hw0];exact (Fr.refl none_ w).alloc _
 have hfew:=hid_ (few13_ok l A B c d N w0 (h.none_fr f0) ho hc (hN.keep f0) hd)
 have F0:=hid_ f0
 clear h ho hN hc hd f0
 go_enter Tryz.func7,Tryz.ntmps7
 go_upto_region 2 with fail
 change Code.wp _ _ _ _ (w.alloc (.cells #[] 9))
 rw [← hw0]
 clear hw0
 go_wp2_with fail
 refine hfew.out.mono ?_
 rintro e w1 ⟨b,rfl,hb,hf1⟩
 have F1:=hid_ (F0.out.then_none hf1)
 have HB:=hid_ hb
 clear hfew hf1 hb
 cases b with
 | false =>
  go_wp2_with fail
  refine (awake13_ok _).mono ?_
  rintro e wz ⟨rfl,hfz⟩
  have FZ:=hid_ (F1.out.then_none hfz)
  clear hfz
  go_wp2_with fail
  go_ret
  exact ⟨rfl,FZ.out⟩
 | true =>
  obtain ⟨hl60,hright,hN12⟩:=HB.out rfl
  have HL:=hid_ hright
  have hseps:=hid_ (seps_ok N B d w1 (HN.out.keep F1.out) hN12)
  clear HB hright
  go_wp2_with fail
  refine hseps.out.mono ?_
  rintro e w2 ⟨A2,c2,rfl,ho2,hf2⟩
  have hle:=sepsTo_le N N.length
  have hso:=sepsTo_ok N N.length
  obtain ⟨S,hS⟩:∃ z,z=sepsTo N N.length:=⟨_,rfl⟩
  rw [← hS] at ho2 hle hso ⊢
  have F2:=hid_ (F1.out.then_none hf2)
  have T2:=hid_ (tx_of_own ho2 hso)
  have SO:=hid_ hso
  have hd12:S.length≤12:=by omega
  clear hS hf2 ho2 hso hseps F1
  by_cases hz:S.length=0
  ·have hz':((S.length:Int)==0)=true:=by simp [hz]
   go_wp2_with fail
   refine (awake13_ok _).mono ?_
   rintro e wz ⟨rfl,hfz⟩
   have FZ:=hid_ (F2.out.then_none hfz)
   clear hfz
   go_wp2_with fail
   go_ret
   exact ⟨rfl,FZ.out⟩
  ·have hz':((S.length:Int)==0)=false:=by rw [beq_eq_false_iff_ne];omega
   have hpos:0 < S.length:=by omega
   clear hz
   have hlaid:=hid_ (laid13_ok l A A2 c c2 S 200 w2 (H.out.none_fr F2.out) (HL.out.rows (by omega)) hl60 T2.out hd12 (.inr rfl) (by omega))
   go_wp2_with fail
   refine hlaid.out.mono ?_
   rintro e w3 ⟨m,x,js,rfl,hL3⟩
   have Q3:=hid_ hL3
   have T3:=hid_ (T2.out.keep hL3.f)
   clear hlaid hL3
   obtain ⟨i,hi1,hi2,hie⟩:=leaf_i (a:=a2) ha0 hpos
   have hheld:=hid_ (held13_ok l S A2 c2 i T3.out hd12 hi1 hi2 Q3.out (by omega) (by omega) (by omega) (by omega))
   have hw1:IntKind.i64.wrap ((i:Int) - 1)=(i:Int) - 1:=IntWalk.i64_in _ (by omega)
   have hw2:IntKind.i64.wrap (1+((i:Int) - 1))=(i:Int):=(IntWalk.i64_in _ (by omega)).trans (by omega)
   have hw3:IntKind.i64.wrap a2=a2:=IntWalk.i64_in _ (by omega)
   go_upto_region 10 with fail
   clear hie hw1 hw2 hw3 ha0 ha1
   go_wp2_with fail
   refine hheld.out.mono ?_
   rintro e w4 ⟨hs,hg,rs,rg,x4,js4,rfl,hL4,hp4⟩
   have P0:=hid_ (start0 (sp:=fun _=>False) HL.out hl60 SO.out hd12 hi1 hi2 (by decide) hL4 hp4 (by push_cast;omega))
   have LN:=hid_ (start_len hL4.lay hi1 hi2)
   have UP:=hid_ (start_pages hL4.lay)
   clear hheld hL4 hp4 Q3
   go_upto_region 11 with fail
   obtain ⟨w5,hw5⟩:∃ z,z=(w4.alloc (.cells #[.int .i64 hs,.int .i64 hg] 36)).alloc (.cells #[.int .i64 ((i:Int)+1),.int .i64 (i:Int),.string (leafLow S i)] 38):=⟨_,rfl⟩
   change Code.wp _ _ _ _ ((w4.alloc (.cells #[.int .i64 hs,.int .i64 hg] 36)).alloc (.cells #[.int .i64 ((i:Int)+1),.int .i64 (i:Int),.string (leafLow S i)] 38))
   rw [← hw5]
   have f5:Fr none_ w4 w5:=by rw [hw5];exact ((Fr.refl none_ w4).alloc _).alloc _
   have B1:Hid (Blk w5 w4.heap.size 36 #[.int .i64 hs,.int .i64 hg]):=hid_ (by rw [hw5];exact (Blk.new w4 _ _).alloc _)
   have B2:Hid (Blk w5 (w4.heap.size+1) 38 #[.int .i64 ((i:Int)+1),.int .i64 (i:Int),.string (leafLow S i)]):=hid_ (by rw [hw5];exact Blk.new7 _ _ (by simp))
   have P5:=hid_ (P0.out.keep f5)
   clear hw5 f5 P0
   obtain ⟨c0,hc0⟩:∃ c,c=cf13 200 l S i hs hg rs rg fun _=>False:=⟨_,rfl⟩
   rw [← hc0] at P5
   have C0:=hid_ hc0
   have hci:c0.i=i:=by rw [hc0];rfl
   have CI:=hid_ hci
   clear hc0 hci
   have RM:=hid_ P5.out.rm
   go_wp2_with fail
   refine (memLive_ok _ P5.out.mm).mono ?_
   rintro e w6 ⟨A6,c6,rfl,ho6,hf6⟩
   have P6:=hid_ (P5.out.keep hf6)
   have B16:=hid_ (B1.out.fr hf6 id)
   have B26:=hid_ (B2.out.fr hf6 id)
   obtain ⟨nl,hnl⟩:∃ z,z=(liveTo x4.ss x4.ss.length).length:=⟨_,rfl⟩
   rw [← hnl]
   have NL:Hid (nl=S.length+3+1):=hid_ (by
    rw [hnl,live_len,RM.out.us]
    rfl)
   clear P5 B1 B2 ho6 hf6 RM hnl
   go_wp2_with fail
   refine (memPages_ok _ P6.out.mm).mono ?_
   rintro e w7 ⟨A7,c7,rfl,ho7,hf7⟩
   have P7:=hid_ (P6.out.keep hf7)
   have B1:=hid_ (B16.out.fr hf7 id)
   have B2:=hid_ (B26.out.fr hf7 id)
   obtain ⟨np,hnp⟩:∃ z,z=(usedTo x4.ps x4.ps.length).length:=⟨_,rfl⟩
   rw [← hnp]
   have NP:=hid_ hnp
   clear P6 B16 B26 ho7 hf7 hnp
   have a0:=B1.out.cell' (i:=0) rfl
   have a1:=B1.out.cell' (i:=1) rfl
   have b0:=B2.out.cell' (i:=0) rfl
   have b1:=B2.out.cell' (i:=1) rfl
   have b2:=B2.out.cell' (i:=2) rfl
   have hnl0:nl≤20:=by have:=NL.out;omega
   have hbg:=hid_ (mbegin_ok 0 hs hg ((i:Int)+1) (i:Int) (leafLow S i) w7)
   go_wp2_with fail
   refine hbg.out.mono ?_
   intro e w8 hbeg
   obtain ⟨h,y,he8,hP8,hf8⟩:=P7.out.begin_ (c:=c0) (by rw [C0.out];exact hbeg)
   unfold hptr at he8
   subst he8
   have O:Hid (RunOk c0 (lim13 200) (S.length+3+1) [⟨h,.going 0 [] 0 0,y⟩] 2):=hid_ (by rw [C0.out];exact runOk HL.out hl60 SO.out hi1 hi2 (show S.length+3+1+3+1 < 200 by omega) (by decide))
   have R0:Hid (RunSt c0 (lfR13 l S (i - 1)).rows w2 m (lim13 200) (S.length+1) w4.heap.size (S.length+3+1) [⟨h,.going 0 [] 0 0,y⟩] x4 2 0 (3 * (S.length:Int)+6+3) x4 js4 [⟨h,.going 0 [] 0 0,y⟩] w8):=hid_ ⟨hP8,rfl,rfl,by
    rw [CI.out,LN.out.1]
    decide⟩
   clear hbg hbeg hP8 hf8 P7 LN B1 B2 a0 a1 b0 b1 b2
   obtain ⟨w9,hw9⟩:∃ z,z=w8.alloc (.cells #[.pointer (some ⟨h,0,none⟩)] 41):=⟨_,rfl⟩
   have hruns:=hid_ (runs_one O.out (by decide) (R0.out.keep (w':=w9) (by rw [hw9];exact (Fr.refl none_ w8).alloc _)) (by omega) (own_one13 w8 (.pointer (some ⟨h,0,none⟩)) w9 hw9))
   clear R0
   go_wp2_with fail
   rw [← hw9]
   clear hw9
   refine hruns.out.mono ?_
   rintro e wa ⟨k',x',js',z',rfl,hR',hov,hzh,hk',hkp⟩
   have R:=hid_ hR'
   have OV:=hid_ hov
   have ZH:=hid_ hzh
   have hk0:=hR'.hp.k0
   have hgone:=hid_ (by have:=gone_of hR'.hp (List.mem_singleton.2 rfl) hov;rw [hzh] at this;exact this)
   have hgat:=hid_ (gone_at hR'.hp (List.mem_singleton.2 rfl) hov).2
   clear hruns hR' hov hzh hkp
   rw [CI.out] at hgone hgat
   obtain ⟨as_,hae⟩:∃ q,q=z'.y.H.as_:=⟨_,rfl⟩
   obtain ⟨ag,hge⟩:∃ q,q=z'.y.H.ag:=⟨_,rfl⟩
   rw [← hae,← hge] at hgone hgat
   clear hae hge
   go_wp2_with fail
   refine hgone.out.mono ?_
   rintro e wb ⟨rfl,hfb⟩
   have Rb:=hid_ (R.out.keep hfb)
   clear hgone hfb R
   go_upto_region 16 with fail
   obtain ⟨wc,hwc⟩:∃ q,q=wb.alloc (.cells #[.int .i64 as_,.int .i64 ag] 36):=⟨_,rfl⟩
   change Code.wp _ _ _ _ (wb.alloc (.cells #[.int .i64 as_,.int .i64 ag] 36))
   rw [← hwc]
   have BG:Hid (Blk wc wb.heap.size 36 #[.int .i64 as_,.int .i64 ag]):=hid_ (by rw [hwc];exact Blk.new wb _ _)
   have Rc:=hid_ (Rb.out.keep (w':=wc) (by rw [hwc];exact (Fr.refl none_ wb).alloc _))
   clear hwc Rb
   have hcc:=hid_ (gone_chain Rc.out.hp (by rw [CI.out];exact hgat.out))
   have hch:=hid_ (by
    have hc:=hcc.out
    rw [CI.out] at hc
    have:=chain_ok wc Rc.out.hp.mm (i+1) as_ ag hgat.out (js' (i+1)) hc.1 (by rw [hc.2];decide) (by decide)
    rw [show ((i+1:Nat):Int)=(i:Int)+1 by push_cast;rfl] at this
    exact this)
   go_wp2_with fail
   refine hch.out.mono ?_
   rintro e wd ⟨Ad,cd,Bd,dd,Cs,rfl,_,_,_,_,hfd⟩
   have hl2:(js' (i+1)).length=2:=by have:=hcc.out.2;rw [CI.out] at this;exact this
   rw [hl2]
   have Rd:=hid_ (Rc.out.keep hfd)
   have BG1:=hid_ (BG.out.fr hfd id)
   clear hcc hch hfd Rc BG hl2
   have hhd:=hid_ (memHead_any m _ _ _ _ Rd.out.hp.mm (by omega) (by omega) ((i:Int)+1))
   go_wp2_with fail
   refine hhd.out.mono ?_
   rintro e we ⟨s6,g6,c6',v6,rfl,hH,hE,hMe,hfe⟩
   obtain ⟨e1,e2⟩:s6=as_∧g6=ag:=by
    have hg:=hgat.out
    rcases hH with ⟨q,q1,q2,_⟩ | ⟨q1,_⟩
    ·obtain rfl:i+1=q:=by omega
     exact ps_head q2 hg
    ·exact absurd (by have:=pgC_used hg;push_cast at this;exact this) q1
   subst e1
   subst e2
   have Me:=hid_ hMe
   have hf0:Fr none_ w2 we:=Rd.out.hp.f.trans hfe (fun _ _=>id) (fun g hg e=>by have:=Rd.out.hp.mb g e;omega)
   have Fe:=hid_ (F2.out.then_none hf0)
   have BG2:=hid_ (BG1.out.fr hfe (Rd.out.hp.mm.mall_ty BG1.out (by decide)))
   have hul:usedN x'.ss=nl+3:=by
    have:=Rd.out.hp.rm.us
    rw [NL.out,this]
    have:cntL [z']=0:=by
     have hv:=OV.out
     unfold cntL
     simp only [List.map_cons,List.map_nil,List.sum_cons,List.sum_nil]
     rw [hv]
     rfl
    omega
   have hup:(usedTo x'.ps x'.ps.length).length=np:=by rw [NP.out,used_same Rd.out.fl]
   have UL:=hid_ hul
   have UU:=hid_ hup
   clear hhd hH hE hMe hfe hf0 BG1 Rd hul hup
   go_upto_region 18 with fail
   obtain ⟨wf,hwf⟩:∃ q,q=we.alloc (.cells #[.int .i64 s6,.int .i64 g6] 36):=⟨_,rfl⟩
   change Code.wp _ _ _ _ (we.alloc (.cells #[.int .i64 s6,.int .i64 g6] 36))
   rw [← hwf]
   have ff:Fr none_ we wf:=by rw [hwf];exact (Fr.refl none_ we).alloc _
   have BN:Hid (Blk wf we.heap.size 36 #[.int .i64 s6,.int .i64 g6]):=hid_ (by rw [hwf];exact Blk.new we _ _)
   have BG3:=hid_ (BG2.out.fr ff id)
   have Mf:=hid_ (Me.out.keep ff)
   have Ff:=hid_ (Fe.out.then_none ff)
   clear hwf ff BG2 Me Fe
   have hliv:=hid_ (by have:=memLive_ok _ Mf.out;unfold LivePost at this;rw [live_len,UL.out] at this;exact this)
   have hwn:IntKind.i64.wrap ((nl:Int)+3)=(nl:Int)+3:=IntWalk.i64_in _ (by omega)
   go_wp2_with fail
   refine hliv.out.mono ?_
   rintro e wg ⟨Ag,cg,rfl,_,hfg⟩
   have BN1:=hid_ (BN.out.fr hfg id)
   have BG4:=hid_ (BG3.out.fr hfg id)
   have Mg:=hid_ (Mf.out.keep hfg)
   have Fg:=hid_ (Ff.out.then_none hfg)
   clear hliv hfg BN BG3 Mf Ff
   have hpgs:=hid_ (by have:=memPages_ok _ Mg.out;unfold PagesPost at this;rw [UU.out] at this;exact this)
   go_wp2_with fail
   refine hpgs.out.mono ?_
   rintro e wh ⟨Ah,ch,rfl,_,hfh⟩
   have n0:=cellFr (BN1.out.cell' (i:=0) rfl) hfh
   have n1:=cellFr (BN1.out.cell' (i:=1) rfl) hfh
   have g0':=cellFr (BG4.out.cell' (i:=0) rfl) hfh
   have g1':=cellFr (BG4.out.cell' (i:=1) rfl) hfh
   have Fh:=hid_ (Fg.out.then_none hfh)
   clear hpgs hfh BN1 BG4 Mg Fg
   go_wp2_with fail
   refine (awake13_ok _).mono ?_
   rintro e wz ⟨rfl,hfz⟩
   have FZ:=hid_ (Fh.out.then_none hfz)
   clear hfz
   go_wp2_with fail
   go_ret
   exact ⟨rfl,FZ.out⟩
theorem mslots13_i {H:Type} {enc:TypeId × Value→H} (A:Option Addr) (n cap:Nat) (hc:n≤cap) (hm:cap≤maxLen) (B:Option Addr) (n1 cap1:Nat) (hc1:n1≤cap1) (hm1:cap1≤maxLen) (a2:Int) (wf2:(Lit.int .u8 a2).wf=true) (w:World) (h1:Rd enc Tryz.prog w 6 25 A n) (h2:Rd enc Tryz.prog w 6 9 B n1) :
    Calls Tryz.prog 7 #[.slice A n cap,.slice B n1 cap1,.int .u8 a2] w fun e w'=>e=.returned (.bool true)∧Fr none_ w w':=by
  obtain ⟨l,rfl,hl,hlz⟩:=Row_list h1
  obtain ⟨N,rfl,hN⟩:=Str_at h2
  exact mslots13_law l N A B cap cap1 a2 w hl hlz ⟨hc,hm⟩ hN ⟨hc1,hm1⟩ (wf_u8 wf2)
end Go.Proofs.YthpkbppaaagaoaaGreat

/- Texts of one proof, merged: MBr13. -/
import Derived.Test.YthpkbppaaagaoaaGreatMgB
import Derived.Test.YthpkbppaaagaoaaGreatMgR
import Derived.Test.YthpkbppaaagaoaaGreatMgU
namespace Go.Proofs.YthpkbppaaagaoaaGreat
open Go.RowKit Go.BigFrame
set_option maxRecDepth 100000
set_option linter.unusedVariables false

theorem ref_size13:(Tryz.prog.info? 36).map (·.size)=some 2:=by kernel_rfl
theorem hold_size13:(Tryz.prog.info? 38).map (·.size)=some 3:=by kernel_rfl
theorem turn_i10 {a:Int} (h0:0≤a):∃ q:Nat,q≤9∧a.tmod 10=(q:Int):=by
  have h1:=Int.tmod_nonneg 10 h0
  have h2:=Int.tmod_lt_of_pos a (b:=10) (by omega)
  obtain ⟨q,hq⟩:∃ q,q=a.tmod 10:=⟨_,rfl⟩
  rw [← hq] at h1 h2 ⊢
  exact ⟨q.toNat,by omega,by omega⟩
set_option maxHeartbeats 8000000 in
theorem mbroken13_law (l:List Rw) (N:List ByteArray) (A B:Option Addr) (c d:Nat) (a2:Int) (a3:Int) (w:World) (h:Reads w 2 A l.length (rwFlat l)) (ho:∀ p ∈ l,SzOk p.1∧SzOk p.2) (hc:l.length≤c∧c≤maxLen) (hN:TxReads w B N.length N) (hd:N.length≤d∧d≤maxLen) (ha:0≤a2∧a2≤255) (hb:0≤a3∧a3≤255) :
  Calls Tryz.prog 4 #[.slice A l.length c,.slice B N.length d,.int .u8 a2,.int .u8 a3] w (RetQ (.bool true) w):=by
 have H:=hid_ h
 have HO:=hid_ ho
 have HN:=hid_ hN
 obtain ⟨ha0,ha1⟩:=ha
 obtain ⟨hb0,hb1⟩:=hb
 obtain ⟨w0,hw0⟩:∃ z,z=w.alloc (.cells #[] 9):=⟨_,rfl⟩
 have f0:Fr none_ w w0:=by rw [hw0];exact (Fr.refl none_ w).alloc _
 have hfew:=hid_ (few13_ok l A B c d N w0 (h.none_fr f0) ho hc (hN.keep f0) hd)
 have F0:=hid_ f0
 clear h ho hN hc hd f0
 go_enter Tryz.func4,Tryz.ntmps4
 go_upto_region 2 with fail
 change Code.wp _ _ _ _ (w.alloc (.cells #[] 9))
 rw [← hw0]
 clear hw0
 go_wp2_with fail
 refine hfew.out.mono ?_
 rintro e w1 ⟨b,rfl,hb,hf1⟩
 have F1:=hid_ (F0.out.then_none hf1)
 have HB:=hid_ hb
 clear hfew hf1 hb
 cases b with
 | false =>
  go_wp2_with fail
  refine (awake13_ok _).mono ?_
  rintro e wz ⟨rfl,hfz⟩
  have FZ:=hid_ (F1.out.then_none hfz)
  clear hfz
  go_wp2_with fail
  go_ret
  exact ⟨rfl,FZ.out⟩
 | true =>
  obtain ⟨hl60,hright,hN12⟩:=HB.out rfl
  have HL:=hid_ hright
  have hseps:=hid_ (seps_ok N B d w1 (HN.out.keep F1.out) hN12)
  clear HB hright
  go_wp2_with fail
  refine hseps.out.mono ?_
  rintro e w2 ⟨A2,c2,rfl,ho2,hf2⟩
  have hle:=sepsTo_le N N.length
  have hso:=sepsTo_ok N N.length
  obtain ⟨S,hS⟩:∃ z,z=sepsTo N N.length:=⟨_,rfl⟩
  rw [← hS] at ho2 hle hso ⊢
  have F2:=hid_ (F1.out.then_none hf2)
  have T2:=hid_ (tx_of_own ho2 hso)
  have SO:=hid_ hso
  have hd12:S.length≤12:=by omega
  clear hS hf2 ho2 hso hseps F1
  by_cases hz:S.length=0
  ·have hz':((S.length:Int)==0)=true:=by simp [hz]
   go_wp2_with fail
   refine (awake13_ok _).mono ?_
   rintro e wz ⟨rfl,hfz⟩
   have FZ:=hid_ (F2.out.then_none hfz)
   clear hfz
   go_wp2_with fail
   go_ret
   exact ⟨rfl,FZ.out⟩
  ·have hz':((S.length:Int)==0)=false:=by rw [beq_eq_false_iff_ne];omega
   have hpos:0 < S.length:=by omega
   clear hz
   have hlaid:=hid_ (laid13_ok l A A2 c c2 S 200 w2 (H.out.none_fr F2.out) (HL.out.rows (by omega)) hl60 T2.out hd12 (.inr rfl) (by omega))
   go_wp2_with fail
   refine hlaid.out.mono ?_
   rintro e w3 ⟨m,x,js,rfl,hL3⟩
   have Q3:=hid_ hL3
   have T3:=hid_ (T2.out.keep hL3.f)
   clear hlaid hL3
   obtain ⟨i,hi1,hi2,hie⟩:=leaf_i (a:=a2) ha0 hpos
   have hheld:=hid_ (held13_ok l S A2 c2 i T3.out hd12 hi1 hi2 Q3.out (by omega) (by omega) (by omega) (by omega))
   have hw1:IntKind.i64.wrap ((i:Int) - 1)=(i:Int) - 1:=IntWalk.i64_in _ (by omega)
   have hw2:IntKind.i64.wrap (1+((i:Int) - 1))=(i:Int):=(IntWalk.i64_in _ (by omega)).trans (by omega)
   have hw3:IntKind.i64.wrap a2=a2:=IntWalk.i64_in _ (by omega)
   go_upto_region 10 with fail
   clear hie hw1 hw2 hw3 ha0 ha1
   go_wp2_with fail
   refine hheld.out.mono ?_
   rintro e w4 ⟨hs,hg,rs,rg,x4,js4,rfl,hL4,hp4⟩
   have P0:=hid_ (start0 (sp:=fun _=>False) HL.out hl60 SO.out hd12 hi1 hi2 (by decide) hL4 hp4 (by push_cast;omega))
   have LN:=hid_ (start_len hL4.lay hi1 hi2)
   have UP:=hid_ (start_pages hL4.lay)
   clear hheld hL4 hp4 Q3
   go_upto_region 11 with fail
   obtain ⟨w5,hw5⟩:∃ z,z=(w4.alloc (.cells #[.int .i64 hs,.int .i64 hg] 36)).alloc (.cells #[.int .i64 ((i:Int)+1),.int .i64 (i:Int),.string (leafLow S i)] 38):=⟨_,rfl⟩
   change Code.wp _ _ _ _ ((w4.alloc (.cells #[.int .i64 hs,.int .i64 hg] 36)).alloc (.cells #[.int .i64 ((i:Int)+1),.int .i64 (i:Int),.string (leafLow S i)] 38))
   rw [← hw5]
   have f5:Fr none_ w4 w5:=by rw [hw5];exact ((Fr.refl none_ w4).alloc _).alloc _
   have B1:Hid (Blk w5 w4.heap.size 36 #[.int .i64 hs,.int .i64 hg]):=hid_ (by rw [hw5];exact (Blk.new w4 _ _).alloc _)
   have B2:Hid (Blk w5 (w4.heap.size+1) 38 #[.int .i64 ((i:Int)+1),.int .i64 (i:Int),.string (leafLow S i)]):=hid_ (by rw [hw5];exact Blk.new7 _ _ (by simp))
   have P5:=hid_ (P0.out.keep f5)
   clear hw5 f5 P0
   obtain ⟨c0,hc0⟩:∃ c,c=cf13 200 l S i hs hg rs rg fun _=>False:=⟨_,rfl⟩
   rw [← hc0] at P5
   have C0:=hid_ hc0
   have hci:c0.i=i:=by rw [hc0];rfl
   have CI:=hid_ hci
   clear hc0 hci
   have hS0:(fun w':World=>Fr none_ w5 w') w5.drew:=(Fr.refl none_ w5).drew
   go_upto_region 11 with fail
   refine wp_region_u 8 (fun w':World=>Fr none_ w5 w') (by kernel_rfl) ?_
   refine u_take 0 (some 55) (.agg #[.int .i64 hs,.int .i64 hg]) rfl rfl (by kernel_rfl) (by kernel_rfl) (by kernel_rfl) (by kernel_rfl) (fun _ _ _ h=>h) (yieldsIf_load_mid (by kernel_rfl) 36 (.tmp 13) rfl w4.heap.size 0 (by kernel_rfl) [.int .i64 hs,.int .i64 hg] _ (fun w' hS=>Blk.range7 (l:=[.int .i64 hs,.int .i64 hg]) (B1.out.fr hS id)) Tryz.underlying36 rfl ref_size13) hS0 ?_
   go_frame
   refine u_take 1 (some 56) (.agg #[.int .i64 ((i:Int)+1),.int .i64 (i:Int),.string (leafLow S i)]) rfl rfl (by kernel_rfl) (by kernel_rfl) (by kernel_rfl) (by kernel_rfl) (fun _ _ _ h=>h) (yieldsIf_load_mid (by kernel_rfl) 38 (.tmp 14) rfl (w4.heap.size+1) 0 (by kernel_rfl) [.int .i64 ((i:Int)+1),.int .i64 (i:Int),.string (leafLow S i)] _ (fun w' hS=>Blk.range7 (l:=[.int .i64 ((i:Int)+1),.int .i64 (i:Int),.string (leafLow S i)]) (B2.out.fr hS id)) Tryz.underlying38 rfl hold_size13) hS0 ?_
   go_frame
   refine u_take 3 (some 58) (.agg #[.int .i64 hs,.int .i64 hg]) rfl rfl (by kernel_rfl) (by kernel_rfl) (by kernel_rfl) (by kernel_rfl) (fun _ _ _ h=>h) (yieldsIf_load_mid (by kernel_rfl) 36 (.tmp 13) rfl w4.heap.size 0 (by kernel_rfl) [.int .i64 hs,.int .i64 hg] _ (fun w' hS=>Blk.range7 (l:=[.int .i64 hs,.int .i64 hg]) (B1.out.fr hS id)) Tryz.underlying36 rfl ref_size13) hS0 ?_
   go_frame
   refine u_take 4 (some 59) (.agg #[.int .i64 ((i:Int)+1),.int .i64 (i:Int),.string (leafLow S i)]) rfl rfl (by kernel_rfl) (by kernel_rfl) (by kernel_rfl) (by kernel_rfl) (fun _ _ _ h=>h) (yieldsIf_load_mid (by kernel_rfl) 38 (.tmp 14) rfl (w4.heap.size+1) 0 (by kernel_rfl) [.int .i64 ((i:Int)+1),.int .i64 (i:Int),.string (leafLow S i)] _ (fun w' hS=>Blk.range7 (l:=[.int .i64 ((i:Int)+1),.int .i64 (i:Int),.string (leafLow S i)]) (B2.out.fr hS id)) Tryz.underlying38 rfl hold_size13) hS0 ?_
   go_frame
   have Pdr:=hid_ (P5.out.keep (Fr.refl none_ w5).drew)
   refine u_callE 2 (some 57) 17 #[.int .i64 0,.agg #[.int .i64 hs,.int .i64 hg],.agg #[.int .i64 ((i:Int)+1),.int .i64 (i:Int),.string (leafLow S i)]] (fun v w'=>BegPost13 0 hs hg ((i:Int)+1) (i:Int) (leafLow S i) w5.drew (.returned v) w') rfl rfl (by kernel_rfl) (by kernel_rfl) (by kernel_rfl) ((mbegin_ok 0 hs hg ((i:Int)+1) (i:Int) (leafLow S i) w5.drew).mono fun e w' hh=>by
    obtain ⟨hx,gx,rfl,hrest⟩:=hh
    exact ⟨_,rfl,hx,gx,rfl,hrest⟩) ?_
   intro v2 w6 hb2
   obtain ⟨h,y,he2,hP2,hf2⟩:=Pdr.out.begin_ (c:=c0) (by rw [C0.out];exact hb2)
   obtain rfl:=Ending.returned.inj he2
   have PB2:=hid_ hP2
   have Fw6:=hid_ ((Fr.refl none_ w5).drew.then_none hf2)
   refine ⟨Fw6.out,?_⟩
   try go_frame
   refine u_callE 5 (some 60) 17 #[.int .i64 0,.agg #[.int .i64 hs,.int .i64 hg],.agg #[.int .i64 ((i:Int)+1),.int .i64 (i:Int),.string (leafLow S i)]] (fun v w'=>BegPost13 0 hs hg ((i:Int)+1) (i:Int) (leafLow S i) w6 (.returned v) w') rfl rfl (by kernel_rfl) (by kernel_rfl) (by kernel_rfl) ((mbegin_ok 0 hs hg ((i:Int)+1) (i:Int) (leafLow S i) w6).mono fun e w' hh=>by
    obtain ⟨hx,gx,rfl,hrest⟩:=hh
    exact ⟨_,rfl,hx,gx,rfl,hrest⟩) ?_
   intro v5 w7 hb5
   obtain ⟨hb,yb,he5,hP5,hf5⟩:=PB2.out.begin_ (c:=c0) (by rw [C0.out];exact hb5)
   obtain rfl:=Ending.returned.inj he5
   have PB5:=hid_ hP5
   have Fw7:=hid_ (Fw6.out.then_none hf5)
   refine ⟨Fw7.out,?_⟩
   try go_frame
   refine u_one 6 rfl (by kernel_rfl) (by kernel_rfl) ?_
   go_simp
   first | refine ⟨.inr Fw7.out,?_⟩ | refine ⟨Fw7.out,?_⟩ | skip
   try go_frame
   refine u_one 7 rfl (by kernel_rfl) (by kernel_rfl) ?_
   go_simp
   first | refine ⟨.inr Fw7.out,?_⟩ | refine ⟨Fw7.out,?_⟩ | skip
   try go_frame
   refine u_done (by kernel_rfl) ?_
   unfold hptr
   clear hb2 hb5 he2 he5 hP2 hP5 hf2 hf5 Pdr PB2 Fw6 hS0 P5
   obtain ⟨La,hLa⟩:∃ q:List H1,q=[⟨h,.going 0 [] 0 0,y⟩,⟨hb,.going 0 [] 0 0,yb⟩]:=⟨_,rfl⟩
   have O:Hid (RunOk c0 (lim13 200) (S.length+3+1) La 2):=hid_ (by rw [C0.out,hLa];exact runOk HL.out hl60 SO.out hi1 hi2 (show S.length+3+1+3+2 < 200 by omega) (by decide))
   obtain ⟨K,hK⟩:∃ z,z=3 * (S.length:Int)+6+3:=⟨_,rfl⟩
   have hK0:0≤K∧K≤45:=by omega
   have R0:Hid (RunSt c0 (lfR13 l S (i - 1)).rows w2 m (lim13 200) (S.length+1) w4.heap.size (S.length+3+1) La x4 2 0 K x4 js4 [⟨h,.going 0 [] 0 0,y⟩,⟨hb,.going 0 [] 0 0,yb⟩] w7):=hid_ ⟨by rw [hK];exact PB5.out,by rw [hLa],rfl,by
    rw [CI.out,LN.out.1]
    decide⟩
   have MU:=hid_ (start_mu (c:=c0) (x:=x4) (js:=js4) (by rw [CI.out];exact LN.out.1) (by rw [CI.out];exact LN.out.2))
   have hA0:hsAt La 0=h:=by rw [hLa];rfl
   have hA1:hsAt La 1=hb:=by rw [hLa];rfl
   have hA2':La.length=2:=by rw [hLa];rfl
   have HA:=hid_ (And.intro hA0 (And.intro hA1 hA2'))
   clear hK PB5 LN hLa hA0 hA1 hA2'
   obtain ⟨ns,hn9,hne⟩:=turn_i10 hb0
   have hx1:IntKind.i64.wrap (ns:Int)=(ns:Int):=IntWalk.i64_in _ (by omega)
   have hx3:IntKind.i64.wrap a3=a3:=IntWalk.i64_in _ (by omega)
   go_wp2_with fail
   go_loopw [64] (fun v wr=>∃ (j:Nat) (Φ:Nat) (x:St) (js:Nat→List Nat) (z:H1),j≤ns∧v=.int .i64 j∧RunSt c0 (lfR13 l S (i - 1)).rows w2 m (lim13 200) (S.length+1) w4.heap.size (S.length+3+1) La x4 2 Φ (K+j) x js [z,⟨hb,.going 0 [] 0 0,yb⟩] wr∧(z.h=h∧mu c0 Φ x js z.ph=10 - j∧Fresh c0 Φ x js z.ph)) (fun v _=>ns - (intOf v).toNat)
   case atStart=>exact ⟨0,0,x4,js4,_,Nat.zero_le _,rfl,by simpa using R0.out,rfl,MU.out.1,MU.out.2⟩
   case round =>
    obtain ⟨j,Φ,x5,js5,z,hj,rfl,hR,hzh⟩:=hrel
    have R:=hid_ hR
    have ZH:=hid_ hzh
    clear hR R0 MU hzh
    have hj0:(0:Int)≤(j:Int):=Int.natCast_nonneg _
    by_cases hlt:j < ns
    ·have hj1:(j:Int) < (ns:Int):=by omega
     have hov:z.ph.isOver=false:=by
      cases ho:z.ph.isOver with
      | false=>rfl
      | true =>
       obtain ⟨d,hd⟩:=over_ex ho
       have:=ZH.out.2.1
       rw [hd] at this
       have h0:0=10 - j:=this
       omega
     have hst:=hid_ (by
      have:=run_step O.out R.out (i:=0) (z:=z) rfl hov (by omega)
      rw [ZH.out.1] at this
      exact this)
     clear hov
     go_wp2_with fail
     refine hst.out.mono ?_
     rintro e w8 ⟨Φ',x',js',z',rfl,hR',_,_,hh,_,hm⟩
     obtain ⟨m1,m2⟩:=hm ZH.out.2.2
     have R':=hid_ hR'
     have Z':Hid (z'.h=h∧mu c0 Φ' x' js' z'.ph=10 - (j+1)∧Fresh c0 Φ' x' js' z'.ph):=hid_ ⟨hh,by have:=ZH.out.2.1;omega,m2⟩
     clear hst hR' hh hm m1 m2 R
     go_wp2_with fail
     go_roundw
     case rel=>exact ⟨j+1,Φ',x',js',z',by omega,by go_num,by
      have:=R'.out
      rw [show K+(j:Int)+1=K+((j+1:Nat):Int) by push_cast;omega] at this
      exact this,Z'.out⟩
     case measure=>simp [intOf];omega
    ·obtain rfl:j=ns:=by omega
     have hj1:¬ ((j:Int) < (j:Int)):=by omega
     have hov:z.ph.isOver=false:=by
      cases ho:z.ph.isOver with
      | false=>rfl
      | true =>
       obtain ⟨d,hd⟩:=over_ex ho
       have:=ZH.out.2.1
       rw [hd] at this
       have h0:0=10 - j:=this
       omega
     have OV:=hid_ hov
     obtain ⟨w9,hw9⟩:∃ q,q=wr.alloc (.cells #[.pointer (some ⟨hb,0,none⟩)] 41):=⟨_,rfl⟩
     have hruns:=hid_ (runs13_ok O.out (by decide) [1] (fun i hi=>by obtain rfl:=List.mem_singleton.1 hi;have:=HA.out.2.2;omega) (R.out.keep (w':=w9) (by rw [hw9];exact (Fr.refl none_ wr).alloc _)) (show K+(j:Int)+30 * ((1:Nat):Int)≤980 by omega) (A:=some ⟨wr.heap.size,0,none⟩) (cap:=1) (b:=wr.heap.size) (by
      have:=own_one13 wr (hptr hb) w9 hw9
      have e:ptrsH La [1]=[hptr hb]:=by show [hptr (hsAt La 1)]=_;rw [HA.out.2.1]
      rw [e]
      exact this))
     clear hov
     go_wp2_with fail
     rw [← hw9]
     clear hw9
     refine hruns.out.mono ?_
     rintro e wa ⟨Φ',k',x',js',L'',rfl,hR',_,_,_,hovs,hkeep,_⟩
     have hL0:L''[0]?=some z:=(hkeep 0 (by simp)).trans rfl
     obtain ⟨zb,hL1,hzo⟩:=hovs 1 (List.mem_singleton.2 rfl)
     have hlen:L''.length=2:=hR'.len.trans HA.out.2.2
     have hLL:L''=[z,zb]:=by
      refine List.ext_getElem? fun q=>?_
      match q with
      | 0=>exact hL0
      | 1=>exact hL1
      | q+2=>rw [List.getElem?_eq_none (by omega),List.getElem?_eq_none (by simp)]
     subst hLL
     obtain rfl:Φ'=3:=hR'.hp.over3 (List.mem_cons_of_mem _ (List.mem_singleton.2 rfl)) hzo
     have hzb:zb.ph=.over true:=by
      obtain ⟨d,hd⟩:=over_ex hzo
      have hdn:=hR'.hp.dn
      rw [if_pos rfl] at hdn
      unfold doneL at hdn
      rw [List.countP_cons,List.countP_cons,List.countP_nil,hd] at hdn
      have hz0:=OV.out
      cases d with
      | true=>exact hd
      | false =>
       exfalso
       cases hp:z.ph with
       | over d=>rw [hp] at hz0;cases hz0
       | going a b c d=>rw [hp] at hdn;simp at hdn
       | taking a b c d=>rw [hp] at hdn;simp at hdn
       | job a b c d e f=>rw [hp] at hdn;simp at hdn
     have hzbh:zb.h=hb:=by
      have:=hsAt_of hR'.hs hL1
      rw [HA.out.2.1] at this
      exact this.symm
     have P:=hid_ hR'.hp
     have hdone:=hid_ (by have:=done_of hR'.hp (List.mem_cons_of_mem _ (List.mem_singleton.2 rfl)) hzb;rw [hzbh] at this;exact this)
     have hB:Bel x' js' nilS 1 S.length l:=by
      have P:=hR'.hp
      rw [C0.out] at P
      have:=end_bel HL.out SO.out hi1 hi2 P (Nat.le_refl _)
      rw [allR_l HL.out SO.out hi1 hi2] at this
      exact this
     have HB:=hid_ hB
     clear hruns hR' hovs hkeep hL0 hL1 hzo hlen hzb hzbh hB R
     go_wp2_with fail
     refine hdone.out.mono ?_
     rintro e wc ⟨rfl,hfc⟩
     have Pr:=hid_ (P.out.keep hfc)
     clear hdone hfc P
     go_wp2_with fail
     refine (below13_ok _ Pr.out.mm (by decide) (by decide) HB.out (by omega) (by omega)).mono ?_
     rintro e wb ⟨Ab,cb,rfl,hob,hfb⟩
     have Pb:=hid_ (Pr.out.keep hfb)
     have Hb:=hid_ (Reads.of_own hob)
     have hovr:=hid_ (by
      have:=(Pb.out.hp z (List.mem_cons_self)).1.over_
      rw [ZH.out.1,OV.out] at this
      exact this)
     clear Pr hob hfb
     have hsm:=hid_ (sameRows_ok l Ab A cb c wb Hb.out (H.out.none_fr (F2.out.then_none Pb.out.f)) (by omega))
     obtain ⟨j0,hj0'⟩:∃ j0,i=j0+1:=⟨i - 1,by omega⟩
     obtain ⟨bs,offs,hA2,_,hcs,_⟩:=(T2.out.keep Pb.out.f).at_ (sepAt_in (S:=S) (i:=j0) (by omega))
     subst hA2
     have CS:=hid_ hcs
     clear hcs Hb
     go_wp2_with fail
     refine hovr.out.mono ?_
     rintro e wq ⟨rfl,rfl⟩
     go_wp2_with fail
     refine hsm.out.mono ?_
     rintro e wd ⟨rfl,hfd⟩
     have Pd:=hid_ (Pb.out.keep hfd)
     have hcd:=cellFr CS.out hfd
     have hdr:=hid_ (by
      have P:=Pd.out
      rw [C0.out] at P
      exact end_drop SO.out hi1 hi2 (by decide) (by decide) P)
     clear hsm hfd Pb CS
     subst hj0'
     go_wp2_with fail
     refine hdr.out.mono ?_
     rintro e we ⟨rfl,hfe⟩
     have Pe:=hid_ (Pd.out.keep hfe)
     have FE:=hid_ (F2.out.then_none Pe.out.f)
     clear hdr hfe Pd hcd
     go_wp2_with fail
     refine (awake13_ok _).mono ?_
     rintro e wz ⟨rfl,hfz⟩
     have FZ:=hid_ (FE.out.then_none hfz)
     clear hfz
     go_wp2_with fail
     go_ret
     exact ⟨rfl,FZ.out⟩
theorem mbroken13_i {H:Type} {enc:TypeId × Value→H} (A:Option Addr) (n cap:Nat) (hc:n≤cap) (hm:cap≤maxLen) (B:Option Addr) (n1 cap1:Nat) (hc1:n1≤cap1) (hm1:cap1≤maxLen) (a2:Int) (wf2:(Lit.int .u8 a2).wf=true) (a3:Int) (wf3:(Lit.int .u8 a3).wf=true) (w:World) (h1:Rd enc Tryz.prog w 6 25 A n) (h2:Rd enc Tryz.prog w 6 9 B n1) :
    Calls Tryz.prog 4 #[.slice A n cap,.slice B n1 cap1,.int .u8 a2,.int .u8 a3] w fun e w'=>e=.returned (.bool true)∧Fr none_ w w':=by
  obtain ⟨l,rfl,hl,hlz⟩:=Row_list h1
  obtain ⟨N,rfl,hN⟩:=Str_at h2
  exact mbroken13_law l N A B cap cap1 a2 a3 w hl hlz ⟨hc,hm⟩ hN ⟨hc1,hm1⟩ (wf_u8 wf2) (wf_u8 wf3)
end Go.Proofs.YthpkbppaaagaoaaGreat

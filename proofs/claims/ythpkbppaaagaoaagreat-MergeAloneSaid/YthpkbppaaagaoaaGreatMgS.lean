/- Texts of one proof, merged: MAl13. -/
import Derived.Test.YthpkbppaaagaoaaGreatMgR
namespace Go.Proofs.YthpkbppaaagaoaaGreat
open Go.RowKit Go.BigFrame
set_option maxRecDepth 100000
set_option linter.unusedVariables false

set_option maxHeartbeats 8000000 in
theorem malone13_law (l:List Rw) (N:List ByteArray) (A B:Option Addr) (c d:Nat) (a2:Int) (w:World) (h:Reads w 2 A l.length (rwFlat l)) (ho:∀ p ∈ l,SzOk p.1∧SzOk p.2) (hc:l.length≤c∧c≤maxLen) (hN:TxReads w B N.length N) (hd:N.length≤d∧d≤maxLen) (ha:0≤a2∧a2≤255) :
  Calls Tryz.prog 9 #[.slice A l.length c,.slice B N.length d,.int .u8 a2] w (RetQ (.bool true) w):=by
 have H:=hid_ h
 have HO:=hid_ ho
 have HN:=hid_ hN
 have F0:=hid_ (Fr.refl none_ w)
 obtain ⟨ha0,ha1⟩:=ha
 obtain ⟨w0,hw0⟩:∃ z,z=w.alloc (.cells #[] 9):=⟨_,rfl⟩
 have f0:Fr none_ w w0:=by rw [hw0];exact (Fr.refl none_ w).alloc _
 have hfew:=hid_ (few13_ok l A B c d N w0 (h.none_fr f0) ho hc (hN.keep f0) hd)
 have F0:=hid_ f0
 clear h ho hN hc hd f0
 go_enter Tryz.func9,Tryz.ntmps9
 go_upto_region 2 with fail
 change Code.wp _ _ _ _ (w.alloc (.cells #[] 9))
 rw [← hw0]
 clear hw0
 go_wp2_with fail
 refine hfew.out.mono ?_
 rintro e w1 ⟨b,rfl,hb,hf1⟩
 have F1:=hid_ (F0.out.then_none hf1)
 have HB:=hid_ hb
 clear hfew hf1 hb
 cases b with
 | false =>
  go_wp2_with fail
  refine (awake13_ok _).mono ?_
  rintro e wz ⟨rfl,hfz⟩
  have FZ:=hid_ (F1.out.then_none hfz)
  clear hfz
  go_wp2_with fail
  go_ret
  exact ⟨rfl,FZ.out⟩
 | true =>
  obtain ⟨hl60,hright,hN12⟩:=HB.out rfl
  have HL:=hid_ hright
  have hseps:=hid_ (seps_ok N B d w1 (HN.out.keep F1.out) hN12)
  clear HB hright
  go_wp2_with fail
  refine hseps.out.mono ?_
  rintro e w2 ⟨A2,c2,rfl,ho2,hf2⟩
  have hle:=sepsTo_le N N.length
  have hso:=sepsTo_ok N N.length
  obtain ⟨S,hS⟩:∃ z,z=sepsTo N N.length:=⟨_,rfl⟩
  rw [← hS] at ho2 hle hso ⊢
  have F2:=hid_ (F1.out.then_none hf2)
  have T2:=hid_ (tx_of_own ho2 hso)
  have SO:=hid_ hso
  have hd12:S.length≤12:=by omega
  clear hS hf2 ho2 hso hseps F1
  by_cases hz:S.length=0
  ·have hz':((S.length:Int)==0)=true:=by simp [hz]
   go_wp2_with fail
   refine (awake13_ok _).mono ?_
   rintro e wz ⟨rfl,hfz⟩
   have FZ:=hid_ (F2.out.then_none hfz)
   clear hfz
   go_wp2_with fail
   go_ret
   exact ⟨rfl,FZ.out⟩
  ·have hz':((S.length:Int)==0)=false:=by rw [beq_eq_false_iff_ne];omega
   have hpos:0 < S.length:=by omega
   have hlaid:=hid_ (laid13_ok l A A2 c c2 S 200 w2 (H.out.none_fr F2.out) (HL.out.rows (by omega)) hl60 T2.out hd12 (.inr rfl) (by omega))
   clear hz
   go_wp2_with fail
   refine hlaid.out.mono ?_
   rintro e w3 ⟨m,x,js,rfl,hL3⟩
   have Q3:=hid_ hL3
   have T3:=hid_ (T2.out.keep hL3.f)
   clear hlaid hL3
   obtain ⟨i,hi1,hi2,hie⟩:=leaf_i (a:=a2) ha0 hpos
   have hheld:=hid_ (held13_ok l S A2 c2 i T3.out hd12 hi1 hi2 Q3.out (by omega) (by omega) (by omega) (by omega))
   have hw1:IntKind.i64.wrap ((i:Int) - 1)=(i:Int) - 1:=IntWalk.i64_in _ (by omega)
   have hw2:IntKind.i64.wrap (1+((i:Int) - 1))=(i:Int):=(IntWalk.i64_in _ (by omega)).trans (by omega)
   have hw3:IntKind.i64.wrap a2=a2:=IntWalk.i64_in _ (by omega)
   go_upto_region 10 with fail
   clear hie hw1 hw2 hw3 ha0 ha1
   go_wp2_with fail
   refine hheld.out.mono ?_
   rintro e w4 ⟨hs,hg,rs,rg,x4,js4,rfl,hL4,hp4⟩
   have P0:=hid_ (start0 (sp:=fun _=>False) HL.out hl60 SO.out hd12 hi1 hi2 (by decide) hL4 hp4 (by push_cast;omega))
   have LN:=hid_ (start_len hL4.lay hi1 hi2)
   clear hheld hL4 hp4 Q3
   go_upto_region 11 with fail
   obtain ⟨w5,hw5⟩:∃ z,z=(w4.alloc (.cells #[.int .i64 hs,.int .i64 hg] 36)).alloc (.cells #[.int .i64 ((i:Int)+1),.int .i64 (i:Int),.string (leafLow S i)] 38):=⟨_,rfl⟩
   change Code.wp _ _ _ _ ((w4.alloc (.cells #[.int .i64 hs,.int .i64 hg] 36)).alloc (.cells #[.int .i64 ((i:Int)+1),.int .i64 (i:Int),.string (leafLow S i)] 38))
   rw [← hw5]
   have f5:Fr none_ w4 w5:=by rw [hw5];exact ((Fr.refl none_ w4).alloc _).alloc _
   have B1:Blk w5 w4.heap.size 36 #[.int .i64 hs,.int .i64 hg]:=by rw [hw5];exact (Blk.new w4 _ _).alloc _
   have B2:Blk w5 (w4.heap.size+1) 38 #[.int .i64 ((i:Int)+1),.int .i64 (i:Int),.string (leafLow S i)]:=by rw [hw5];exact Blk.new7 _ _ (by simp)
   have a0:=B1.cell' (i:=0) rfl
   have a1:=B1.cell' (i:=1) rfl
   have b0:=B2.cell' (i:=0) rfl
   have b1:=B2.cell' (i:=1) rfl
   have b2:=B2.cell' (i:=2) rfl
   have P5:=hid_ (P0.out.keep f5)
   clear hw5 f5 B1 B2 P0
   go_wp2_with fail
   refine (mbegin_ok 0 hs hg ((i:Int)+1) (i:Int) (leafLow S i) w5).mono ?_
   intro e w6 hbeg
   obtain ⟨h,y,rfl,hP6,hf6⟩:=P5.out.begin_ (c:=cf13 200 l S i hs hg rs rg fun _=>False) hbeg
   have O:Hid (RunOk (cf13 200 l S i hs hg rs rg fun _=>False) (lim13 200) (S.length+3+1) [⟨h,.over true,newY (cf13 200 l S i hs hg rs rg fun _=>False) 0 0⟩] 2):=hid_ (runOk HL.out hl60 SO.out hi1 hi2 (show S.length+3+1+3+1 < 200 by omega) (by decide))
   have R0:Hid (Run1 (cf13 200 l S i hs hg rs rg fun _=>False) (lfR13 l S (i - 1)).rows w2 m (lim13 200) (S.length+1) w4.heap.size (S.length+3+1) h x4 2 10 0 (3 * (S.length:Int)+6+3) x4 js4 ⟨h,.going 0 [] 0 0,y⟩ w6):=hid_ (by
    obtain ⟨l1,l2⟩:=LN.out
    obtain ⟨m1,m2⟩:=start_mu (c:=cf13 200 l S i hs hg rs rg fun _=>False) (x:=x4) (js:=js4) l1 l2
    refine ⟨⟨hP6,rfl,rfl,?_⟩,rfl,m1,m2⟩
    show (js4 i).length+_≤2
    rw [l1]
    decide)
   clear hbeg hP6 hf6 P5 LN a0 a1 b0 b1 b2
   obtain ⟨K,hK⟩:∃ z,z=3 * (S.length:Int)+6+3:=⟨_,rfl⟩
   have hK0:0≤K∧K≤45:=by omega
   rw [← hK] at R0
   clear hK
   have hbusy:=hid_ (mdone_busy R0.out.z_.b (R0.out.z_.overB.trans R0.out.over_iff))
   go_wp2_with fail
   refine hbusy.out.mono ?_
   rintro e w7 ⟨rfl,rfl⟩
   clear hbusy
   go_wp2_with fail
   refine (isF 11 11 _).mono ?_
   rintro e w7 ⟨rfl,rfl⟩
   go_wp2_with fail
   refine (run1_over R0.out).mono ?_
   rintro e w7 ⟨rfl,rfl⟩
   go_wp2_with fail
   refine (memCount_ok _ R0.out.r.hp.mm).mono ?_
   rintro e w7 ⟨rfl,rfl⟩
   go_wp2_with fail
   obtain ⟨c0,hc0⟩:∃ c,c=cf13 200 l S i hs hg rs rg fun _=>False:=⟨_,rfl⟩
   rw [← hc0] at R0 O
   have C0:=hid_ hc0
   clear hc0
   go_loopw [79] (fun v wr=>∃ (j:Nat) (Φ:Nat) (x:St) (js:Nat→List Nat) (z:H1),j≤10∧v=.int .i64 j∧Run1 c0 (lfR13 l S (i - 1)).rows w2 m (lim13 200) (S.length+1) w4.heap.size (S.length+3+1) h x4 2 (10 - j) Φ (K+j) x js z wr) (fun v _=>10 - (intOf v).toNat)
   case atStart=>exact ⟨0,0,x4,js4,_,by omega,rfl,by simpa using R0.out⟩
   case round =>
    obtain ⟨j,Φ,x5,js5,z,hj,rfl,hR⟩:=hrel
    have R:=hid_ hR
    clear hR R0
    have hj0:(0:Int)≤(j:Int):=Int.natCast_nonneg _
    have hwa:IntKind.i64.wrap (K+(j:Int))=K+(j:Int):=IntWalk.i64_in _ (by omega)
    have hwb:IntKind.i64.wrap (K+(j:Int)+1)=K+(j:Int)+1:=IntWalk.i64_in _ (by omega)
    by_cases hlt:j < 10
    ·have hj1:(j:Int) < 10:=by omega
     have hst:=hid_ (by
      have hR:=R.out
      rw [show 10 - j=(9 - j)+1 by omega] at hR
      exact run1_step O.out hR (by omega))
     have heq:((j:Int)==9)=decide (9 - j=0):=by
      by_cases e:j=9
      ·subst e;rfl
      ·rw [decide_eq_false (by omega),beq_eq_false_iff_ne];omega
     go_wp2_with fail
     refine hst.out.mono ?_
     rintro e w7 ⟨Φ',x',js',z',rfl,hR'⟩
     have R':=hid_ hR'
     clear hst hR' R
     go_wp2_with fail
     refine (memCount_ok _ R'.out.r.hp.mm).mono ?_
     rintro e w8 ⟨rfl,rfl⟩
     go_wp2_with fail
     go_roundw
     case rel=>exact ⟨j+1,Φ',x',js',z',by omega,by go_num,by
      have:=R'.out
      rw [show 9 - j=10 - (j+1) by omega,show K+(j:Int)+1=K+((j+1:Nat):Int) by push_cast;omega] at this
      exact this⟩
     case measure=>simp [intOf];omega
    ·obtain rfl:j=10:=by omega
     have hj1:¬ (((10:Nat):Int) < 10):=by omega
     obtain ⟨rfl,hz⟩:=R.out.end_
     have hB:Bel x5 js5 nilS 1 S.length l:=by
      have P:=R.out.r.hp
      rw [C0.out] at P
      have:=end_bel HL.out SO.out hi1 hi2 P (Nat.le_refl _)
      rw [allR_l HL.out SO.out hi1 hi2] at this
      exact this
     have HB:=hid_ hB
     clear hB hz
     go_wp2_with fail
     refine (run1_done R.out).mono ?_
     rintro e w8 ⟨rfl,hf8⟩
     have R8:=hid_ (R.out.keep hf8)
     clear R hf8
     go_wp2_with fail
     refine (run1_gone R8.out).mono ?_
     rintro e w9 ⟨rfl,hf9⟩
     have R9:=hid_ (R8.out.keep hf9)
     clear R8 hf9
     have hci:(c0.i:Int)+1=(i:Int)+1:=by rw [C0.out];rfl
     rw [hci]
     clear hci
     go_wp2_with fail
     obtain ⟨wa,hwa'⟩:∃ q,q=w9.alloc (.cells #[.int .i64 z.y.H.as_,.int .i64 z.y.H.ag] 36):=⟨_,rfl⟩
     rw [← hwa']
     have Ra:=hid_ (R9.out.keep (w':=wa) (by rw [hwa'];exact (Fr.refl none_ w9).alloc _))
     clear hwa' R9
     refine (below13_ok wa Ra.out.r.hp.mm (by decide) (by decide) HB.out (by omega) (by omega)).mono ?_
     rintro e wb ⟨Ab,cb,rfl,hob,hfb⟩
     have Rb:=hid_ (Ra.out.keep hfb)
     have Hb:=hid_ (Reads.of_own hob)
     clear Ra hob hfb
     have hsm:=hid_ (sameRows_ok l Ab A cb c wb Hb.out (H.out.none_fr (F2.out.then_none Rb.out.r.hp.f)) (by omega))
     have hwK:IntKind.i64.wrap (K+10)=K+10:=IntWalk.i64_in _ (by omega)
     have hwi:IntKind.i64.wrap ((i:Int)+1)=(i:Int)+1:=IntWalk.i64_in _ (by omega)
     obtain ⟨j0,hj0'⟩:∃ j0,i=j0+1:=⟨i - 1,by omega⟩
     obtain ⟨bs,offs,hA2,_,hcs,_⟩:=(T2.out.keep Rb.out.r.hp.f).at_ (sepAt_in (S:=S) (i:=j0) (by omega))
     subst hA2
     have CS:=hid_ hcs
     clear hcs Hb
     go_wp2_with fail
     refine (run1_more Rb.out).mono ?_
     rintro e wc ⟨rfl,rfl⟩
     go_wp2_with fail
     refine (memCount_ok _ Rb.out.r.hp.mm).mono ?_
     rintro e wc ⟨rfl,rfl⟩
     go_wp2_with fail
     refine hsm.out.mono ?_
     rintro e wd ⟨rfl,hfd⟩
     have Rd:=hid_ (Rb.out.keep hfd)
     have hcd:=cellFr CS.out hfd
     have hdr:=hid_ (by
      have P:=Rd.out.r.hp
      rw [C0.out] at P
      exact end_drop SO.out hi1 hi2 (by decide) (by decide) P)
     clear hsm hfd Rb CS
     subst hj0'
     go_wp2_with fail
     refine hdr.out.mono ?_
     rintro e we ⟨rfl,hfe⟩
     have Re:=hid_ (Rd.out.keep hfe)
     have FE:=hid_ (F2.out.then_none Re.out.r.hp.f)
     clear hdr hfe Rd hcd
     go_wp2_with fail
     refine (awake13_ok _).mono ?_
     rintro e wz ⟨rfl,hfz⟩
     have FZ:=hid_ (FE.out.then_none hfz)
     clear hfz
     go_wp2_with fail
     go_ret
     exact ⟨rfl,FZ.out⟩
theorem malone13_i {H:Type} {enc:TypeId × Value→H} (A:Option Addr) (n cap:Nat) (hc:n≤cap) (hm:cap≤maxLen) (B:Option Addr) (n1 cap1:Nat) (hc1:n1≤cap1) (hm1:cap1≤maxLen) (a2:Int) (wf2:(Lit.int .u8 a2).wf=true) (w:World) (h1:Rd enc Tryz.prog w 6 25 A n) (h2:Rd enc Tryz.prog w 6 9 B n1) :
    Calls Tryz.prog 9 #[.slice A n cap,.slice B n1 cap1,.int .u8 a2] w fun e w'=>e=.returned (.bool true)∧Fr none_ w w':=by
  obtain ⟨l,rfl,hl,hlz⟩:=Row_list h1
  obtain ⟨N,rfl,hN⟩:=Str_at h2
  exact malone13_law l N A B cap cap1 a2 w hl hlz ⟨hc,hm⟩ hN ⟨hc1,hm1⟩ (wf_u8 wf2)
end Go.Proofs.YthpkbppaaagaoaaGreat

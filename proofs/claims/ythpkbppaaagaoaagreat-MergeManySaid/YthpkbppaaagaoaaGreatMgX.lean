/- Texts of one proof, merged: MMa13. -/
import Derived.Test.YthpkbppaaagaoaaGreatMgR
import Derived.Test.YthpkbppaaagaoaaGreatMgU
namespace Go.Proofs.YthpkbppaaagaoaaGreat
open Go.RowKit Go.BigFrame
set_option maxRecDepth 100000
set_option linter.unusedVariables false

theorem hlp_info:(Tryz.prog.info? 41).map (fun i=>(i.zero,i.size,i.bytes))=some (some (.pointer none),1,8):=by kernel_rfl
theorem ptrs_range (L:List H1):ptrsH L (List.range L.length)=L.map fun z=>hptr z.h:=by
  refine List.ext_getElem? fun j=>?_
  rw [List.getElem?_map,List.getElem?_map]
  rcases Nat.lt_or_ge j L.length with hj | hj
  · obtain ⟨z,hz⟩:∃ z,L[j]?=some z:=⟨_,List.getElem?_eq_getElem hj⟩
    rw [List.getElem?_range hj,hz]
    show some (hptr (hsAt L j))=some (hptr z.h)
    rw [hsAt_of (L':=L) rfl hz]
  · rw [List.getElem?_eq_none (by rw [List.length_range];exact hj),List.getElem?_eq_none hj]
    rfl
theorem helpers_n {a:Int} (h0:0≤a):∃ q:Nat,1≤q∧q≤12∧a.tmod 12=(q:Int) - 1:=leaf_i (n:=12) h0 (by omega)
theorem turn_i {a:Int} {n:Nat} (h0:0≤a) (hn:0 < n):∃ q:Nat,q < n∧a.tmod (n:Int)=(q:Int):=by
  have h1:=Int.tmod_nonneg (n:Int) h0
  have h2:=Int.tmod_lt_of_pos a (b:=(n:Int)) (by omega)
  obtain ⟨q,hq⟩:∃ q,q=a.tmod (n:Int):=⟨_,rfl⟩
  rw [← hq] at h1 h2 ⊢
  exact ⟨q.toNat,by omega,by omega⟩
def doneTo (L:List H1) (j:Nat):Nat:=doneL (L.take j)
theorem doneTo_step {L:List H1} {j:Nat} {z:H1} {d:Bool} (hz:L[j]?=some z) (hd:z.ph=.over d):doneTo L (j+1)=doneTo L j+if d then 1 else 0:=by
  unfold doneTo
  rw [List.take_add_one,hz]
  unfold doneL
  rw [List.countP_append]
  congr 1
  rw [Option.toList_some,List.countP_singleton,hd]
  cases d <;> rfl
theorem doneTo_all {L:List H1}:doneTo L L.length=doneL L:=by unfold doneTo;rw [List.take_length]
section
variable {c:Cf} {Φ:Nat} {cur:List Rw} {W w:World} {m:Nat} {k:Int} {lm:Lm} {x x0:St} {js:Nat→List Nat} {M b0 u nI:Nat} {L L':List H1}
theorem any_step (O:RunOk c lm u L nI) (R:RunSt c cur W m lm M b0 u L x0 nI Φ k x js L' w) {i:Nat} {z:H1} (hz:L'[i]?=some z) (hk:k≤990) :
    Calls Tryz.prog 18 #[.pointer (some ⟨z.h,0,none⟩),.pointer (some ⟨m,0,none⟩)] w fun e w'=>∃ b Φ' k' x' js' L'',e=.returned (.bool b)∧RunSt c cur W m lm M b0 u L x0 nI Φ' k' x' js' L'' w'∧k'=k+(if z.ph.isOver then 0 else 1)∧Kept13 w w':=by
  cases ho:z.ph.isOver with
  | true =>
    refine (step_endL R hz ho).mono ?_
    rintro e w' ⟨rfl,rfl⟩
    exact ⟨true,Φ,k,x,js,L',rfl,R,by simp,Kept13.refl _⟩
  | false =>
    refine (run_step O R hz ho hk).mono ?_
    rintro e w' ⟨Φ',x',js',z',rfl,R',hkp,_⟩
    exact ⟨_,Φ',k+1,x',js',_,rfl,R',by simp,hkp⟩
end
set_option maxHeartbeats 8000000 in
theorem mmany13_law (l:List Rw) (N:List ByteArray) (A B:Option Addr) (c d:Nat) (a2:Int) (a3:Int) (C:Option Addr) (n4 c4:Nat) (w:World) (h:Reads w 2 A l.length (rwFlat l)) (ho:∀ p ∈ l,SzOk p.1∧SzOk p.2) (hc:l.length≤c∧c≤maxLen) (hN:TxReads w B N.length N) (hd:N.length≤d∧d≤maxLen) (ha:0≤a2∧a2≤255) (hb:0≤a3∧a3≤255) (hC:Bytes13 w C n4) :
  Calls Tryz.prog 6 #[.slice A l.length c,.slice B N.length d,.int .u8 a2,.int .u8 a3,.slice C n4 c4] w (RetQ (.bool true) w):=by
 have H:=hid_ h
 have HO:=hid_ ho
 have HN:=hid_ hN
 obtain ⟨ha0,ha1⟩:=ha
 obtain ⟨hb0,hb1⟩:=hb
 have HC:=hid_ hC
 clear hC
 obtain ⟨w0,hw0⟩:∃ z,z=w.alloc (.cells #[] 9):=⟨_,rfl⟩
 have f0:Fr none_ w w0:=by rw [hw0];exact (Fr.refl none_ w).alloc _
 have hfew:=hid_ (few13_ok l A B c d N w0 (h.none_fr f0) ho hc (hN.keep f0) hd)
 have F0:=hid_ f0
 clear h ho hN hc hd f0
 go_enter Tryz.func6,Tryz.ntmps6
 go_upto_region 2 with fail
 change Code.wp _ _ _ _ (w.alloc (.cells #[] 9))
 rw [← hw0]
 clear hw0
 go_wp2_with fail
 refine hfew.out.mono ?_
 rintro e w1 ⟨b,rfl,hb,hf1⟩
 have F1:=hid_ (F0.out.then_none hf1)
 have HB:=hid_ hb
 clear hfew hf1 hb
 cases b with
 | false =>
  go_wp2_with fail
  refine (awake13_ok _).mono ?_
  rintro e wz ⟨rfl,hfz⟩
  have FZ:=hid_ (F1.out.then_none hfz)
  clear hfz
  go_wp2_with fail
  go_ret
  exact ⟨rfl,FZ.out⟩
 | true =>
  obtain ⟨hl60,hright,hN12⟩:=HB.out rfl
  have HL:=hid_ hright
  have hseps:=hid_ (seps_ok N B d w1 (HN.out.keep F1.out) hN12)
  clear HB hright
  by_cases h300:¬ (n4≤300)
  ·have h301:¬ ((n4:Int)≤300):=by omega
   go_wp2_with fail
   refine (awake13_ok _).mono ?_
   rintro e wz ⟨rfl,hfz⟩
   have FZ:=hid_ (F1.out.then_none hfz)
   clear hfz
   go_wp2_with fail
   go_ret
   exact ⟨rfl,FZ.out⟩
  have h300':n4≤300:=by omega
  have h301:(n4:Int)≤300:=by omega
  clear h300
  go_wp2_with fail
  refine hseps.out.mono ?_
  rintro e w2 ⟨A2,c2,rfl,ho2,hf2⟩
  have hle:=sepsTo_le N N.length
  have hso:=sepsTo_ok N N.length
  obtain ⟨S,hS⟩:∃ z,z=sepsTo N N.length:=⟨_,rfl⟩
  rw [← hS] at ho2 hle hso ⊢
  have F2:=hid_ (F1.out.then_none hf2)
  have T2:=hid_ (tx_of_own ho2 hso)
  have SO:=hid_ hso
  have hd12:S.length≤12:=by omega
  clear hS hf2 ho2 hso hseps F1
  by_cases hz:S.length=0
  ·have hz':((S.length:Int)==0)=true:=by simp [hz]
   go_wp2_with fail
   refine (awake13_ok _).mono ?_
   rintro e wz ⟨rfl,hfz⟩
   have FZ:=hid_ (F2.out.then_none hfz)
   clear hfz
   go_wp2_with fail
   go_ret
   exact ⟨rfl,FZ.out⟩
  ·have hz':((S.length:Int)==0)=false:=by rw [beq_eq_false_iff_ne];omega
   have hpos:0 < S.length:=by omega
   clear hz
   have hlaid:=hid_ (laid13_ok l A A2 c c2 S 200 w2 (H.out.none_fr F2.out) (HL.out.rows (by omega)) hl60 T2.out hd12 (.inr rfl) (by omega))
   go_wp2_with fail
   refine hlaid.out.mono ?_
   rintro e w3 ⟨m,x,js,rfl,hL3⟩
   have Q3:=hid_ hL3
   have T3:=hid_ (T2.out.keep hL3.f)
   clear hlaid hL3
   obtain ⟨i,hi1,hi2,hie⟩:=leaf_i (a:=a2) ha0 hpos
   have hheld:=hid_ (held13_ok l S A2 c2 i T3.out hd12 hi1 hi2 Q3.out (by omega) (by omega) (by omega) (by omega))
   have hw1:IntKind.i64.wrap ((i:Int) - 1)=(i:Int) - 1:=IntWalk.i64_in _ (by omega)
   have hw2:IntKind.i64.wrap (1+((i:Int) - 1))=(i:Int):=(IntWalk.i64_in _ (by omega)).trans (by omega)
   have hw3:IntKind.i64.wrap a2=a2:=IntWalk.i64_in _ (by omega)
   go_upto_region 10 with fail
   clear hie hw1 hw2 hw3 ha0 ha1
   go_wp2_with fail
   refine hheld.out.mono ?_
   rintro e w4 ⟨hs,hg,rs,rg,x4,js4,rfl,hL4,hp4⟩
   have P0:=hid_ (start0 (sp:=fun _=>False) HL.out hl60 SO.out hd12 hi1 hi2 (by decide) hL4 hp4 (by push_cast;omega))
   have LN:=hid_ (start_len hL4.lay hi1 hi2)
   have UP:=hid_ (start_pages hL4.lay)
   clear hheld hL4 hp4 Q3
   go_upto_region 11 with fail
   obtain ⟨w5,hw5⟩:∃ z,z=(w4.alloc (.cells #[.int .i64 hs,.int .i64 hg] 36)).alloc (.cells #[.int .i64 ((i:Int)+1),.int .i64 (i:Int),.string (leafLow S i)] 38):=⟨_,rfl⟩
   change Code.wp _ _ _ _ ((w4.alloc (.cells #[.int .i64 hs,.int .i64 hg] 36)).alloc (.cells #[.int .i64 ((i:Int)+1),.int .i64 (i:Int),.string (leafLow S i)] 38))
   rw [← hw5]
   have f5:Fr none_ w4 w5:=by rw [hw5];exact ((Fr.refl none_ w4).alloc _).alloc _
   have B1:Hid (Blk w5 w4.heap.size 36 #[.int .i64 hs,.int .i64 hg]):=hid_ (by rw [hw5];exact (Blk.new w4 _ _).alloc _)
   have B2:Hid (Blk w5 (w4.heap.size+1) 38 #[.int .i64 ((i:Int)+1),.int .i64 (i:Int),.string (leafLow S i)]):=hid_ (by rw [hw5];exact Blk.new7 _ _ (by simp))
   have P5:=hid_ (P0.out.keep f5)
   clear hw5 f5 P0
   obtain ⟨c0,hc0⟩:∃ c,c=cf13 200 l S i hs hg rs rg fun _=>False:=⟨_,rfl⟩
   rw [← hc0] at P5
   have C0:=hid_ hc0
   have hci:c0.i=i:=by rw [hc0];rfl
   have CI:=hid_ hci
   clear hc0 hci
   have BO5:Hid (w5.ownsRow w5.heap.size 41 1 (.slice none 0 0) 0 []):=hid_ (World.ownsRow_nil _ _ _ _)
   obtain ⟨nh,hnh1,hnh2,hne⟩:=helpers_n (a:=a3) hb0
   have hx1:IntKind.i64.wrap ((nh:Int) - 1)=(nh:Int) - 1:=IntWalk.i64_in _ (by omega)
   have hx2:IntKind.i64.wrap (1+((nh:Int) - 1))=(nh:Int):=(IntWalk.i64_in _ (by omega)).trans (by omega)
   have hx3:IntKind.i64.wrap a3=a3:=IntWalk.i64_in _ (by omega)
   obtain ⟨i0,hi0,hz0,hs0,hbb0⟩:=info_parts hlp_info
   have Hi:=hid_ (And.intro hi0 (And.intro hz0 (And.intro hs0 hbb0)))
   clear hi0 hz0 hs0 hbb0
   go_wp2_with fail
   go_loopw [18,73] (fun va vj wr=>∃ (j:Nat) (L:List H1) (Ar:Option Addr) (cr:Nat),j≤nh∧(L.length=j∧∀ z ∈ L,z.ph=.going 0 [] 0 0)∧va=.slice Ar j cr∧vj=.int .i64 j∧wr.ownsRow w5.heap.size 41 1 (.slice Ar j cr) j (L.map fun z=>hptr z.h)∧Hps c0 0 (lfR13 l S (i - 1)).rows w2 wr m (3 * (S.length:Int)+6+3) (lim13 200) x4 js4 (S.length+1) w4.heap.size (S.length+3+1) L∧Fr none_ w5 wr) (fun _ vj _=>nh - (intOf vj).toNat)
   case atStart=>exact ⟨0,[],none,0,Nat.zero_le _,⟨rfl,fun z hz=>by cases hz⟩,rfl,rfl,BO5.out,P5.out,Fr.refl _ _⟩
   case round =>
    obtain ⟨j,Lh,Ar,cr,hj,hlen,rfl,rfl,ho,hP,hF⟩:=hrel
    have O5:=hid_ ho
    have P:=hid_ hP
    have F5:=hid_ hF
    have LE:=hid_ hlen
    clear ho hP hF hlen
    have hj0:(0:Int)≤(j:Int):=Int.natCast_nonneg _
    by_cases hlt:j < nh
    ·have hj1:(j:Int) < (nh:Int):=by omega
     have B1r:=B1.out.fr F5.out id
     have B2r:=B2.out.fr F5.out id
     have a0:=B1r.cell' (i:=0) rfl
     have a1:=B1r.cell' (i:=1) rfl
     have b0:=B2r.cell' (i:=0) rfl
     have b1:=B2r.cell' (i:=1) rfl
     have b2:=B2r.cell' (i:=2) rfl
     have hbg:=hid_ (mbegin_ok 0 hs hg ((i:Int)+1) (i:Int) (leafLow S i) wr)
     clear B1r B2r
     go_wp2_with fail
     refine hbg.out.mono ?_
     intro e w8 hbeg
     obtain ⟨h,y,he8,hP8,hf8⟩:=P.out.begin_ (c:=c0) (by rw [C0.out];exact hbeg)
     unfold hptr at he8
     subst he8
     have P8:=hid_ hP8
     have F8:=hid_ (F5.out.then_none hf8)
     have O8:=hid_ (own_none O5.out hf8)
     clear hbg hbeg hP8 hf8 a0 a1 b0 b1 b2 O5 P F5
     have hbs:=F8.out.size
     go_wp2_with (at_builtin;refine wpList_append_any _ rfl (.tmp 75) (.tmp 79) 63 rfl w5.heap.size 41 i0 _ 1 8 Tryz.underlying63 Hi.out.1 Hi.out.2.1 Hi.out.2.2.1 Hi.out.2.2.2 rfl (by omega) (.slice Ar j cr) j (Lh.map fun z=>hptr z.h) rfl (own_none O8.out ((Fr.refl none_ _).alloc _)) (some ⟨w8.heap.size,0,none⟩) 1 1 [hptr h] rfl (reads_new w8 _ [hptr h] _ rfl) (by simp [hptr,Value.oneCell']) (by simp only [maxLen];omega) (by omega) (by simp [World.size_alloc];omega) ?_;intro A3 c3 w9 hown9 hgr9)
     have O9:=hid_ hown9
     obtain ⟨wq,hwq⟩:∃ q,q=w8.alloc (.cells #[.pointer (some ⟨h,0,none⟩)] 41):=⟨_,rfl⟩
     have fq:Fr none_ w8 wq:=by rw [hwq];exact (Fr.refl none_ w8).alloc _
     have hgr:wq.grownBy w9 (Value.slice Ar j cr).ownBlock:=by rw [hwq];exact hgr9
     have Pq:=hid_ (P8.out.keep fq)
     have Oq:=hid_ (own_none O8.out fq)
     have fg:Fr (fun q=>(Value.slice Ar j cr).ownBlock=some q) wq w9:=(Fr.refl _ wq).grown hgr (fun kk hkk=>.inl hkk)
     have F9:=hid_ ((F8.out.then_none fq).grown hgr (fun kk hkk=>.inr (Oq.out.lt kk hkk).1))
     have P9:=hid_ (hps_row Pq.out (fun z hz=>by
      rcases List.mem_append.1 hz with hz | hz
      ·exact LE.out.2 z hz
      ·obtain rfl:=List.mem_singleton.1 hz;rfl) fg Oq.out (by have:=P5.out.f.size;omega))
     clear hown9 hgr9 hgr fg fq hwq P8 O8 F8 Oq Pq
     go_wp2_with fail
     go_roundw
     case rel=>exact ⟨j+1,Lh ++ [⟨h,.going 0 [] 0 0,y⟩],A3,c3,by omega,⟨by rw [List.length_append,LE.out.1];rfl,fun z hz=>by
      rcases List.mem_append.1 hz with hz | hz
      ·exact LE.out.2 z hz
      ·obtain rfl:=List.mem_singleton.1 hz;rfl⟩,rfl,by go_num,by rw [List.map_append];exact O9.out,P9.out,F9.out⟩
     case measure=>simp [intOf];omega
    ·obtain rfl:j=nh:=by omega
     have hj1:¬ ((j:Int) < (j:Int)):=by omega
     have hLE:=LE.out.1
     subst hLE
     clear hne hx1 hx2 hx3 LE
     have OW:Hid (wr.ownsRow w5.heap.size 41 1 (.slice Ar (List.range Lh.length).length cr) (List.range Lh.length).length (ptrsH Lh (List.range Lh.length))):=hid_ (by rw [ptrs_range,List.length_range];exact O5.out)
     have O:Hid (RunOk c0 (lim13 200) (S.length+3+1) Lh 2):=hid_ (by rw [C0.out];exact runOk HL.out hl60 SO.out hi1 hi2 (by omega) (by decide))
     obtain ⟨K,hK⟩:∃ z,z=3 * (S.length:Int)+6+3:=⟨_,rfl⟩
     have hK0:0≤K∧K≤45:=by omega
     rw [← hK] at P
     have R0:Hid (RunSt c0 (lfR13 l S (i - 1)).rows w2 m (lim13 200) (S.length+1) w4.heap.size (S.length+3+1) Lh x4 2 0 K x4 js4 Lh wr):=hid_ ⟨P.out,rfl,rfl,by
      rw [CI.out,LN.out.1]
      decide⟩
     clear hK P O5 F5 LN B1 B2 P5 BO5
     obtain ⟨wq,rfl⟩:∃ q:World,q=wr:=⟨_,rfl⟩
     go_wp2_with fail
     go_loopw [84] (fun vt wr=>∃ (t Φ:Nat) (k:Int) (x:St) (js:Nat→List Nat) (L':List H1),t≤n4∧vt=.int .i64 t∧RunSt c0 (lfR13 l S (i - 1)).rows w2 m (lim13 200) (S.length+1) w4.heap.size (S.length+3+1) Lh x4 2 Φ k x js L' wr∧k≤K+t∧Kept13 wq wr) (fun vt _=>n4 - (intOf vt).toNat)
     case atStart=>exact ⟨0,0,K,x4,js4,Lh,Nat.zero_le _,rfl,R0.out,by simp,Kept13.refl _⟩
     case round =>
      obtain ⟨t,Φ,k,x5,js5,L',ht,rfl,hR,hkt,hkp⟩:=hrel
      have R:=hid_ hR
      have KP:=hid_ hkp
      have hk0:=hR.hp.k0
      clear hR hkp R0
      have ht0:(0:Int)≤(t:Int):=Int.natCast_nonneg _
      by_cases htn:t < n4
      ·have ht1:(t:Int) < (n4:Int):=by omega
       obtain ⟨bt,offt,v,rfl,_,hcv,hv0,hv1⟩:=(HC.out.keep (F2.out.then_none R.out.hp.f)) t htn
       obtain ⟨q,hq,hqe⟩:=turn_i (a:=v) (n:=Lh.length) hv0 (by omega)
       have hvw:IntKind.i64.wrap v=v:=IntWalk.i64_in _ (by omega)
       have hqw:IntKind.i64.wrap (q:Int)=(q:Int):=IntWalk.i64_in _ (by omega)
       have hkw:IntKind.i64.wrap (k+1)=k+1:=IntWalk.i64_in _ (by omega)
       have hq1:(q:Int) < (Lh.length:Int):=by omega
       have hq2:(0:Int)≤(q:Int):=Int.natCast_nonneg _
       obtain ⟨gp,offp,hAr,_,hcp⟩:=ptr_at (KP.out.own OW.out ⟨by decide,by decide⟩) (j:=q) (i:=q) (by rw [List.getElem?_range hq])
       obtain ⟨z,hz⟩:=R.out.get hq
       rw [hsAt_of R.out.hs hz] at hcp
       unfold hptr at hcp
       have HZ:=hid_ hz
       have hH:=hid_ (R.out.hp.hp z (List.mem_of_getElem? hz)).1
       subst hAr
       clear hz
       cases hov:z.ph.isOver with
       | true =>
        have OVH:=hid_ hov
        clear hov
        have hover:=hid_ (by have:=hH.out.over_;rw [OVH.out] at this;exact this)
        have hstep:=hid_ (by
         have:=any_step O.out R.out HZ.out (by omega)
         rw [OVH.out] at this
         exact this)
        go_wp2_with fail
        refine (memCount_ok _ R.out.hp.mm).mono ?_
        rintro e wa ⟨rfl,rfl⟩
        go_wp2_with fail
        refine hover.out.mono ?_
        rintro e wa ⟨rfl,rfl⟩
        go_wp2_with fail
        refine hstep.out.mono ?_
        rintro e wb ⟨b,Φ',k',x',js',L'',rfl,hR',hk',hkp'⟩
        obtain rfl:k=k':=by rw [hk'];simp
        have R':=hid_ hR'
        have KP':=hid_ (KP.out.trans hkp')
        clear hstep hover hR' hk' hkp' R
        go_wp2_with fail
        refine (memCount_ok _ R'.out.hp.mm).mono ?_
        rintro e wc ⟨rfl,rfl⟩
        go_wp2_with fail
        go_roundw
        case rel=>exact ⟨t+1,Φ',k,x',js',L'',by omega,by go_num,R'.out,by push_cast;omega,KP'.out⟩
        case measure=>simp [intOf];omega
       | false =>
        have OVH:=hid_ hov
        clear hov
        have hover:=hid_ (by have:=hH.out.over_;rw [OVH.out] at this;exact this)
        have hstep:=hid_ (by
         have:=any_step O.out R.out HZ.out (by omega)
         rw [OVH.out] at this
         exact this)
        go_wp2_with fail
        refine (memCount_ok _ R.out.hp.mm).mono ?_
        rintro e wa ⟨rfl,rfl⟩
        go_wp2_with fail
        refine hover.out.mono ?_
        rintro e wa ⟨rfl,rfl⟩
        go_wp2_with fail
        refine hstep.out.mono ?_
        rintro e wb ⟨b,Φ',k',x',js',L'',rfl,hR',hk',hkp'⟩
        obtain rfl:k'=k+1:=by rw [hk'];simp
        have R':=hid_ hR'
        have KP':=hid_ (KP.out.trans hkp')
        clear hstep hover hR' hk' hkp' R
        go_wp2_with fail
        refine (memCount_ok _ R'.out.hp.mm).mono ?_
        rintro e wc ⟨rfl,rfl⟩
        go_wp2_with fail
        go_roundw
        case rel=>exact ⟨t+1,Φ',k+1,x',js',L'',by omega,by go_num,R'.out,by push_cast;omega,KP'.out⟩
        case measure=>simp [intOf];omega
      ·obtain rfl:t=n4:=by omega
       have ht1:¬ ((t:Int) < (t:Int)):=by omega
       have hruns:=hid_ (runs13_ok O.out (by decide) (List.range Lh.length) (fun i hi=>List.mem_range.1 hi) R.out (by rw [List.length_range];omega) (KP.out.own OW.out ⟨by decide,by decide⟩))
       rw [List.length_range] at hruns
       go_wp2_with fail
       refine hruns.out.mono ?_
       rintro e wa ⟨Φ',k',x',js',L'',rfl,hR',_,hka,hkb,hov,_,hkp'⟩
       have hph:∀ j,j < Lh.length→∃ z d,L''[j]?=some z∧z.ph=.over d:=fun j hj=>by
        obtain ⟨z,h1,h2⟩:=hov j (List.mem_range.2 hj)
        obtain ⟨d,hd⟩:=over_ex h2
        exact ⟨z,d,h1,hd⟩
       obtain rfl:Φ'=3:=by
        obtain ⟨z,d,h1,h2⟩:=hph 0 (by omega)
        exact hR'.hp.over3 (List.mem_of_getElem? h1) (by rw [h2];rfl)
       have OWa:=hid_ (hkp'.own (KP.out.own OW.out ⟨by decide,by decide⟩) ⟨by decide,by decide⟩)
       have Ra:=hid_ hR'
       have PH:=hid_ hph
       clear hruns hR' hov hkp' hph R KP OW hkt
       go_wp2_with fail
       obtain ⟨wq2,rfl⟩:∃ q:World,q=wa:=⟨_,rfl⟩
       go_loopw [24,128] (fun vc vj wr=>∃ (j:Nat),j≤Lh.length∧vc=.int .i64 (doneTo L'' j:Nat)∧vj=.int .i64 j∧Fr none_ wq2 wr) (fun _ vj _=>Lh.length - (intOf vj).toNat)
       case atStart=>exact ⟨0,Nat.zero_le _,rfl,rfl,Fr.refl _ _⟩
       case round =>
        obtain ⟨j,hj,rfl,rfl,hF⟩:=hrel
        have Fq:=hid_ hF
        clear hF
        have hj0:(0:Int)≤(j:Int):=Int.natCast_nonneg _
        by_cases hlt:j < Lh.length
        ·have hj1:(j:Int) < (Lh.length:Int):=by omega
         obtain ⟨gp,offp,hAr,_,hcp⟩:=ptr_at (own_none OWa.out Fq.out) (j:=j) (i:=j) (by rw [List.getElem?_range hlt])
         obtain ⟨z,d,hz,hd⟩:=PH.out j hlt
         rw [hsAt_of Ra.out.hs hz] at hcp
         unfold hptr at hcp
         have hdone:=hid_ (done_of (Ra.out.hp.keep Fq.out) (List.mem_of_getElem? hz) hd)
         have hst:=doneTo_step hz hd
         have hlec:doneTo L'' j≤j:=by
          unfold doneTo doneL
          exact Nat.le_trans (List.countP_le_length) (by rw [List.length_take];omega)
         obtain ⟨cj,hcj⟩:∃ q,q=doneTo L'' j:=⟨_,rfl⟩
         rw [← hcj] at hst hlec ⊢
         have HST:=hid_ hst
         subst hAr
         have hcw:IntKind.i64.wrap ((cj:Int)+1)=(cj:Int)+1:=IntWalk.i64_in _ (by omega)
         clear hz hd hst hcj
         go_wp2_with fail
         refine hdone.out.mono ?_
         rintro e wb ⟨rfl,hfb⟩
         have Fb:=hid_ (Fq.out.then_none hfb)
         clear hdone hfb Fq
         cases d with
         | true =>
          go_wp2_with fail
          go_roundw
          case rel=>exact ⟨j+1,by omega,by rw [HST.out];simp,by go_num,Fb.out⟩
          case measure=>simp [intOf];omega
         | false =>
          go_wp2_with fail
          go_roundw
          case rel=>exact ⟨j+1,by omega,by rw [HST.out];simp,by go_num,Fb.out⟩
          case measure=>simp [intOf];omega
        ·obtain rfl:j=Lh.length:=by omega
         have hj1:¬ ((Lh.length:Int) < (Lh.length:Int)):=by omega
         have hone:doneTo L'' Lh.length=1:=by
          have h1:=Ra.out.hp.dn
          rw [if_pos rfl] at h1
          rw [← h1,← doneTo_all,Ra.out.len]
         rw [hone]
         have hB:Bel x' js' nilS 1 S.length l:=by
          have P:=Ra.out.hp
          rw [C0.out] at P
          have:=end_bel HL.out SO.out hi1 hi2 P (Nat.le_refl _)
          rw [allR_l HL.out SO.out hi1 hi2] at this
          exact this
         have HB:=hid_ hB
         have Pr:=hid_ (Ra.out.hp.keep Fq.out)
         clear hB hone
         go_wp2_with fail
         refine (below13_ok _ Pr.out.mm (by decide) (by decide) HB.out (by omega) (by omega)).mono ?_
         rintro e wb ⟨Ab,cb,rfl,hob,hfb⟩
         have Pb:=hid_ (Pr.out.keep hfb)
         have Hb:=hid_ (Reads.of_own hob)
         clear Pr hob hfb
         have hsm:=hid_ (sameRows_ok l Ab A cb c wb Hb.out (H.out.none_fr (F2.out.then_none Pb.out.f)) (by omega))
         obtain ⟨j0,hj0'⟩:∃ j0,i=j0+1:=⟨i - 1,by omega⟩
         obtain ⟨bs,offs,hA2,_,hcs,_⟩:=(T2.out.keep Pb.out.f).at_ (sepAt_in (S:=S) (i:=j0) (by omega))
         subst hA2
         have CS:=hid_ hcs
         clear hcs Hb
         go_wp2_with fail
         refine hsm.out.mono ?_
         rintro e wd ⟨rfl,hfd⟩
         have Pd:=hid_ (Pb.out.keep hfd)
         have hcd:=cellFr CS.out hfd
         have hdr:=hid_ (by
          have P:=Pd.out
          rw [C0.out] at P
          exact end_drop SO.out hi1 hi2 (by decide) (by decide) P)
         clear hsm hfd Pb CS
         subst hj0'
         go_wp2_with fail
         refine hdr.out.mono ?_
         rintro e we ⟨rfl,hfe⟩
         have Pe:=hid_ (Pd.out.keep hfe)
         have FE:=hid_ (F2.out.then_none Pe.out.f)
         clear hdr hfe Pd hcd
         go_wp2_with fail
         refine (awake13_ok _).mono ?_
         rintro e wz ⟨rfl,hfz⟩
         have FZ:=hid_ (FE.out.then_none hfz)
         clear hfz
         go_wp2_with fail
         go_ret
         exact ⟨rfl,FZ.out⟩
theorem mmany13_i {H:Type} {enc:TypeId × Value→H} (A:Option Addr) (n cap:Nat) (hc:n≤cap) (hm:cap≤maxLen) (B:Option Addr) (n1 cap1:Nat) (hc1:n1≤cap1) (hm1:cap1≤maxLen) (a2:Int) (wf2:(Lit.int .u8 a2).wf=true) (a3:Int) (wf3:(Lit.int .u8 a3).wf=true) (C:Option Addr) (n4 cap4:Nat) (w:World) (h1:Rd enc Tryz.prog w 6 25 A n) (h2:Rd enc Tryz.prog w 6 9 B n1) (h4:Rd enc Tryz.prog w 6 5 C n4) :
    Calls Tryz.prog 6 #[.slice A n cap,.slice B n1 cap1,.int .u8 a2,.int .u8 a3,.slice C n4 cap4] w fun e w'=>e=.returned (.bool true)∧Fr none_ w w':=by
  obtain ⟨l,rfl,hl,hlz⟩:=Row_list h1
  obtain ⟨N,rfl,hN⟩:=Str_at h2
  exact mmany13_law l N A B cap cap1 a2 a3 C n4 cap4 w hl hlz ⟨hc,hm⟩ hN ⟨hc1,hm1⟩ (wf_u8 wf2) (wf_u8 wf3) (B13_at h4)
end Go.Proofs.YthpkbppaaagaoaaGreat

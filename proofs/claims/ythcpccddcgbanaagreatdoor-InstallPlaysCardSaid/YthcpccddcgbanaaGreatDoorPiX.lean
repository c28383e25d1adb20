/- Texts of one proof, merged: Ri12b, RstLi12, RstSw12, Rsp12. -/
import Derived.Test.YthcpccddcgbanaaGreatDoorPiS
import Derived.Test.YthcpccddcgbanaaGreatDoorPiT
import Derived.Test.YthcpccddcgbanaaGreatDoorPiU
import Derived.Test.YthcpccddcgbanaaGreatDoorPiV
import Derived.Test.YthcpccddcgbanaaGreatDoorPiW
namespace Go.Proofs.YthcpccddcgbanaaGreatDoor
set_option maxRecDepth 100000
set_option linter.unusedVariables false
open Go.RowKit
theorem rf_get12:∀ {L:List Rf} {k:Nat} {s g:Int},L[k]?=some (s,g)→(rfFlat L)[k * 2]?=some (.int .i64 s)∧(rfFlat L)[k * 2+1]?=some (.int .i64 g)
  | [],k,s,g,h=>by simp at h
  | p :: L,0,s,g,h=>by
    obtain rfl:p=(s,g):=by simpa using h
    exact ⟨rfl,rfl⟩
  | p :: L,k+1,s,g,h=>by
    obtain ⟨h1,h2⟩:=rf_get12 (L:=L) (k:=k) (s:=s) (g:=g) (by simpa using h)
    have e:rfFlat (p :: L)=.int .i64 p.1 :: .int .i64 p.2 :: rfFlat L:=by simp [rfFlat,rfCells]
    rw [e,show (k+1) * 2=k * 2+1+1 by omega]
    exact ⟨h1,h2⟩
open Go.RowKit Go.BigFrame
variable {J:Jd} {q:Jl} {d:Rz} {y:Rl} {l:Lm} {PA:Option Addr} {pc:Nat} {LP:List RaP} {T:Option Addr} {tc:Nat} {L:List Rp} {cn cl:Int} {CA:Option Addr} {cm cc:Nat} {kk:Int} {w:World}
set_option maxHeartbeats 16000000 in
theorem rstep_link (hz:RiIn w d y) (hb:d.back=false) (ho:d.over=false) (hk:IntKind.i64.wrap (kk+1)=kk+1) {N k:Nat} (hN:J.news=(N:Int)) (hN4:N≤4) (hpl:d.pages.length=N) (hlk:d.links=(k:Int)) (hkN:k < N) (hrl:d.refs.length=N) {p:Int} (hp:d.pages[k]?=some p) {s g c:Int} {ok:Bool} (hr:d.refs[k]?=some (s,g)) {ps ps':List Pg} (hl:ps.length=l.p) (hto:ROwn w (.slice T L.length tc) L) (hs:Sim ps L) (hx:SwapR ps p 0 0 s g ok c ps') :
  Calls Tryz.prog 12 #[.agg (riA J q d y),.agg (dmA l l.s l.n (.slice PA LP.length pc) l.p (.slice T L.length tc) cn cl (.slice CA cm cc) kk)] w (fun e w'=>∃ T2 c2 L2,e=.returned (.tuple #[.agg (riA J q (swapZ J.news d ok c) y),.agg (dmA l l.s l.n (.slice PA LP.length pc) l.p (.slice T2 L2.length c2) cn cl (.slice CA cm cc) (kk+1))])∧ROwn w' (.slice T2 L2.length c2) L2∧Sim ps' L2∧Fr none_ w w'):=by
 have HZ:=hid_ hz
 have HL5:=hid_ (And.intro hz.lr hz.lp)
 have HO:=hid_ ho
 have HB:=hid_ hb
 have HLK:=hid_ hlk
 have HNN:=hid_ hN
 have HPG:=hid_ hpl
 have HRL:=hid_ hrl
 have HR:=hid_ hr
 have HP:=hid_ hp
 clear hp
 have HTO:=hid_ hto
 have HSI:=hid_ hs
 have HX:=hid_ hx
 have HPL:=hid_ hl
 clear hto hs hx hl hz ho hb hlk hN hpl hrl hr
 obtain ⟨w0,hw0⟩:∃ z,z=(((w.alloc (.cells (riA J q d y) 68)).alloc (.cells (dmA l l.s l.n (.slice PA LP.length pc) l.p (.slice T L.length tc) cn cl (.slice CA cm cc) kk) 43)).alloc (.cells riZ 68)).alloc (.cells dmZ 43):=⟨_,rfl⟩
 have f0:Fr none_ w w0:=by rw [hw0];exact ((((Fr.refl none_ w).alloc _).alloc _).alloc _).alloc _
 have BI:Hid (Blk w0 w.heap.size 68 (riA J q d y)):=hid_ (by rw [hw0];exact (((Blk.new w _ _).alloc _).alloc _).alloc _)
 have BM:Hid (Blk w0 (w.heap.size+1) 43 (dmA l l.s l.n (.slice PA LP.length pc) l.p (.slice T L.length tc) cn cl (.slice CA cm cc) kk)):=hid_ (by rw [hw0];exact ((Blk.new_at4 _ _ (by simp)).alloc _).alloc _)
 have B4:Hid (Blk w0 (w.heap.size+1+1) 68 riZ):=hid_ (by rw [hw0];exact (Blk.new_at4 _ _ (by simp)).alloc _)
 have B5:Hid (Blk w0 (w.heap.size+1+1+1) 43 dmZ):=hid_ (by rw [hw0];exact Blk.new_at4 _ _ (by simp))
 have F0:=hid_ f0
 have hs0:w0.heap.size=w.heap.size+4:=by rw [hw0];simp
 have HS0:=hid_ hs0
 clear f0 hs0
 go_enter Tryz.func12,Tryz.ntmps12
 go_upto_region 1 with fail
 change Code.wp _ _ _ _ ((((w.alloc (.cells (riA J q d y) 68)).alloc (.cells (dmA l l.s l.n (.slice PA LP.length pc) l.p (.slice T L.length tc) cn cl (.slice CA cm cc) kk) 43)).alloc (.cells riZ 68)).alloc (.cells dmZ 43))
 rw [← hw0]
 clear hw0
 obtain ⟨gi,hgi⟩:∃ g,g=w.heap.size:=⟨_,rfl⟩
 rw [← hgi] at BI BM B4 B5
 rw [← hgi]
 have GI:=hid_ hgi
 clear hgi
 have m14:w0.cell? ⟨gi+1,14,none⟩=some (.int .i64 kk):=BM.out.cell' rfl
 have ym14:=BM.out.frozen 14
 have i23:w0.cell? ⟨gi,23,none⟩=some (.bool false):=by rw [← HO.out];exact BI.out.cell' rfl
 go_upto_region 4 with fail
 obtain ⟨w1,hw_⟩:∃ z,z=w0.setCell ⟨gi+1,14,none⟩ (.int .i64 (kk+1)):=⟨_,rfl⟩
 have K_:Hid (Blk w1 (gi+1) 43 (dmA l l.s l.n (.slice PA LP.length pc) l.p (.slice T L.length tc) cn cl (.slice CA cm cc) (kk+1))∧Fr (only (gi+1)) w0 w1):=hid_ (by rw [hw_];exact ⟨BM.out.set_ 14 (.int .i64 (kk+1)),Fr.only1 w0 ⟨gi+1,14,none⟩ _⟩)
 change Code.wp _ _ _ _ (w0.setCell ⟨gi+1,14,none⟩ (.int .i64 (kk+1)))
 rw [← hw_]
 clear hw_ m14 ym14 i23
 replace BI:=hid_ (BI.out.fr K_.out.2 (only_ne (by omega)))
 replace BM:=hid_ K_.out.1
 replace B4:=hid_ (B4.out.fr K_.out.2 (only_ne (by omega)))
 replace B5:=hid_ (B5.out.fr K_.out.2 (only_ne (by omega)))
 replace F0:=hid_ (F0.out.then_only K_.out.2 (.inr (by have:=GI.out;omega)))
 clear K_
 have i3:w1.cell? ⟨gi,3,none⟩=some (.int .i64 (N:Int)):=by rw [← HNN.out];exact BI.out.cell' rfl
 have i22:w1.cell? ⟨gi,22,none⟩=some (.bool false):=by rw [← HB.out];exact BI.out.cell' rfl
 have i26:w1.cell? ⟨gi,26,none⟩=some (.slice y.pA N y.pc):=by rw [← HPG.out];exact BI.out.cell' rfl
 have i27:w1.cell? ⟨gi,27,none⟩=some (.slice y.rA N y.rc):=by rw [← HRL.out];exact BI.out.cell' rfl
 have i28:w1.cell? ⟨gi,28,none⟩=some (.int .i64 (k:Int)):=by rw [← HLK.out];exact BI.out.cell' rfl
 have i0:w1.cell? ⟨gi,0,none⟩=some (.int .i64 J.page):=BI.out.cell' rfl
 have i1:w1.cell? ⟨gi,1,none⟩=some (.int .i64 J.os):=BI.out.cell' rfl
 have i2:w1.cell? ⟨gi,2,none⟩=some (.int .i64 J.og):=BI.out.cell' rfl
 have q1:(k:Int) < (N:Int):=by omega
 have q2:((k:Int)==(N:Int))=false:=by rw [beq_eq_false_iff_ne];omega
 have q3:¬ ((N:Int) < (N:Int)):=by omega
 have q4:¬ (k=N):=by omega
 have hgl:=BI.out.lt
 go_upto_region 34 with fail
 obtain ⟨w2,hw2⟩:∃ z,z=w1.alloc (.cells #[.int .i64 J.os,.int .i64 J.og] 48):=⟨_,rfl⟩
 have K_:Hid (Blk w2 w1.heap.size 48 #[.int .i64 J.os,.int .i64 J.og]∧Fr none_ w1 w2):=hid_ (by rw [hw2];exact ⟨Blk.new w1 _ _,(Fr.refl none_ w1).alloc _⟩)
 change Code.wp _ _ _ _ (w1.alloc (.cells #[.int .i64 J.os,.int .i64 J.og] 48))
 rw [← hw2]
 clear hw2
 obtain ⟨gO,hgO⟩:∃ g,g=w1.heap.size:=⟨_,rfl⟩
 have BO:=hid_ K_.out.1
 rw [← hgO] at BO
 rw [← hgO]
 have h5l:=B5.out.lt
 have HGO:Hid (gi+4≤gO):=hid_ (by omega)
 clear hgO h5l hgl i3 i22 i26 i27 i28 i0 i1 i2
 replace BI:=hid_ (BI.out.fr K_.out.2 id)
 replace BM:=hid_ (BM.out.fr K_.out.2 id)
 replace B4:=hid_ (B4.out.fr K_.out.2 id)
 replace B5:=hid_ (B5.out.fr K_.out.2 id)
 replace F0:=hid_ (F0.out.then_none K_.out.2)
 clear K_
 have i26:w2.cell? ⟨gi,26,none⟩=some (.slice y.pA N y.pc):=by rw [← HPG.out];exact BI.out.cell' rfl
 have i28:w2.cell? ⟨gi,28,none⟩=some (.int .i64 (k:Int)):=by rw [← HLK.out];exact BI.out.cell' rfl
 obtain ⟨b,off,hA,hbl,hc⟩:=reads_lit (HZ.out.keep F0.out).p (by omega) (by rw [HPG.out];omega)
 have cp:w2.cell? ⟨b,off+k,none⟩=some (.int .i64 p):=hc k _ (by unfold intF;rw [List.getElem?_map,HP.out];rfl)
 rw [hA] at i26
 clear hc hA hbl
 have o0:w2.cell? ⟨gO,0,none⟩=some (.int .i64 J.os):=BO.out.cell' rfl
 have z0:=BO.out.frozen 0
 have o1:w2.cell? ⟨gO,1,none⟩=some (.int .i64 J.og):=BO.out.cell' rfl
 have z1:=BO.out.frozen 1
 have k0:(0:Int)≤(k:Int):=Int.natCast_nonneg _
 go_upto_region 37 with fail
 obtain ⟨w3,hw3⟩:∃ z,z=(w2.setCell ⟨gO,0,none⟩ (.int .i64 0)).setCell ⟨gO,1,none⟩ (.int .i64 0):=⟨_,rfl⟩
 have K_:Hid (Blk w3 gO 48 #[.int .i64 0,.int .i64 0]∧Fr (only gO) w2 w3):=hid_ (by rw [hw3];exact ⟨(BO.out.set_ 0 (.int .i64 0)).set_ 1 (.int .i64 0),((Fr.refl (only gO) w2).setCell (p:=⟨gO,0,none⟩) (.inl rfl) _).setCell (p:=⟨gO,1,none⟩) (.inl rfl) _⟩)
 change Code.wp _ _ _ _ ((w2.setCell ⟨gO,0,none⟩ (.int .i64 0)).setCell ⟨gO,1,none⟩ (.int .i64 0))
 rw [← hw3]
 clear hw3 o0 z0 o1 z1 cp i26 i28
 replace BI:=hid_ (BI.out.fr K_.out.2 (only_ne (by have:=HGO.out;omega)))
 replace BM:=hid_ (BM.out.fr K_.out.2 (only_ne (by have:=HGO.out;omega)))
 replace B4:=hid_ (B4.out.fr K_.out.2 (only_ne (by have:=HGO.out;omega)))
 replace B5:=hid_ (B5.out.fr K_.out.2 (only_ne (by have:=HGO.out;omega)))
 replace F0:=hid_ (F0.out.then_only K_.out.2 (.inr (by have:=GI.out;have:=HGO.out;omega)))
 replace BO:=hid_ K_.out.1
 clear K_
 have i27:w3.cell? ⟨gi,27,none⟩=some (.slice y.rA N y.rc):=by rw [← HRL.out];exact BI.out.cell' rfl
 have i28:w3.cell? ⟨gi,28,none⟩=some (.int .i64 (k:Int)):=by rw [← HLK.out];exact BI.out.cell' rfl
 obtain ⟨b2,off2,hA,hbl,hc⟩:=reads_lit (HZ.out.keep F0.out).r (by omega) (by rw [HRL.out];omega)
 obtain ⟨e0,e1⟩:=rf_get12 HR.out
 have c0:w3.cell? ⟨b2,off2+k * 2,none⟩=some (.int .i64 s):=hc (k * 2) _ e0
 have c1:w3.cell? ⟨b2,off2+k * 2+1,none⟩=some (.int .i64 g):=by rw [Nat.add_assoc];exact hc (k * 2+1) _ e1
 rw [hA] at i27
 clear hc hA hbl e0 e1
 have k0':(0:Int)≤(k:Int):=Int.natCast_nonneg _
 have hw7:IntKind.i64.wrap ((N:Int) - 1)=(N:Int) - 1:=IntWalk.i64_in _ (by omega)
 have q5:(k:Int)≤(N:Int) - 1:=by omega
 have q6:min (k:Int) ((N:Int) - 1)=(k:Int):=by omega
 have hgl:=BI.out.lt
 go_upto_region 38 with fail
 obtain ⟨w4,hw4⟩:∃ z,z=w3.alloc (.cells #[.int .i64 s,.int .i64 g] 48):=⟨_,rfl⟩
 have K_:Hid (Blk w4 w3.heap.size 48 #[.int .i64 s,.int .i64 g]∧Fr none_ w3 w4):=hid_ (by rw [hw4];exact ⟨Blk.new w3 _ _,(Fr.refl none_ w3).alloc _⟩)
 change Code.wp _ _ _ _ (w3.alloc (.cells #[.int .i64 s,.int .i64 g] 48))
 rw [← hw4]
 clear hw4
 obtain ⟨gH,hgH⟩:∃ g,g=w3.heap.size:=⟨_,rfl⟩
 have BH:=hid_ K_.out.1
 rw [← hgH] at BH
 rw [← hgH]
 clear hgH hgl i27 i28 c0 c1 q6 hw7
 replace BI:=hid_ (BI.out.fr K_.out.2 id)
 replace BM:=hid_ (BM.out.fr K_.out.2 id)
 replace B4:=hid_ (B4.out.fr K_.out.2 id)
 replace B5:=hid_ (B5.out.fr K_.out.2 id)
 replace F0:=hid_ (F0.out.then_none K_.out.2)
 replace BO:=hid_ (BO.out.fr K_.out.2 id)
 clear K_
 have m9:w4.cell? ⟨gi+1,9,none⟩=some (.int .i64 (l.p:Int)):=BM.out.cell' rfl
 have m10:w4.cell? ⟨gi+1,10,none⟩=some (.slice T L.length tc):=BM.out.cell' rfl
 have o0:w4.cell? ⟨gO,0,none⟩=some (.int .i64 0):=BO.out.cell' rfl
 have o1:w4.cell? ⟨gO,1,none⟩=some (.int .i64 0):=BO.out.cell' rfl
 have x0:w4.cell? ⟨gH,0,none⟩=some (.int .i64 s):=BH.out.cell' rfl
 have x1:w4.cell? ⟨gH,1,none⟩=some (.int .i64 g):=BH.out.cell' rfl
 go_wp2_with fail
 refine (show Calls Tryz.prog 36 #[rtab (l.p:Int) (.slice T L.length tc),.int .i64 p,.agg #[.int .i64 0,.int .i64 0],.agg #[.int .i64 s,.int .i64 g]] w4 (RStep w4 l.p (fun t=>.tuple #[t,.bool ok,.int .i64 c]) ps') from by have h:=rswap_any ps T tc L w4 (own_none HTO.out F0.out) HSI.out p 0 0 s g;rw [HPL.out,(swapR_eq HX.out).1,(swapR_eq HX.out).2.1,(swapR_eq HX.out).2.2] at h;exact h).mono ?_
 rintro e wc ⟨T2,c2,L2,rfl,h3,h4,hf⟩
 have H3:=hid_ (And.intro h3 h4)
 have hgi4:gi+4≤w4.heap.size:=by have:=B5.out.lt;omega
 replace BI:=hid_ (BI.out.fr hf id)
 replace BM:=hid_ (BM.out.fr hf id)
 replace B4:=hid_ (B4.out.fr hf id)
 replace B5:=hid_ (B5.out.fr hf id)
 replace F0:=hid_ (F0.out.then_none hf)
 have CI:=hid_ BI.out
 have CM:=hid_ BM.out
 have C4:=hid_ B4.out
 have C5:=hid_ B5.out
 have G0:Hid (Fr (inb gi) wc wc):=hid_ (Fr.refl _ _)
 clear h3 h4 hf m9 m10 o0 o1 x0 x1 BO BH
 go_upto_region 39 with fail
 obtain ⟨wd,hwd⟩:∃ z,z=wc.alloc (.cells #[.int .i64 (l.p:Int),.slice T2 L2.length c2] 38):=⟨_,rfl⟩
 have K_:Hid (Blk wd wc.heap.size 38 #[.int .i64 (l.p:Int),.slice T2 L2.length c2]∧Fr none_ wc wd):=hid_ (by rw [hwd];exact ⟨Blk.new wc _ _,(Fr.refl none_ wc).alloc _⟩)
 change Code.wp _ _ _ _ (wc.alloc (.cells #[.int .i64 (l.p:Int),.slice T2 L2.length c2] 38))
 rw [← hwd]
 clear hwd
 obtain ⟨g7,hg7⟩:∃ g,g=wc.heap.size:=⟨_,rfl⟩
 have B7:=hid_ K_.out.1
 rw [← hg7] at B7
 rw [← hg7]
 clear hg7
 replace BI:=hid_ (BI.out.fr K_.out.2 id)
 replace BM:=hid_ (BM.out.fr K_.out.2 id)
 replace B4:=hid_ (B4.out.fr K_.out.2 id)
 replace B5:=hid_ (B5.out.fr K_.out.2 id)
 replace F0:=hid_ (F0.out.then_none K_.out.2)
 replace G0:=hid_ (G0.out.then_none K_.out.2)
 clear K_
 have a0:wd.cell? ⟨g7,0,none⟩=some (.int .i64 (l.p:Int)):=B7.out.cell' rfl
 have a1:wd.cell? ⟨g7,1,none⟩=some (.slice T2 L2.length c2):=B7.out.cell' rfl
 go_upto_region 40 with (refine wpList_store_mid rfl 38 (.tmp 225) (.tmp 224) rfl (gi+1) 9 #[.int .i64 (l.p:Int),.slice T2 L2.length c2] rfl rfl (BM.out.thereN (Nat.le_of_ble_eq_true rfl)) rt_size12 (by simp [Value.oneCell']) ?_;obtain ⟨w8,hw_⟩:∃ z,z=wd.setCells (gi+1) 9 [.int .i64 (l.p:Int),.slice T2 L2.length c2]:=⟨_,rfl⟩;change wpList _ _ _ _ _ (wd.setCells (gi+1) 9 [.int .i64 (l.p:Int),.slice T2 L2.length c2]);rw [← hw_];have K_:=hid_ (BM.out.putN (cs':=dmA l l.s l.n (.slice PA LP.length pc) l.p (.slice T2 L2.length c2) cn cl (.slice CA cm cc) (kk+1)) hw_ rfl);clear hw_)
 replace BI:=hid_ (BI.out.fr K_.out.2 (only_ne (by omega)))
 replace BM:=hid_ K_.out.1
 replace B4:=hid_ (B4.out.fr K_.out.2 (only_ne (by omega)))
 replace B5:=hid_ (B5.out.fr K_.out.2 (only_ne (by omega)))
 replace G0:=hid_ (G0.out.then_only K_.out.2 (.inl ⟨by omega,by omega⟩))
 replace F0:=hid_ (F0.out.then_only K_.out.2 (.inr (by have:=GI.out;omega)))
 clear K_
 clear a0 a1 B7
 cases ok with
 | true =>
  have i28:w8.cell? ⟨gi,28,none⟩=some (.int .i64 (k:Int)):=by rw [← HLK.out];exact BI.out.cell' rfl
  have yi28:=BI.out.frozen 28
  have hZ:swapZ J.news d true c={ d with links:=(k:Int)+1 }:=by unfold swapZ;rw [if_pos rfl,if_neg (by rw [HLK.out,HNN.out];omega),HLK.out]
  have HZ2:=hid_ hZ
  clear hZ
  have hw9:IntKind.i64.wrap ((k:Int)+1)=(k:Int)+1:=IntWalk.i64_in _ (by omega)
  go_upto_region 47 with fail
  obtain ⟨wq,hw_⟩:∃ z,z=w8.setCell ⟨gi,28,none⟩ (.int .i64 ((k:Int)+1)):=⟨_,rfl⟩
  have K_:Hid (Blk wq (gi) 68 (riA J q ({ d with links:=(k:Int)+1 }) y)∧Fr (only (gi)) w8 wq):=hid_ (by rw [hw_];exact ⟨BI.out.set_ 28 (.int .i64 ((k:Int)+1)),Fr.only1 w8 ⟨gi,28,none⟩ _⟩)
  change Code.wp _ _ _ _ (w8.setCell ⟨gi,28,none⟩ (.int .i64 ((k:Int)+1)))
  rw [← hw_]
  clear hw_ i28 yi28
  replace BI:=hid_ K_.out.1
  replace BM:=hid_ (BM.out.fr K_.out.2 (only_ne (by omega)))
  replace B4:=hid_ (B4.out.fr K_.out.2 (only_ne (by omega)))
  replace B5:=hid_ (B5.out.fr K_.out.2 (only_ne (by omega)))
  replace G0:=hid_ (G0.out.then_only K_.out.2 (.inl ⟨by omega,by omega⟩))
  replace F0:=hid_ (F0.out.then_only K_.out.2 (.inr (by have:=GI.out;omega)))
  clear K_
  have hS0:(fun w':World=>Blk w' gi 68 (riA J q ({ d with links:=(k:Int)+1 }) y)∧Blk w' (gi+1) 43 (dmA l l.s l.n (.slice PA LP.length pc) l.p (.slice T2 L2.length c2) cn cl (.slice CA cm cc) (kk+1))) wq.drew:=⟨BI.out.drew,BM.out.drew⟩
  refine wp_region_u 4 (fun w':World=>Blk w' gi 68 (riA J q ({ d with links:=(k:Int)+1 }) y)∧Blk w' (gi+1) 43 (dmA l l.s l.n (.slice PA LP.length pc) l.p (.slice T2 L2.length c2) cn cl (.slice CA cm cc) (kk+1))) (by kernel_rfl) ?_
  refine u_take 0 (some 244) (.agg (riA J q ({ d with links:=(k:Int)+1 }) y)) rfl rfl (by kernel_rfl) (by kernel_rfl) (by kernel_rfl) (by kernel_rfl) (fun _ _ _ h=>h) (yieldsIf_load_mid (by kernel_rfl) 68 (.tmp 2) rfl gi 0 (by kernel_rfl) (riA J q ({ d with links:=(k:Int)+1 }) y).toList _ (fun w' hS=>Blk.range7 (l:=(riA J q ({ d with links:=(k:Int)+1 }) y).toList) hS.1) Tryz.underlying68 rfl ri_size) hS0 ?_
  go_frame
  refine u_take 1 (some 245) (.agg (dmA l l.s l.n (.slice PA LP.length pc) l.p (.slice T2 L2.length c2) cn cl (.slice CA cm cc) (kk+1))) rfl rfl (by kernel_rfl) (by kernel_rfl) (by kernel_rfl) (by kernel_rfl) (fun _ _ _ h=>h) (yieldsIf_load_mid (by kernel_rfl) 43 (.tmp 3) rfl (gi+1) 0 (by kernel_rfl) (dmA l l.s l.n (.slice PA LP.length pc) l.p (.slice T2 L2.length c2) cn cl (.slice CA cm cc) (kk+1)).toList _ (fun w' hS=>Blk.range7 (l:=(dmA l l.s l.n (.slice PA LP.length pc) l.p (.slice T2 L2.length c2) cn cl (.slice CA cm cc) (kk+1)).toList) hS.2) Tryz.underlying43 rfl dm_size) hS0 ?_
  go_frame
  clear hS0
  refine u_store 2 68 (.tmp 4) (.tmp 244) (gi+1+1) 0 (riA J q ({ d with links:=(k:Int)+1 }) y) rfl rfl (by kernel_rfl) (by kernel_rfl) rfl (by kernel_rfl) (by kernel_rfl) (B4.out.drew.there7 rfl) ri_size (by simp [Value.oneCell']) ?_
  intro wx hwx
  have ov:=B4.out.drew.over7 (riA J q ({ d with links:=(k:Int)+1 }) y).toList rfl
  rw [← hwx] at ov
  have K_:=hid_ ov
  clear hwx ov
  replace BI:=hid_ (BI.out.drew.fr K_.out.2 (only_ne (by omega)))
  replace BM:=hid_ (BM.out.drew.fr K_.out.2 (only_ne (by omega)))
  replace B5:=hid_ (B5.out.drew.fr K_.out.2 (only_ne (by omega)))
  replace B4:=hid_ K_.out.1
  replace G0:=hid_ (G0.out.drew.then_only K_.out.2 (.inl ⟨by omega,by omega⟩))
  replace F0:=hid_ (F0.out.drew.then_only K_.out.2 (.inr (by have:=GI.out;omega)))
  clear K_
  refine ⟨⟨BI.out,BM.out⟩,?_⟩
  try go_frame
  refine u_store 3 43 (.tmp 5) (.tmp 245) (gi+1+1+1) 0 (dmA l l.s l.n (.slice PA LP.length pc) l.p (.slice T2 L2.length c2) cn cl (.slice CA cm cc) (kk+1)) rfl rfl (by kernel_rfl) (by kernel_rfl) rfl (by kernel_rfl) (by kernel_rfl) (B5.out.there7 rfl) dm_size (by simp [Value.oneCell']) ?_
  intro wz hwz
  have ov:=B5.out.over7 (dmA l l.s l.n (.slice PA LP.length pc) l.p (.slice T2 L2.length c2) cn cl (.slice CA cm cc) (kk+1)).toList rfl
  rw [← hwz] at ov
  have K_:=hid_ ov
  clear hwz ov
  replace BI:=hid_ (BI.out.fr K_.out.2 (only_ne (by omega)))
  replace BM:=hid_ (BM.out.fr K_.out.2 (only_ne (by omega)))
  replace B4:=hid_ (B4.out.fr K_.out.2 (only_ne (by omega)))
  replace B5:=hid_ K_.out.1
  replace G0:=hid_ (G0.out.then_only K_.out.2 (.inl ⟨by omega,by omega⟩))
  replace F0:=hid_ (F0.out.then_only K_.out.2 (.inr (by have:=GI.out;omega)))
  clear K_
  refine ⟨⟨BI.out,BM.out⟩,?_⟩
  refine u_done (by kernel_rfl) ?_
  go_wp2_with fail
  refine bodyPost_ret (results_cell_cell7 _ _ rfl (gi+1+1) 0 (riA J q ({ d with links:=(k:Int)+1 }) y).toList _ rfl (Blk.range7 (l:=(riA J q ({ d with links:=(k:Int)+1 }) y).toList) B4.out) Tryz.underlying68 rfl ri_size (gi+1+1+1) 0 (dmA l l.s l.n (.slice PA LP.length pc) l.p (.slice T2 L2.length c2) cn cl (.slice CA cm cc) (kk+1)).toList _ rfl (Blk.range7 (l:=(dmA l l.s l.n (.slice PA LP.length pc) l.p (.slice T2 L2.length c2) cn cl (.slice CA cm cc) (kk+1)).toList) B5.out) Tryz.underlying43 rfl dm_size) rfl ⟨T2,c2,L2,by rw [HZ2.out],(own_inb12 H3.out.1 G0.out CI.out CM.out C4.out C5.out (by decide) (by decide)),H3.out.2,F0.out⟩
 | false =>
  have hZ:swapZ J.news d false c=backZ d c:=if_neg (by decide)
  have HZ2:=hid_ hZ
  clear hZ
  go_upto_region 41 with fail
  have hS0:(fun w':World=>Blk w' gi 68 (riA J q d y)∧Blk w' (gi+1) 43 (dmA l l.s l.n (.slice PA LP.length pc) l.p (.slice T2 L2.length c2) cn cl (.slice CA cm cc) (kk+1))) w8.drew:=⟨BI.out.drew,BM.out.drew⟩
  refine wp_region_u 6 (fun w':World=>Blk w' gi 68 (riA J q d y)∧Blk w' (gi+1) 43 (dmA l l.s l.n (.slice PA LP.length pc) l.p (.slice T2 L2.length c2) cn cl (.slice CA cm cc) (kk+1))) (by kernel_rfl) ?_
  refine u_take 0 (some 228) (.agg (riA J q d y)) rfl rfl (by kernel_rfl) (by kernel_rfl) (by kernel_rfl) (by kernel_rfl) (fun _ _ _ h=>h) (yieldsIf_load_mid (by kernel_rfl) 68 (.tmp 2) rfl gi 0 (by kernel_rfl) (riA J q d y).toList _ (fun w' hS=>Blk.range7 (l:=(riA J q d y).toList) hS.1) Tryz.underlying68 rfl ri_size) hS0 ?_
  go_frame
  refine u_tk 1 (some 229) (.int .i64 c) rfl rfl (y_vl (fun w' hS=>by kernel_rfl)) hS0 ?_
  go_frame
  refine u_take 3 (some 231) (.agg (dmA l l.s l.n (.slice PA LP.length pc) l.p (.slice T2 L2.length c2) cn cl (.slice CA cm cc) (kk+1))) rfl rfl (by kernel_rfl) (by kernel_rfl) (by kernel_rfl) (by kernel_rfl) (fun _ _ _ h=>h) (yieldsIf_load_mid (by kernel_rfl) 43 (.tmp 3) rfl (gi+1) 0 (by kernel_rfl) (dmA l l.s l.n (.slice PA LP.length pc) l.p (.slice T2 L2.length c2) cn cl (.slice CA cm cc) (kk+1)).toList _ (fun w' hS=>Blk.range7 (l:=(dmA l l.s l.n (.slice PA LP.length pc) l.p (.slice T2 L2.length c2) cn cl (.slice CA cm cc) (kk+1)).toList) hS.2) Tryz.underlying43 rfl dm_size) hS0 ?_
  go_frame
  clear hS0
  refine u_call 2 (some 230) 45 #[.agg (riA J q d y),.int .i64 c] (.agg (riA J q (backZ d c) y)) (fun w'=>Fr none_ w8.drew w') rfl rfl (by kernel_rfl) (by kernel_rfl) (by kernel_rfl) (rback12 c HL5.out.1 HL5.out.2) ?_
  intro wb hwb
  replace BI:=hid_ (BI.out.drew.fr hwb id)
  replace BM:=hid_ (BM.out.drew.fr hwb id)
  replace B4:=hid_ (B4.out.drew.fr hwb id)
  replace B5:=hid_ (B5.out.drew.fr hwb id)
  replace F0:=hid_ (F0.out.drew.then_none hwb)
  replace G0:=hid_ (G0.out.drew.then_none hwb)
  clear hwb
  refine ⟨⟨BI.out,BM.out⟩,?_⟩
  try go_frame
  refine u_store 4 68 (.tmp 4) (.tmp 230) (gi+1+1) 0 (riA J q (backZ d c) y) rfl rfl (by kernel_rfl) (by kernel_rfl) rfl (by kernel_rfl) (by kernel_rfl) (B4.out.there7 rfl) ri_size (by simp [Value.oneCell']) ?_
  intro wx hwx
  have ov:=B4.out.over7 (riA J q (backZ d c) y).toList rfl
  rw [← hwx] at ov
  have K_:=hid_ ov
  clear hwx ov
  replace BI:=hid_ (BI.out.fr K_.out.2 (only_ne (by omega)))
  replace BM:=hid_ (BM.out.fr K_.out.2 (only_ne (by omega)))
  replace B5:=hid_ (B5.out.fr K_.out.2 (only_ne (by omega)))
  replace B4:=hid_ K_.out.1
  replace G0:=hid_ (G0.out.then_only K_.out.2 (.inl ⟨by omega,by omega⟩))
  replace F0:=hid_ (F0.out.then_only K_.out.2 (.inr (by have:=GI.out;omega)))
  clear K_
  refine ⟨⟨BI.out,BM.out⟩,?_⟩
  try go_frame
  refine u_store 5 43 (.tmp 5) (.tmp 231) (gi+1+1+1) 0 (dmA l l.s l.n (.slice PA LP.length pc) l.p (.slice T2 L2.length c2) cn cl (.slice CA cm cc) (kk+1)) rfl rfl (by kernel_rfl) (by kernel_rfl) rfl (by kernel_rfl) (by kernel_rfl) (B5.out.there7 rfl) dm_size (by simp [Value.oneCell']) ?_
  intro wz hwz
  have ov:=B5.out.over7 (dmA l l.s l.n (.slice PA LP.length pc) l.p (.slice T2 L2.length c2) cn cl (.slice CA cm cc) (kk+1)).toList rfl
  rw [← hwz] at ov
  have K_:=hid_ ov
  clear hwz ov
  replace BI:=hid_ (BI.out.fr K_.out.2 (only_ne (by omega)))
  replace BM:=hid_ (BM.out.fr K_.out.2 (only_ne (by omega)))
  replace B4:=hid_ (B4.out.fr K_.out.2 (only_ne (by omega)))
  replace B5:=hid_ K_.out.1
  replace G0:=hid_ (G0.out.then_only K_.out.2 (.inl ⟨by omega,by omega⟩))
  replace F0:=hid_ (F0.out.then_only K_.out.2 (.inr (by have:=GI.out;omega)))
  clear K_
  refine ⟨⟨BI.out,BM.out⟩,?_⟩
  refine u_done (by kernel_rfl) ?_
  go_wp2_with fail
  refine bodyPost_ret (results_cell_cell7 _ _ rfl (gi+1+1) 0 (riA J q (backZ d c) y).toList _ rfl (Blk.range7 (l:=(riA J q (backZ d c) y).toList) B4.out) Tryz.underlying68 rfl ri_size (gi+1+1+1) 0 (dmA l l.s l.n (.slice PA LP.length pc) l.p (.slice T2 L2.length c2) cn cl (.slice CA cm cc) (kk+1)).toList _ rfl (Blk.range7 (l:=(dmA l l.s l.n (.slice PA LP.length pc) l.p (.slice T2 L2.length c2) cn cl (.slice CA cm cc) (kk+1)).toList) B5.out) Tryz.underlying43 rfl dm_size) rfl ⟨T2,c2,L2,by rw [HZ2.out],(own_inb12 H3.out.1 G0.out CI.out CM.out C4.out C5.out (by decide) (by decide)),H3.out.2,F0.out⟩
open Go.RowKit Go.BigFrame
variable {J:Jd} {q:Jl} {d:Rz} {y:Rl} {l:Lm} {PA:Option Addr} {pc:Nat} {LP:List RaP} {T:Option Addr} {tc:Nat} {L:List Rp} {cn cl:Int} {CA:Option Addr} {cm cc:Nat} {kk:Int} {w:World}
set_option maxHeartbeats 16000000 in
theorem rstep_swap (hz:RiIn w d y) (hb:d.back=false) (ho:d.over=false) (hk:IntKind.i64.wrap (kk+1)=kk+1) {N k:Nat} (hN:J.news=(N:Int)) (hN4:N≤4) (hpl:d.pages.length=N) (hlk:d.links=(k:Int)) (hkN:k=N) (hrl:d.refs.length=k+1) {s g c:Int} {ok:Bool} (hr:d.refs[k]?=some (s,g)) {ps ps':List Pg} (hl:ps.length=l.p) (hto:ROwn w (.slice T L.length tc) L) (hs:Sim ps L) (hx:SwapR ps J.page J.os J.og s g ok c ps') :
  Calls Tryz.prog 12 #[.agg (riA J q d y),.agg (dmA l l.s l.n (.slice PA LP.length pc) l.p (.slice T L.length tc) cn cl (.slice CA cm cc) kk)] w (fun e w'=>∃ T2 c2 L2,e=.returned (.tuple #[.agg (riA J q (swapZ J.news d ok c) y),.agg (dmA l l.s l.n (.slice PA LP.length pc) l.p (.slice T2 L2.length c2) cn cl (.slice CA cm cc) (kk+1))])∧ROwn w' (.slice T2 L2.length c2) L2∧Sim ps' L2∧Fr none_ w w'):=by
 have HZ:=hid_ hz
 have HL5:=hid_ (And.intro hz.lr hz.lp)
 have HO:=hid_ ho
 have HB:=hid_ hb
 have HLK:=hid_ hlk
 have HNN:=hid_ hN
 have HPG:=hid_ hpl
 have HRL:=hid_ hrl
 have HR:=hid_ hr
 subst hkN
 have HTO:=hid_ hto
 have HSI:=hid_ hs
 have HX:=hid_ hx
 have HPL:=hid_ hl
 clear hto hs hx hl hz ho hb hlk hN hpl hrl hr
 obtain ⟨w0,hw0⟩:∃ z,z=(((w.alloc (.cells (riA J q d y) 68)).alloc (.cells (dmA l l.s l.n (.slice PA LP.length pc) l.p (.slice T L.length tc) cn cl (.slice CA cm cc) kk) 43)).alloc (.cells riZ 68)).alloc (.cells dmZ 43):=⟨_,rfl⟩
 have f0:Fr none_ w w0:=by rw [hw0];exact ((((Fr.refl none_ w).alloc _).alloc _).alloc _).alloc _
 have BI:Hid (Blk w0 w.heap.size 68 (riA J q d y)):=hid_ (by rw [hw0];exact (((Blk.new w _ _).alloc _).alloc _).alloc _)
 have BM:Hid (Blk w0 (w.heap.size+1) 43 (dmA l l.s l.n (.slice PA LP.length pc) l.p (.slice T L.length tc) cn cl (.slice CA cm cc) kk)):=hid_ (by rw [hw0];exact ((Blk.new_at4 _ _ (by simp)).alloc _).alloc _)
 have B4:Hid (Blk w0 (w.heap.size+1+1) 68 riZ):=hid_ (by rw [hw0];exact (Blk.new_at4 _ _ (by simp)).alloc _)
 have B5:Hid (Blk w0 (w.heap.size+1+1+1) 43 dmZ):=hid_ (by rw [hw0];exact Blk.new_at4 _ _ (by simp))
 have F0:=hid_ f0
 have hs0:w0.heap.size=w.heap.size+4:=by rw [hw0];simp
 have HS0:=hid_ hs0
 clear f0 hs0
 go_enter Tryz.func12,Tryz.ntmps12
 go_upto_region 1 with fail
 change Code.wp _ _ _ _ ((((w.alloc (.cells (riA J q d y) 68)).alloc (.cells (dmA l l.s l.n (.slice PA LP.length pc) l.p (.slice T L.length tc) cn cl (.slice CA cm cc) kk) 43)).alloc (.cells riZ 68)).alloc (.cells dmZ 43))
 rw [← hw0]
 clear hw0
 obtain ⟨gi,hgi⟩:∃ g,g=w.heap.size:=⟨_,rfl⟩
 rw [← hgi] at BI BM B4 B5
 rw [← hgi]
 have GI:=hid_ hgi
 clear hgi
 have m14:w0.cell? ⟨gi+1,14,none⟩=some (.int .i64 kk):=BM.out.cell' rfl
 have ym14:=BM.out.frozen 14
 have i23:w0.cell? ⟨gi,23,none⟩=some (.bool false):=by rw [← HO.out];exact BI.out.cell' rfl
 go_upto_region 4 with fail
 obtain ⟨w1,hw_⟩:∃ z,z=w0.setCell ⟨gi+1,14,none⟩ (.int .i64 (kk+1)):=⟨_,rfl⟩
 have K_:Hid (Blk w1 (gi+1) 43 (dmA l l.s l.n (.slice PA LP.length pc) l.p (.slice T L.length tc) cn cl (.slice CA cm cc) (kk+1))∧Fr (only (gi+1)) w0 w1):=hid_ (by rw [hw_];exact ⟨BM.out.set_ 14 (.int .i64 (kk+1)),Fr.only1 w0 ⟨gi+1,14,none⟩ _⟩)
 change Code.wp _ _ _ _ (w0.setCell ⟨gi+1,14,none⟩ (.int .i64 (kk+1)))
 rw [← hw_]
 clear hw_ m14 ym14 i23
 replace BI:=hid_ (BI.out.fr K_.out.2 (only_ne (by omega)))
 replace BM:=hid_ K_.out.1
 replace B4:=hid_ (B4.out.fr K_.out.2 (only_ne (by omega)))
 replace B5:=hid_ (B5.out.fr K_.out.2 (only_ne (by omega)))
 replace F0:=hid_ (F0.out.then_only K_.out.2 (.inr (by have:=GI.out;omega)))
 clear K_
 have i3:w1.cell? ⟨gi,3,none⟩=some (.int .i64 (k:Int)):=by rw [← HNN.out];exact BI.out.cell' rfl
 have i22:w1.cell? ⟨gi,22,none⟩=some (.bool false):=by rw [← HB.out];exact BI.out.cell' rfl
 have i26:w1.cell? ⟨gi,26,none⟩=some (.slice y.pA k y.pc):=by rw [← HPG.out];exact BI.out.cell' rfl
 have i27:w1.cell? ⟨gi,27,none⟩=some (.slice y.rA (k+1) y.rc):=by rw [← HRL.out];exact BI.out.cell' rfl
 have i28:w1.cell? ⟨gi,28,none⟩=some (.int .i64 (k:Int)):=by rw [← HLK.out];exact BI.out.cell' rfl
 have i0:w1.cell? ⟨gi,0,none⟩=some (.int .i64 J.page):=BI.out.cell' rfl
 have i1:w1.cell? ⟨gi,1,none⟩=some (.int .i64 J.os):=BI.out.cell' rfl
 have i2:w1.cell? ⟨gi,2,none⟩=some (.int .i64 J.og):=BI.out.cell' rfl
 have q1:¬ (((k+1:Nat):Int) < (k:Int)):=by omega
 have q2:(((k+1:Nat):Int)==(k:Int))=false:=by rw [beq_eq_false_iff_ne];omega
 have q2':((k:Int)+1==(k:Int))=false:=by rw [beq_eq_false_iff_ne];omega
 have q2n:¬ ((k:Int)+1=(k:Int)):=by omega
 have hgl:=BI.out.lt
 go_upto_region 34 with fail
 obtain ⟨w2,hw2⟩:∃ z,z=w1.alloc (.cells #[.int .i64 J.os,.int .i64 J.og] 48):=⟨_,rfl⟩
 have K_:Hid (Blk w2 w1.heap.size 48 #[.int .i64 J.os,.int .i64 J.og]∧Fr none_ w1 w2):=hid_ (by rw [hw2];exact ⟨Blk.new w1 _ _,(Fr.refl none_ w1).alloc _⟩)
 change Code.wp _ _ _ _ (w1.alloc (.cells #[.int .i64 J.os,.int .i64 J.og] 48))
 rw [← hw2]
 clear hw2
 obtain ⟨gO,hgO⟩:∃ g,g=w1.heap.size:=⟨_,rfl⟩
 have BO:=hid_ K_.out.1
 rw [← hgO] at BO
 rw [← hgO]
 have h5l:=B5.out.lt
 have HGO:Hid (gi+4≤gO):=hid_ (by omega)
 clear hgO h5l hgl i3 i22 i26 i27 i28 i0 i1 i2
 replace BI:=hid_ (BI.out.fr K_.out.2 id)
 replace BM:=hid_ (BM.out.fr K_.out.2 id)
 replace B4:=hid_ (B4.out.fr K_.out.2 id)
 replace B5:=hid_ (B5.out.fr K_.out.2 id)
 replace F0:=hid_ (F0.out.then_none K_.out.2)
 clear K_
 have i28:w2.cell? ⟨gi,28,none⟩=some (.int .i64 (k:Int)):=by rw [← HLK.out];exact BI.out.cell' rfl
 go_upto_region 37 with fail
 clear i28
 have i27:w2.cell? ⟨gi,27,none⟩=some (.slice y.rA (k+1) y.rc):=by rw [← HRL.out];exact BI.out.cell' rfl
 have i28:w2.cell? ⟨gi,28,none⟩=some (.int .i64 (k:Int)):=by rw [← HLK.out];exact BI.out.cell' rfl
 obtain ⟨b2,off2,hA,hbl,hc⟩:=reads_lit (HZ.out.keep F0.out).r (by omega) (by rw [HRL.out];omega)
 obtain ⟨e0,e1⟩:=rf_get12 HR.out
 have c0:w2.cell? ⟨b2,off2+k * 2,none⟩=some (.int .i64 s):=hc (k * 2) _ e0
 have c1:w2.cell? ⟨b2,off2+k * 2+1,none⟩=some (.int .i64 g):=by rw [Nat.add_assoc];exact hc (k * 2+1) _ e1
 rw [hA] at i27
 clear hc hA hbl e0 e1
 have k0':(0:Int)≤(k:Int):=Int.natCast_nonneg _
 have hw7:IntKind.i64.wrap (((k+1:Nat):Int) - 1)=(k:Int):=by rw [show ((k+1:Nat):Int) - 1=(k:Int) by omega];exact IntWalk.i64_in _ (by omega)
 have hw8:IntKind.i64.wrap (k:Int)=(k:Int):=IntWalk.i64_in _ (by omega)
 have q6:min (k:Int) (k:Int)=(k:Int):=by omega
 have hgl:=BI.out.lt
 go_upto_region 38 with fail
 obtain ⟨w4,hw4⟩:∃ z,z=w2.alloc (.cells #[.int .i64 s,.int .i64 g] 48):=⟨_,rfl⟩
 have K_:Hid (Blk w4 w2.heap.size 48 #[.int .i64 s,.int .i64 g]∧Fr none_ w2 w4):=hid_ (by rw [hw4];exact ⟨Blk.new w2 _ _,(Fr.refl none_ w2).alloc _⟩)
 change Code.wp _ _ _ _ (w2.alloc (.cells #[.int .i64 s,.int .i64 g] 48))
 rw [← hw4]
 clear hw4
 obtain ⟨gH,hgH⟩:∃ g,g=w2.heap.size:=⟨_,rfl⟩
 have BH:=hid_ K_.out.1
 rw [← hgH] at BH
 rw [← hgH]
 clear hgH hgl i27 i28 c0 c1 q6 hw7
 replace BI:=hid_ (BI.out.fr K_.out.2 id)
 replace BM:=hid_ (BM.out.fr K_.out.2 id)
 replace B4:=hid_ (B4.out.fr K_.out.2 id)
 replace B5:=hid_ (B5.out.fr K_.out.2 id)
 replace F0:=hid_ (F0.out.then_none K_.out.2)
 replace BO:=hid_ (BO.out.fr K_.out.2 id)
 clear K_
 have m9:w4.cell? ⟨gi+1,9,none⟩=some (.int .i64 (l.p:Int)):=BM.out.cell' rfl
 have m10:w4.cell? ⟨gi+1,10,none⟩=some (.slice T L.length tc):=BM.out.cell' rfl
 have o0:w4.cell? ⟨gO,0,none⟩=some (.int .i64 J.os):=BO.out.cell' rfl
 have o1:w4.cell? ⟨gO,1,none⟩=some (.int .i64 J.og):=BO.out.cell' rfl
 have x0:w4.cell? ⟨gH,0,none⟩=some (.int .i64 s):=BH.out.cell' rfl
 have x1:w4.cell? ⟨gH,1,none⟩=some (.int .i64 g):=BH.out.cell' rfl
 go_wp2_with fail
 refine (show Calls Tryz.prog 36 #[rtab (l.p:Int) (.slice T L.length tc),.int .i64 J.page,.agg #[.int .i64 J.os,.int .i64 J.og],.agg #[.int .i64 s,.int .i64 g]] w4 (RStep w4 l.p (fun t=>.tuple #[t,.bool ok,.int .i64 c]) ps') from by have h:=rswap_any ps T tc L w4 (own_none HTO.out F0.out) HSI.out J.page J.os J.og s g;rw [HPL.out,(swapR_eq HX.out).1,(swapR_eq HX.out).2.1,(swapR_eq HX.out).2.2] at h;exact h).mono ?_
 rintro e wc ⟨T2,c2,L2,rfl,h3,h4,hf⟩
 have H3:=hid_ (And.intro h3 h4)
 have hgi4:gi+4≤w4.heap.size:=by have:=B5.out.lt;omega
 replace BI:=hid_ (BI.out.fr hf id)
 replace BM:=hid_ (BM.out.fr hf id)
 replace B4:=hid_ (B4.out.fr hf id)
 replace B5:=hid_ (B5.out.fr hf id)
 replace F0:=hid_ (F0.out.then_none hf)
 have CI:=hid_ BI.out
 have CM:=hid_ BM.out
 have C4:=hid_ B4.out
 have C5:=hid_ B5.out
 have G0:Hid (Fr (inb gi) wc wc):=hid_ (Fr.refl _ _)
 clear h3 h4 hf m9 m10 o0 o1 x0 x1 BO BH
 go_upto_region 39 with fail
 obtain ⟨wd,hwd⟩:∃ z,z=wc.alloc (.cells #[.int .i64 (l.p:Int),.slice T2 L2.length c2] 38):=⟨_,rfl⟩
 have K_:Hid (Blk wd wc.heap.size 38 #[.int .i64 (l.p:Int),.slice T2 L2.length c2]∧Fr none_ wc wd):=hid_ (by rw [hwd];exact ⟨Blk.new wc _ _,(Fr.refl none_ wc).alloc _⟩)
 change Code.wp _ _ _ _ (wc.alloc (.cells #[.int .i64 (l.p:Int),.slice T2 L2.length c2] 38))
 rw [← hwd]
 clear hwd
 obtain ⟨g7,hg7⟩:∃ g,g=wc.heap.size:=⟨_,rfl⟩
 have B7:=hid_ K_.out.1
 rw [← hg7] at B7
 rw [← hg7]
 clear hg7
 replace BI:=hid_ (BI.out.fr K_.out.2 id)
 replace BM:=hid_ (BM.out.fr K_.out.2 id)
 replace B4:=hid_ (B4.out.fr K_.out.2 id)
 replace B5:=hid_ (B5.out.fr K_.out.2 id)
 replace F0:=hid_ (F0.out.then_none K_.out.2)
 replace G0:=hid_ (G0.out.then_none K_.out.2)
 clear K_
 have a0:wd.cell? ⟨g7,0,none⟩=some (.int .i64 (l.p:Int)):=B7.out.cell' rfl
 have a1:wd.cell? ⟨g7,1,none⟩=some (.slice T2 L2.length c2):=B7.out.cell' rfl
 go_upto_region 40 with (refine wpList_store_mid rfl 38 (.tmp 225) (.tmp 224) rfl (gi+1) 9 #[.int .i64 (l.p:Int),.slice T2 L2.length c2] rfl rfl (BM.out.thereN (Nat.le_of_ble_eq_true rfl)) rt_size12 (by simp [Value.oneCell']) ?_;obtain ⟨w8,hw_⟩:∃ z,z=wd.setCells (gi+1) 9 [.int .i64 (l.p:Int),.slice T2 L2.length c2]:=⟨_,rfl⟩;change wpList _ _ _ _ _ (wd.setCells (gi+1) 9 [.int .i64 (l.p:Int),.slice T2 L2.length c2]);rw [← hw_];have K_:=hid_ (BM.out.putN (cs':=dmA l l.s l.n (.slice PA LP.length pc) l.p (.slice T2 L2.length c2) cn cl (.slice CA cm cc) (kk+1)) hw_ rfl);clear hw_)
 replace BI:=hid_ (BI.out.fr K_.out.2 (only_ne (by omega)))
 replace BM:=hid_ K_.out.1
 replace B4:=hid_ (B4.out.fr K_.out.2 (only_ne (by omega)))
 replace B5:=hid_ (B5.out.fr K_.out.2 (only_ne (by omega)))
 replace G0:=hid_ (G0.out.then_only K_.out.2 (.inl ⟨by omega,by omega⟩))
 replace F0:=hid_ (F0.out.then_only K_.out.2 (.inr (by have:=GI.out;omega)))
 clear K_
 clear a0 a1 B7
 cases ok with
 | true =>
  have i28:w8.cell? ⟨gi,28,none⟩=some (.int .i64 (k:Int)):=by rw [← HLK.out];exact BI.out.cell' rfl
  have yi28:=BI.out.frozen 28
  have hZ:swapZ J.news d true c={ d with over:=true,done:=true }:=by unfold swapZ;rw [if_pos rfl,if_pos (by rw [HLK.out,HNN.out])]
  have HZ2:=hid_ hZ
  clear hZ
  have i23:w8.cell? ⟨gi,23,none⟩=some (.bool false):=by rw [← HO.out];exact BI.out.cell' rfl
  have yi23:=BI.out.frozen 23
  have i24:w8.cell? ⟨gi,24,none⟩=some (.bool d.done):=BI.out.cell' rfl
  have yi24:=BI.out.frozen 24
  go_upto_region 45 with fail
  obtain ⟨wq,hw_⟩:∃ z,z=(w8.setCell ⟨gi,23,none⟩ (.bool true)).setCell ⟨gi,24,none⟩ (.bool true):=⟨_,rfl⟩
  have K_:Hid (Blk wq gi 68 (riA J q ({ d with over:=true,done:=true }) y)∧Fr (only gi) w8 wq):=hid_ (by rw [hw_];exact ⟨(BI.out.set_ 23 (.bool true)).set_ 24 (.bool true),((Fr.refl (only gi) w8).setCell (p:=⟨gi,23,none⟩) (.inl rfl) _).setCell (p:=⟨gi,24,none⟩) (.inl rfl) _⟩)
  change Code.wp _ _ _ _ ((w8.setCell ⟨gi,23,none⟩ (.bool true)).setCell ⟨gi,24,none⟩ (.bool true))
  rw [← hw_]
  clear hw_ i28 yi28 i23 yi23 i24 yi24
  replace BI:=hid_ K_.out.1
  replace BM:=hid_ (BM.out.fr K_.out.2 (only_ne (by omega)))
  replace B4:=hid_ (B4.out.fr K_.out.2 (only_ne (by omega)))
  replace B5:=hid_ (B5.out.fr K_.out.2 (only_ne (by omega)))
  replace G0:=hid_ (G0.out.then_only K_.out.2 (.inl ⟨by omega,by omega⟩))
  replace F0:=hid_ (F0.out.then_only K_.out.2 (.inr (by have:=GI.out;omega)))
  clear K_
  have hS0:(fun w':World=>Blk w' gi 68 (riA J q ({ d with over:=true,done:=true }) y)∧Blk w' (gi+1) 43 (dmA l l.s l.n (.slice PA LP.length pc) l.p (.slice T2 L2.length c2) cn cl (.slice CA cm cc) (kk+1))) wq.drew:=⟨BI.out.drew,BM.out.drew⟩
  refine wp_region_u 4 (fun w':World=>Blk w' gi 68 (riA J q ({ d with over:=true,done:=true }) y)∧Blk w' (gi+1) 43 (dmA l l.s l.n (.slice PA LP.length pc) l.p (.slice T2 L2.length c2) cn cl (.slice CA cm cc) (kk+1))) (by kernel_rfl) ?_
  refine u_take 0 (some 238) (.agg (riA J q ({ d with over:=true,done:=true }) y)) rfl rfl (by kernel_rfl) (by kernel_rfl) (by kernel_rfl) (by kernel_rfl) (fun _ _ _ h=>h) (yieldsIf_load_mid (by kernel_rfl) 68 (.tmp 2) rfl gi 0 (by kernel_rfl) (riA J q ({ d with over:=true,done:=true }) y).toList _ (fun w' hS=>Blk.range7 (l:=(riA J q ({ d with over:=true,done:=true }) y).toList) hS.1) Tryz.underlying68 rfl ri_size) hS0 ?_
  go_frame
  refine u_take 1 (some 239) (.agg (dmA l l.s l.n (.slice PA LP.length pc) l.p (.slice T2 L2.length c2) cn cl (.slice CA cm cc) (kk+1))) rfl rfl (by kernel_rfl) (by kernel_rfl) (by kernel_rfl) (by kernel_rfl) (fun _ _ _ h=>h) (yieldsIf_load_mid (by kernel_rfl) 43 (.tmp 3) rfl (gi+1) 0 (by kernel_rfl) (dmA l l.s l.n (.slice PA LP.length pc) l.p (.slice T2 L2.length c2) cn cl (.slice CA cm cc) (kk+1)).toList _ (fun w' hS=>Blk.range7 (l:=(dmA l l.s l.n (.slice PA LP.length pc) l.p (.slice T2 L2.length c2) cn cl (.slice CA cm cc) (kk+1)).toList) hS.2) Tryz.underlying43 rfl dm_size) hS0 ?_
  go_frame
  clear hS0
  refine u_store 2 68 (.tmp 4) (.tmp 238) (gi+1+1) 0 (riA J q ({ d with over:=true,done:=true }) y) rfl rfl (by kernel_rfl) (by kernel_rfl) rfl (by kernel_rfl) (by kernel_rfl) (B4.out.drew.there7 rfl) ri_size (by simp [Value.oneCell']) ?_
  intro wx hwx
  have ov:=B4.out.drew.over7 (riA J q ({ d with over:=true,done:=true }) y).toList rfl
  rw [← hwx] at ov
  have K_:=hid_ ov
  clear hwx ov
  replace BI:=hid_ (BI.out.drew.fr K_.out.2 (only_ne (by omega)))
  replace BM:=hid_ (BM.out.drew.fr K_.out.2 (only_ne (by omega)))
  replace B5:=hid_ (B5.out.drew.fr K_.out.2 (only_ne (by omega)))
  replace B4:=hid_ K_.out.1
  replace G0:=hid_ (G0.out.drew.then_only K_.out.2 (.inl ⟨by omega,by omega⟩))
  replace F0:=hid_ (F0.out.drew.then_only K_.out.2 (.inr (by have:=GI.out;omega)))
  clear K_
  refine ⟨⟨BI.out,BM.out⟩,?_⟩
  try go_frame
  refine u_store 3 43 (.tmp 5) (.tmp 239) (gi+1+1+1) 0 (dmA l l.s l.n (.slice PA LP.length pc) l.p (.slice T2 L2.length c2) cn cl (.slice CA cm cc) (kk+1)) rfl rfl (by kernel_rfl) (by kernel_rfl) rfl (by kernel_rfl) (by kernel_rfl) (B5.out.there7 rfl) dm_size (by simp [Value.oneCell']) ?_
  intro wz hwz
  have ov:=B5.out.over7 (dmA l l.s l.n (.slice PA LP.length pc) l.p (.slice T2 L2.length c2) cn cl (.slice CA cm cc) (kk+1)).toList rfl
  rw [← hwz] at ov
  have K_:=hid_ ov
  clear hwz ov
  replace BI:=hid_ (BI.out.fr K_.out.2 (only_ne (by omega)))
  replace BM:=hid_ (BM.out.fr K_.out.2 (only_ne (by omega)))
  replace B4:=hid_ (B4.out.fr K_.out.2 (only_ne (by omega)))
  replace B5:=hid_ K_.out.1
  replace G0:=hid_ (G0.out.then_only K_.out.2 (.inl ⟨by omega,by omega⟩))
  replace F0:=hid_ (F0.out.then_only K_.out.2 (.inr (by have:=GI.out;omega)))
  clear K_
  refine ⟨⟨BI.out,BM.out⟩,?_⟩
  refine u_done (by kernel_rfl) ?_
  go_wp2_with fail
  refine bodyPost_ret (results_cell_cell7 _ _ rfl (gi+1+1) 0 (riA J q ({ d with over:=true,done:=true }) y).toList _ rfl (Blk.range7 (l:=(riA J q ({ d with over:=true,done:=true }) y).toList) B4.out) Tryz.underlying68 rfl ri_size (gi+1+1+1) 0 (dmA l l.s l.n (.slice PA LP.length pc) l.p (.slice T2 L2.length c2) cn cl (.slice CA cm cc) (kk+1)).toList _ rfl (Blk.range7 (l:=(dmA l l.s l.n (.slice PA LP.length pc) l.p (.slice T2 L2.length c2) cn cl (.slice CA cm cc) (kk+1)).toList) B5.out) Tryz.underlying43 rfl dm_size) rfl ⟨T2,c2,L2,by rw [HZ2.out],(own_inb12 H3.out.1 G0.out CI.out CM.out C4.out C5.out (by decide) (by decide)),H3.out.2,F0.out⟩
 | false =>
  have hZ:swapZ J.news d false c=backZ d c:=if_neg (by decide)
  have HZ2:=hid_ hZ
  clear hZ
  go_upto_region 41 with fail
  have hS0:(fun w':World=>Blk w' gi 68 (riA J q d y)∧Blk w' (gi+1) 43 (dmA l l.s l.n (.slice PA LP.length pc) l.p (.slice T2 L2.length c2) cn cl (.slice CA cm cc) (kk+1))) w8.drew:=⟨BI.out.drew,BM.out.drew⟩
  refine wp_region_u 6 (fun w':World=>Blk w' gi 68 (riA J q d y)∧Blk w' (gi+1) 43 (dmA l l.s l.n (.slice PA LP.length pc) l.p (.slice T2 L2.length c2) cn cl (.slice CA cm cc) (kk+1))) (by kernel_rfl) ?_
  refine u_take 0 (some 228) (.agg (riA J q d y)) rfl rfl (by kernel_rfl) (by kernel_rfl) (by kernel_rfl) (by kernel_rfl) (fun _ _ _ h=>h) (yieldsIf_load_mid (by kernel_rfl) 68 (.tmp 2) rfl gi 0 (by kernel_rfl) (riA J q d y).toList _ (fun w' hS=>Blk.range7 (l:=(riA J q d y).toList) hS.1) Tryz.underlying68 rfl ri_size) hS0 ?_
  go_frame
  refine u_tk 1 (some 229) (.int .i64 c) rfl rfl (y_vl (fun w' hS=>by kernel_rfl)) hS0 ?_
  go_frame
  refine u_take 3 (some 231) (.agg (dmA l l.s l.n (.slice PA LP.length pc) l.p (.slice T2 L2.length c2) cn cl (.slice CA cm cc) (kk+1))) rfl rfl (by kernel_rfl) (by kernel_rfl) (by kernel_rfl) (by kernel_rfl) (fun _ _ _ h=>h) (yieldsIf_load_mid (by kernel_rfl) 43 (.tmp 3) rfl (gi+1) 0 (by kernel_rfl) (dmA l l.s l.n (.slice PA LP.length pc) l.p (.slice T2 L2.length c2) cn cl (.slice CA cm cc) (kk+1)).toList _ (fun w' hS=>Blk.range7 (l:=(dmA l l.s l.n (.slice PA LP.length pc) l.p (.slice T2 L2.length c2) cn cl (.slice CA cm cc) (kk+1)).toList) hS.2) Tryz.underlying43 rfl dm_size) hS0 ?_
  go_frame
  clear hS0
  refine u_call 2 (some 230) 45 #[.agg (riA J q d y),.int .i64 c] (.agg (riA J q (backZ d c) y)) (fun w'=>Fr none_ w8.drew w') rfl rfl (by kernel_rfl) (by kernel_rfl) (by kernel_rfl) (rback12 c HL5.out.1 HL5.out.2) ?_
  intro wb hwb
  replace BI:=hid_ (BI.out.drew.fr hwb id)
  replace BM:=hid_ (BM.out.drew.fr hwb id)
  replace B4:=hid_ (B4.out.drew.fr hwb id)
  replace B5:=hid_ (B5.out.drew.fr hwb id)
  replace F0:=hid_ (F0.out.drew.then_none hwb)
  replace G0:=hid_ (G0.out.drew.then_none hwb)
  clear hwb
  refine ⟨⟨BI.out,BM.out⟩,?_⟩
  try go_frame
  refine u_store 4 68 (.tmp 4) (.tmp 230) (gi+1+1) 0 (riA J q (backZ d c) y) rfl rfl (by kernel_rfl) (by kernel_rfl) rfl (by kernel_rfl) (by kernel_rfl) (B4.out.there7 rfl) ri_size (by simp [Value.oneCell']) ?_
  intro wx hwx
  have ov:=B4.out.over7 (riA J q (backZ d c) y).toList rfl
  rw [← hwx] at ov
  have K_:=hid_ ov
  clear hwx ov
  replace BI:=hid_ (BI.out.fr K_.out.2 (only_ne (by omega)))
  replace BM:=hid_ (BM.out.fr K_.out.2 (only_ne (by omega)))
  replace B5:=hid_ (B5.out.fr K_.out.2 (only_ne (by omega)))
  replace B4:=hid_ K_.out.1
  replace G0:=hid_ (G0.out.then_only K_.out.2 (.inl ⟨by omega,by omega⟩))
  replace F0:=hid_ (F0.out.then_only K_.out.2 (.inr (by have:=GI.out;omega)))
  clear K_
  refine ⟨⟨BI.out,BM.out⟩,?_⟩
  try go_frame
  refine u_store 5 43 (.tmp 5) (.tmp 231) (gi+1+1+1) 0 (dmA l l.s l.n (.slice PA LP.length pc) l.p (.slice T2 L2.length c2) cn cl (.slice CA cm cc) (kk+1)) rfl rfl (by kernel_rfl) (by kernel_rfl) rfl (by kernel_rfl) (by kernel_rfl) (B5.out.there7 rfl) dm_size (by simp [Value.oneCell']) ?_
  intro wz hwz
  have ov:=B5.out.over7 (dmA l l.s l.n (.slice PA LP.length pc) l.p (.slice T2 L2.length c2) cn cl (.slice CA cm cc) (kk+1)).toList rfl
  rw [← hwz] at ov
  have K_:=hid_ ov
  clear hwz ov
  replace BI:=hid_ (BI.out.fr K_.out.2 (only_ne (by omega)))
  replace BM:=hid_ (BM.out.fr K_.out.2 (only_ne (by omega)))
  replace B4:=hid_ (B4.out.fr K_.out.2 (only_ne (by omega)))
  replace B5:=hid_ K_.out.1
  replace G0:=hid_ (G0.out.then_only K_.out.2 (.inl ⟨by omega,by omega⟩))
  replace F0:=hid_ (F0.out.then_only K_.out.2 (.inr (by have:=GI.out;omega)))
  clear K_
  refine ⟨⟨BI.out,BM.out⟩,?_⟩
  refine u_done (by kernel_rfl) ?_
  go_wp2_with fail
  refine bodyPost_ret (results_cell_cell7 _ _ rfl (gi+1+1) 0 (riA J q (backZ d c) y).toList _ rfl (Blk.range7 (l:=(riA J q (backZ d c) y).toList) B4.out) Tryz.underlying68 rfl ri_size (gi+1+1+1) 0 (dmA l l.s l.n (.slice PA LP.length pc) l.p (.slice T2 L2.length c2) cn cl (.slice CA cm cc) (kk+1)).toList _ rfl (Blk.range7 (l:=(dmA l l.s l.n (.slice PA LP.length pc) l.p (.slice T2 L2.length c2) cn cl (.slice CA cm cc) (kk+1)).toList) B5.out) Tryz.underlying43 rfl dm_size) rfl ⟨T2,c2,L2,by rw [HZ2.out],(own_inb12 H3.out.1 G0.out CI.out CM.out C4.out C5.out (by decide) (by decide)),H3.out.2,F0.out⟩
open Go.RowKit Go.BigFrame

structure DocM (l:Lm) (ss:List Sl) (ps:List Pg) (LP:List RaP) (PA:Option Addr) (pc:Nat) (L:List Rp) (T:Option Addr) (tc:Nat) (w:World):Prop where
  ra:RaIn w LP PA pc
  tb:ROwn w (.slice T L.length tc) L
  dm:Dm (l.s:Int) l.n ss ps LP L
  pl:ps.length=l.p
theorem DocM.keep {l:Lm} {ss:List Sl} {ps:List Pg} {LP:List RaP} {PA:Option Addr} {pc:Nat} {L:List Rp} {T:Option Addr} {tc:Nat} {w w':World} (h:DocM l ss ps LP PA pc L T tc w) (hf:Fr none_ w w'):DocM l ss ps LP PA pc L T tc w':=⟨h.ra.keep hf,own_none h.tb hf,h.dm,h.pl⟩
theorem rf_dropLast12 (L:List Rf):rfFlat L.dropLast=(rfFlat L).take (L.dropLast.length * 2):=by
  cases h:L.getLast? with
  | none =>
    have:L=[]:=by simpa using h
    subst this
    rfl
  | some a =>
    obtain ⟨rs,rfl⟩:=last_split h
    rw [List.dropLast_concat,rfFlat_snoc12,List.take_left' (rfFlat_len12 rs)]
theorem int_dropLast12 (L:List Int):intF L.dropLast=(intF L).take (L.dropLast.length * 1):=by
  cases h:L.getLast? with
  | none =>
    have:L=[]:=by simpa using h
    subst this
    rfl
  | some a =>
    obtain ⟨rs,rfl⟩:=last_split h
    rw [List.dropLast_concat,Nat.mul_one]
    unfold intF
    rw [List.map_append,List.take_left' (by simp)]
section
variable {J:Jd} {q:Jl} {d:Rz} {y:Rl} {l:Lm} {PA:Option Addr} {pc:Nat} {LP:List RaP} {T:Option Addr} {tc:Nat} {L:List Rp} {cn cl:Int} {CA:Option Addr} {cm cc:Nat} {kk:Int} {w:World}
theorem RiIn.free12 {w':World} (h:RiIn w d y) (hf:Fr none_ w w'):RiIn w' (freeZ d) y:=by
  have hle:d.refs.dropLast.length≤d.refs.length:=by simp
  have h':=h.keep hf
  exact ⟨h'.p,h.pm,by show Reads w' 2 y.rA d.refs.dropLast.length (rfFlat d.refs.dropLast);rw [rf_dropLast12];exact h'.r.upto hle,⟨Nat.le_trans hle h.rm.1,h.rm.2⟩,h.lp,Nat.le_trans hle h.lr⟩
theorem RiIn.give12 {w':World} (h:RiIn w d y) (hf:Fr none_ w w'):RiIn w' (giveZ d) y:=by
  have hle:d.pages.dropLast.length≤d.pages.length:=by simp
  have h':=h.keep hf
  exact ⟨by show Reads w' 1 y.pA d.pages.dropLast.length (intF d.pages.dropLast);rw [int_dropLast12];exact h'.p.upto hle,⟨Nat.le_trans hle h.pm.1,h.pm.2⟩,h'.r,h.rm,Nat.le_trans hle h.lp,h.lr⟩
theorem RiIn.swap12 {w':World} (h:RiIn w d y) (hf:Fr none_ w w') (n:Int) (ok:Bool) (c:Int):RiIn w' (swapZ n d ok c) y:=by
  have h':=h.keep hf
  unfold swapZ
  split
  · split
    · exact ⟨h'.p,h'.pm,h'.r,h'.rm,h'.lp,h'.lr⟩
    · exact ⟨h'.p,h'.pm,h'.r,h'.rm,h'.lp,h'.lr⟩
  · exact ⟨h'.p,h'.pm,h'.r,h'.rm,h'.lp,h'.lr⟩
theorem takeZ_refs (d:Rz) (p c:Int):(takeZ d p c).refs=d.refs:=by unfold takeZ;split <;> rfl
theorem putZ_pages (d:Rz) (a b c:Int):(putZ d a b c).pages=d.pages:=by unfold putZ;split <;> rfl
theorem swapZ_same (n:Int) (d:Rz) (ok:Bool) (c:Int):(swapZ n d ok c).pages=d.pages∧(swapZ n d ok c).refs=d.refs:=by
  unfold swapZ
  split
  · split <;> exact ⟨rfl,rfl⟩
  · exact ⟨rfl,rfl⟩
def NewB (A:Option Addr) (n:Nat) (A2:Option Addr) (n2:Nat) (w:World):Prop:=(A2=A∧n2≤n)∨∀ ad,A2=some ad→w.heap.size≤ad.block
def RspPost (W0:World) (J:Jd) (q:Jl) (l:Lm) (d:Rz) (D':Dt) (ss':List Sl) (ps':List Pg) (y:Rl) (LP:List RaP) (PA:Option Addr) (cn cl:Int) (CA:Option Addr) (cm cc:Nat) (kk:Int) (w:World) (e:Ending) (w':World):Prop:=
  ∃ (d':Rz) (y':Rl) (LP':List RaP) (PA':Option Addr) (pc':Nat) (L':List Rp) (T':Option Addr) (tc':Nat),e=.returned (.tuple #[.agg (riA J q d' y'),.agg (dmA l l.s l.n (.slice PA' LP'.length pc') l.p (.slice T' L'.length tc') cn cl (.slice CA cm cc) (kk+1))])∧SimJ J D' d'∧RiIn w' d' y'∧DocM l ss' ps' LP' PA' pc' L' T' tc' w'∧LP'.length≤LP.length+1∧(∀ z ∈ LP',RecReads W0 z.R z.A z.B)∧NewB PA LP.length PA' LP'.length w∧NewB y.pA d.pages.length y'.pA d'.pages.length w∧NewB y.rA d.refs.length y'.rA d'.refs.length w∧Fr none_ w w'
theorem rstep12 {W0:World} {D D':Dt} {x x':St} (hS:SimJ J D d) (hD:DOk D) (hnw:D.news=J.news) (h7:D.stage≠7) (hst:StepR l.n J D x D' x') (hz:RiIn w d y) (hj:JobRd W0 J q) (hwf:Fr none_ W0 w) (hr0:∀ z ∈ LP,RecReads W0 z.R z.A z.B) (hm:DocM l x.ss x.ps LP PA pc L T tc w) (hk:IntKind.i64.wrap (kk+1)=kk+1) (hlen:LP.length < 5000) (hls:1≤l.s∧l.s≤4096∧l.n≤1099511627776) :
  Calls Tryz.prog 12 #[.agg (riA J q d y),.agg (dmA l l.s l.n (.slice PA LP.length pc) l.p (.slice T L.length tc) cn cl (.slice CA cm cc) kk)] w (RspPost W0 J q l d D' x'.ss x'.ps y LP PA cn cl CA cm cc kk w):=by
 have hnd:=hD.nodone h7
 have ho:=hS.notover h7
 have hn:=hD.n h7
 have hrec:=hr0
 cases hst with
 | take hs h =>
  obtain ⟨a1,a2,a3⟩:=hD.s0 hs
  refine (rstep_take hz (hS.backs h7 (by omega)) ho hk (by rw [hS.pages,← hnw];exact a3) (by rw [hS.pages];exact hD.lp) hm.pl hm.tb hm.dm.tb h).mono ?_
  rintro e w' ⟨T2,c2,L2,y2,rfl,b1,b2,b3,b4,b5,b6,b7⟩
  refine ⟨_,y2,LP,PA,pc,L2,T2,c2,rfl,hS.take hs hnw hnd _ _,b3,⟨hm.ra.keep b7,b1,⟨hm.dm.sim,hm.dm.ns,hm.dm.gen,hm.dm.xg,b2⟩,?_⟩,Nat.le_succ _,hrec,.inl ⟨rfl,Nat.le_refl _⟩,b4.imp (fun e=>⟨by rw [e.1],Nat.le_of_eq (by rw [e.2])⟩) id,.inl ⟨b5,Nat.le_of_eq (by rw [takeZ_refs])⟩,b7⟩
  have:=takeP_len x.ps
  rw [takeR_eq h] at this
  exact this.trans hm.pl
 | @put R sl gn k2 ss2 hs hR h =>
  obtain ⟨a1,a2,a3,a4,a5⟩:=hD.s1 hs
  obtain ⟨m1,m2⟩:=hS.md (by omega) (by omega)
  have hrl:d.refs.length=D.at_.toNat:=by rw [hS.refs];omega
  obtain rfl:R=jbase J d.refs.length:=by
   rw [m1] at hR
   unfold jbases at hR
   rw [List.getElem?_map,List.getElem?_range (by omega)] at hR
   rw [hrl]
   exact (Option.some.inj hR).symm
  refine (rstep_put hz hj hwf hr0 (hS.backs h7 (by omega)) ho hk (by rw [hS.pages];omega) (by rw [hS.refs];omega) (by rw [hS.refs];omega) hm.ra hlen hls hm.dm h).mono ?_
  rintro e w' ⟨LP2,A2,c2,y2,rfl,b1,b2,b3,b4,b5,b6,b7,b8,b9,b10⟩
  exact ⟨_,y2,LP2,A2,c2,L,T,tc,rfl,hS.put hs hnd (by omega) _ _ _,b6,⟨b1,own_none hm.tb b10,b2,hm.pl⟩,b3,b5,b4,.inl ⟨b8,Nat.le_of_eq (by rw [putZ_pages])⟩,b7.imp (fun e=>⟨by rw [e.1],Nat.le_of_eq (by rw [e.2])⟩) id,b10⟩
 | head hs h =>
  obtain ⟨a1,a2⟩:=hD.s3 hs
  obtain ⟨m1,m2⟩:=hS.md (by omega) (by omega)
  have hl:=hS.links h7 (by omega)
  rw [if_neg (by omega),if_neg (by omega)] at hl
  rw [m2,← hS.pages] at h
  refine (rstep_head hz hj hwf hr0 (hS.backs h7 (by omega)) ho hk (by rw [hS.pages];omega) (by rw [hS.refs];omega) hl (by rw [hS.refs];omega) hm.ra hlen hls hm.dm h).mono ?_
  rintro e w' ⟨LP2,A2,c2,y2,rfl,b1,b2,b3,b4,b5,b6,b7,b8,b9,b10⟩
  exact ⟨_,y2,LP2,A2,c2,L,T,tc,rfl,hS.head hs hnd _ _ _,b6,⟨b1,own_none hm.tb b10,b2,hm.pl⟩,b3,b5,b4,.inl ⟨b8,Nat.le_of_eq (by rw [putZ_pages])⟩,b7.imp (fun e=>⟨by rw [e.1],Nat.le_of_eq (by rw [e.2])⟩) id,b10⟩
 | link hs hp hr h =>
  obtain ⟨a1,a2,a3,a4⟩:=hD.s2 hs
  have hl:d.links=D.at_:=by rw [hS.links h7 (by omega),if_pos hs]
  refine (rstep_link (N:=D.pages.length) (k:=D.at_.toNat) hz (hS.backs h7 (by omega)) ho hk (by omega) hD.lp (by rw [hS.pages]) (by rw [hl];omega) (by omega) (by rw [hS.refs];omega) (by rw [hS.pages];exact hp) (by rw [hS.refs];exact hr) hm.pl hm.tb hm.dm.tb h).mono ?_
  rintro e w' ⟨T2,c2,L2,rfl,b1,b2,b7⟩
  refine ⟨_,y,LP,PA,pc,L2,T2,c2,rfl,hS.link hs hnd (by omega) (by omega) _ _,hz.swap12 b7 _ _ _,⟨hm.ra.keep b7,b1,⟨hm.dm.sim,hm.dm.ns,hm.dm.gen,hm.dm.xg,b2⟩,?_⟩,Nat.le_succ _,hrec,.inl ⟨rfl,Nat.le_refl _⟩,.inl ⟨rfl,Nat.le_of_eq (by rw [(swapZ_same _ _ _ _).1])⟩,.inl ⟨rfl,Nat.le_of_eq (by rw [(swapZ_same _ _ _ _).2])⟩,b7⟩
  have:=swapP_len x.ps
  rw [← (swapR_eq h).2.2,this]
  exact hm.pl
 | @swap s g ok c ps2 hs hr h =>
  obtain ⟨a1,a2⟩:=hD.s4 hs
  have hl:=hS.links h7 (by omega)
  rw [if_neg (by omega),if_neg (by omega)] at hl
  obtain ⟨j1,j2,j3⟩:=hS.jb
  rw [j1,j2,j3] at h
  have hg:D.refs[D.pages.length]?=some (s,g):=by
   rw [List.getLast?_eq_getElem?] at hr
   rw [show D.pages.length=D.refs.length - 1 by omega]
   exact hr
  refine (rstep_swap (N:=D.pages.length) (k:=D.pages.length) hz (hS.backs h7 (by omega)) ho hk (by omega) hD.lp (by rw [hS.pages]) (by rw [hl];omega) rfl (by rw [hS.refs];omega) (by rw [hS.refs];exact hg) hm.pl hm.tb hm.dm.tb h).mono ?_
  rintro e w' ⟨T2,c2,L2,rfl,b1,b2,b7⟩
  refine ⟨_,y,LP,PA,pc,L2,T2,c2,rfl,hS.swap hs hnd _ _,hz.swap12 b7 _ _ _,⟨hm.ra.keep b7,b1,⟨hm.dm.sim,hm.dm.ns,hm.dm.gen,hm.dm.xg,b2⟩,?_⟩,Nat.le_succ _,hrec,.inl ⟨rfl,Nat.le_refl _⟩,.inl ⟨rfl,Nat.le_of_eq (by rw [(swapZ_same _ _ _ _).1])⟩,.inl ⟨rfl,Nat.le_of_eq (by rw [(swapZ_same _ _ _ _).2])⟩,b7⟩
  have:=swapP_len x.ps
  rw [← (swapR_eq h).2.2,this]
  exact hm.pl
 | free hs hr h =>
  have hb:d.back=true:=by rw [hS.back h7];exact decide_eq_true (by omega)
  refine (rstep_free hz hb ho hk (by rw [hS.refs];exact hr) hm.ra hm.dm h).mono ?_
  rintro e w' ⟨LP2,A2,c2,rfl,b1,b2,b3,b4,b5,b7⟩
  exact ⟨_,y,LP2,A2,c2,L,T,tc,rfl,hS.free hs (hD.s5 hs),hz.free12 b7,⟨b1,own_none hm.tb b7,b2,hm.pl⟩,by omega,fun z hzm=>by obtain ⟨z',g1,g2,g3,g4⟩:=b5 z hzm;rw [g2,g3,g4];exact hrec z' g1,b4.imp (fun e=>⟨e,by omega⟩) id,.inl ⟨rfl,Nat.le_refl _⟩,.inl ⟨rfl,by show d.refs.dropLast.length≤_;simp⟩,b7⟩
 | give hs hp h =>
  obtain ⟨a1,a2⟩:=hD.s6 hs
  have hb:d.back=true:=by rw [hS.back h7];exact decide_eq_true (by omega)
  refine (rstep_give hz hb ho hk (by rw [hS.pages];exact hp) (by rw [hS.refs];exact a1) hm.pl hm.tb hm.dm.tb h).mono ?_
  rintro e w' ⟨T2,c2,L2,rfl,b1,b2,b7⟩
  refine ⟨_,y,LP,PA,pc,L2,T2,c2,rfl,hS.give hs a1 a2,hz.give12 b7,⟨hm.ra.keep b7,b1,⟨hm.dm.sim,hm.dm.ns,hm.dm.gen,hm.dm.xg,b2⟩,?_⟩,Nat.le_succ _,hrec,.inl ⟨rfl,Nat.le_refl _⟩,.inl ⟨rfl,by show d.pages.dropLast.length≤_;simp⟩,.inl ⟨rfl,Nat.le_refl _⟩,b7⟩
  have:=giveP_len x.ps
  rw [← (giveR_eq h).2,this]
  exact hm.pl
end
end Go.Proofs.YthcpccddcgbanaaGreatDoor

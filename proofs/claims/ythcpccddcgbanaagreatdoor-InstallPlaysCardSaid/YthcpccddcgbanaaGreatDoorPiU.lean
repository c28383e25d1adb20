/- Texts of one proof, merged: RstTa12. -/
import Derived.Test.YthcpccddcgbanaaGreatDoorPiT
namespace Go.Proofs.YthcpccddcgbanaaGreatDoor
open Go.RowKit Go.BigFrame
set_option maxRecDepth 100000
set_option linter.unusedVariables false
variable {J:Jd} {q:Jl} {d:Rz} {y:Rl} {l:Lm} {PA:Option Addr} {pc:Nat} {LP:List RaP} {T:Option Addr} {tc:Nat} {L:List Rp} {cn cl:Int} {CA:Option Addr} {cm cc:Nat} {kk:Int} {w:World}
set_option maxHeartbeats 16000000 in
theorem rstep_take (hz:RiIn w d y) (hb:d.back=false) (ho:d.over=false) (hk:IntKind.i64.wrap (kk+1)=kk+1) (hn:(d.pages.length:Int) < J.news) (hl4:d.pages.length≤4) {p c:Int} {ps ps':List Pg} (hl:ps.length=l.p) (hto:ROwn w (.slice T L.length tc) L) (hs:Sim ps L) (hx:TakeR ps p c ps') :
  Calls Tryz.prog 12 #[.agg (riA J q d y),.agg (dmA l l.s l.n (.slice PA LP.length pc) l.p (.slice T L.length tc) cn cl (.slice CA cm cc) kk)] w (fun e w'=>∃ T2 c2 L2 y2,e=.returned (.tuple #[.agg (riA J q (takeZ d p c) y2),.agg (dmA l l.s l.n (.slice PA LP.length pc) l.p (.slice T2 L2.length c2) cn cl (.slice CA cm cc) (kk+1))])∧ROwn w' (.slice T2 L2.length c2) L2∧Sim ps' L2∧RiIn w' (takeZ d p c) y2∧((y2=y∧(takeZ d p c).pages=d.pages)∨∀ ad,y2.pA=some ad→w.heap.size≤ad.block)∧y2.rA=y.rA∧y2.rc=y.rc∧Fr none_ w w'):=by
 obtain ⟨j0,hj0,hy0,ht0,hc0⟩:=info_parts (show (Tryz.prog.info? 3).map (fun i=>(i.zero,i.size,i.bytes))=some (some (.int .i64 0),1,8) by kernel_rfl)
 have Hj:=hid_ (And.intro hj0 (And.intro hy0 (And.intro ht0 hc0)))
 have HZ:=hid_ hz
 have HL5:=hid_ (And.intro hz.lr hz.lp)
 have HL4:=hid_ hl4
 have HTO:=hid_ hto
 have HSI:=hid_ hs
 have HX:=hid_ hx
 have HPL:=hid_ hl
 clear hto hs hx hl hz hl4 hj0 hy0 ht0 hc0
 obtain ⟨w0,hw0⟩:∃ z,z=(((w.alloc (.cells (riA J q d y) 68)).alloc (.cells (dmA l l.s l.n (.slice PA LP.length pc) l.p (.slice T L.length tc) cn cl (.slice CA cm cc) kk) 43)).alloc (.cells riZ 68)).alloc (.cells dmZ 43):=⟨_,rfl⟩
 have f0:Fr none_ w w0:=by rw [hw0];exact ((((Fr.refl none_ w).alloc _).alloc _).alloc _).alloc _
 have BI:Hid (Blk w0 w.heap.size 68 (riA J q d y)):=hid_ (by rw [hw0];exact (((Blk.new w _ _).alloc _).alloc _).alloc _)
 have BM:Hid (Blk w0 (w.heap.size+1) 43 (dmA l l.s l.n (.slice PA LP.length pc) l.p (.slice T L.length tc) cn cl (.slice CA cm cc) kk)):=hid_ (by rw [hw0];exact ((Blk.new_at4 _ _ (by simp)).alloc _).alloc _)
 have B4:Hid (Blk w0 (w.heap.size+1+1) 68 riZ):=hid_ (by rw [hw0];exact (Blk.new_at4 _ _ (by simp)).alloc _)
 have B5:Hid (Blk w0 (w.heap.size+1+1+1) 43 dmZ):=hid_ (by rw [hw0];exact Blk.new_at4 _ _ (by simp))
 have F0:=hid_ f0
 have hs0:w0.heap.size=w.heap.size+4:=by rw [hw0];simp
 have HS0:=hid_ hs0
 clear f0 hs0
 go_enter Tryz.func12,Tryz.ntmps12
 go_upto_region 1 with fail
 change Code.wp _ _ _ _ ((((w.alloc (.cells (riA J q d y) 68)).alloc (.cells (dmA l l.s l.n (.slice PA LP.length pc) l.p (.slice T L.length tc) cn cl (.slice CA cm cc) kk) 43)).alloc (.cells riZ 68)).alloc (.cells dmZ 43))
 rw [← hw0]
 clear hw0
 obtain ⟨gi,hgi⟩:∃ g,g=w.heap.size:=⟨_,rfl⟩
 rw [← hgi] at BI BM B4 B5
 rw [← hgi]
 have GI:=hid_ hgi
 clear hgi
 have m14:w0.cell? ⟨gi+1,14,none⟩=some (.int .i64 kk):=BM.out.cell' rfl
 have ym14:=BM.out.frozen 14
 have i23:w0.cell? ⟨gi,23,none⟩=some (.bool false):=by rw [← ho];exact BI.out.cell' rfl
 go_upto_region 4 with fail
 obtain ⟨w1,hw_⟩:∃ z,z=w0.setCell ⟨gi+1,14,none⟩ (.int .i64 (kk+1)):=⟨_,rfl⟩
 have K_:Hid (Blk w1 (gi+1) 43 (dmA l l.s l.n (.slice PA LP.length pc) l.p (.slice T L.length tc) cn cl (.slice CA cm cc) (kk+1))∧Fr (only (gi+1)) w0 w1):=hid_ (by rw [hw_];exact ⟨BM.out.set_ 14 (.int .i64 (kk+1)),Fr.only1 w0 ⟨gi+1,14,none⟩ _⟩)
 change Code.wp _ _ _ _ (w0.setCell ⟨gi+1,14,none⟩ (.int .i64 (kk+1)))
 rw [← hw_]
 clear hw_ m14 ym14 i23
 replace BI:=hid_ (BI.out.fr K_.out.2 (only_ne (by omega)))
 replace BM:=hid_ K_.out.1
 replace B4:=hid_ (B4.out.fr K_.out.2 (only_ne (by omega)))
 replace B5:=hid_ (B5.out.fr K_.out.2 (only_ne (by omega)))
 replace F0:=hid_ (F0.out.then_only K_.out.2 (.inr (by have:=GI.out;omega)))
 clear K_
 have i3:w1.cell? ⟨gi,3,none⟩=some (.int .i64 J.news):=BI.out.cell' rfl
 have i22:w1.cell? ⟨gi,22,none⟩=some (.bool false):=by rw [← hb];exact BI.out.cell' rfl
 have i26:w1.cell? ⟨gi,26,none⟩=some (.slice y.pA d.pages.length y.pc):=BI.out.cell' rfl
 have m9:w1.cell? ⟨gi+1,9,none⟩=some (.int .i64 (l.p:Int)):=BM.out.cell' rfl
 have m10:w1.cell? ⟨gi+1,10,none⟩=some (.slice T L.length tc):=BM.out.cell' rfl
 go_upto_region 16 with fail
 go_wp2_with fail
 refine (show Calls Tryz.prog 35 #[rtab (l.p:Int) (.slice T L.length tc)] w1 (RStep w1 l.p (fun t=>.tuple #[t,.int .i64 p,.int .i64 c]) ps') from by have h:=rtake_any ps T tc L w1 (own_none HTO.out F0.out) HSI.out;rw [HPL.out,takeR_eq HX.out] at h;exact h).mono ?_
 rintro e wc ⟨T2,c2,L2,rfl,h3,h4,hf⟩
 have H3:=hid_ (And.intro h3 h4)
 have hgi4:gi+4≤w1.heap.size:=by have:=B5.out.lt;omega
 have hf1:=F0.out.size
 have HF1:=hid_ hf1
 replace BI:=hid_ (BI.out.fr hf id)
 replace BM:=hid_ (BM.out.fr hf id)
 replace B4:=hid_ (B4.out.fr hf id)
 replace B5:=hid_ (B5.out.fr hf id)
 replace F0:=hid_ (F0.out.then_none hf)
 have CI:=hid_ BI.out
 have CM:=hid_ BM.out
 have C4:=hid_ B4.out
 have C5:=hid_ B5.out
 have G0:Hid (Fr (inb gi) wc wc):=hid_ (Fr.refl _ _)
 have HW1:=hid_ hf.size
 clear h3 h4 hf i3 i22 i26 m9 m10 hf1
 go_upto_region 17 with fail
 obtain ⟨wd,hwd⟩:∃ z,z=wc.alloc (.cells #[.int .i64 (l.p:Int),.slice T2 L2.length c2] 38):=⟨_,rfl⟩
 have K_:Hid (Blk wd wc.heap.size 38 #[.int .i64 (l.p:Int),.slice T2 L2.length c2]∧Fr none_ wc wd):=hid_ (by rw [hwd];exact ⟨Blk.new wc _ _,(Fr.refl none_ wc).alloc _⟩)
 change Code.wp _ _ _ _ (wc.alloc (.cells #[.int .i64 (l.p:Int),.slice T2 L2.length c2] 38))
 rw [← hwd]
 clear hwd
 obtain ⟨g7,hg7⟩:∃ g,g=wc.heap.size:=⟨_,rfl⟩
 have B7:=hid_ K_.out.1
 rw [← hg7] at B7
 rw [← hg7]
 clear hg7
 replace BI:=hid_ (BI.out.fr K_.out.2 id)
 replace BM:=hid_ (BM.out.fr K_.out.2 id)
 replace B4:=hid_ (B4.out.fr K_.out.2 id)
 replace B5:=hid_ (B5.out.fr K_.out.2 id)
 replace F0:=hid_ (F0.out.then_none K_.out.2)
 replace G0:=hid_ (G0.out.then_none K_.out.2)
 clear K_
 have a0:wd.cell? ⟨g7,0,none⟩=some (.int .i64 (l.p:Int)):=B7.out.cell' rfl
 have a1:wd.cell? ⟨g7,1,none⟩=some (.slice T2 L2.length c2):=B7.out.cell' rfl
 go_upto_region 18 with (refine wpList_store_mid rfl 38 (.tmp 113) (.tmp 112) rfl (gi+1) 9 #[.int .i64 (l.p:Int),.slice T2 L2.length c2] rfl rfl (BM.out.thereN (Nat.le_of_ble_eq_true rfl)) rt_size12 (by simp [Value.oneCell']) ?_;obtain ⟨w8,hw_⟩:∃ z,z=wd.setCells (gi+1) 9 [.int .i64 (l.p:Int),.slice T2 L2.length c2]:=⟨_,rfl⟩;change wpList _ _ _ _ _ (wd.setCells (gi+1) 9 [.int .i64 (l.p:Int),.slice T2 L2.length c2]);rw [← hw_];have K_:=hid_ (BM.out.putN (cs':=dmA l l.s l.n (.slice PA LP.length pc) l.p (.slice T2 L2.length c2) cn cl (.slice CA cm cc) (kk+1)) hw_ rfl);clear hw_)
 replace BI:=hid_ (BI.out.fr K_.out.2 (only_ne (by omega)))
 replace BM:=hid_ K_.out.1
 replace B4:=hid_ (B4.out.fr K_.out.2 (only_ne (by omega)))
 replace B5:=hid_ (B5.out.fr K_.out.2 (only_ne (by omega)))
 replace G0:=hid_ (G0.out.then_only K_.out.2 (.inl ⟨by omega,by omega⟩))
 replace F0:=hid_ (F0.out.then_only K_.out.2 (.inr (by have:=GI.out;omega)))
 clear K_
 clear a0 a1 B7
 by_cases hc0:c=0
 ·subst hc0
  have hZ:takeZ d p 0={ d with pages:=d.pages ++ [p] }:=if_pos rfl
  have HZ2:=hid_ hZ
  clear hZ
  have i26:w8.cell? ⟨gi,26,none⟩=some (.slice y.pA d.pages.length y.pc):=BI.out.cell' rfl
  have yi26:=BI.out.frozen 26
  have RP:=hid_ (HZ.out.keep F0.out).p
  have hw8:=F0.out.size
  have HW8:=hid_ hw8
  clear hw8
  have hgl:=BI.out.lt
  go_upto_region 20 with fail
  go_upto_region 21 with (first | (at_builtin;refine wpList_append_any _ rfl (.tmp 120) (.tmp 122) 39 rfl w8.heap.size 3 j0 _ 1 8 Tryz.underlying39 Hj.out.1 Hj.out.2.1 Hj.out.2.2.1 Hj.out.2.2.2 rfl (by omega) (.slice (some ⟨w8.heap.size,0,none⟩) 0 0) 0 [] rfl (own_empty w8 _ _ _ (Nat.le_refl _)) y.pA d.pages.length y.pc (intF d.pages) rfl (RP.out.alloc _) (by intro u hu;obtain ⟨n,_,rfl⟩:=List.mem_map.1 hu;rfl) (by have:=HL4.out;simp only [maxLen];omega) (by have:=HL4.out;omega) (by simp) ?_;intro A9 c9 w9 hown hgr;have Q9:Hid (w9.ownsRow w8.heap.size 3 1 (.slice A9 d.pages.length c9) d.pages.length (intF d.pages)∧Fr none_ w8 w9):=hid_ ⟨by simpa using hown,((Fr.refl none_ w8).alloc _).grown hgr (fun k hk=>.inr (by have:w8.heap.size=k:=(by simpa [Value.ownBlock] using hk);omega))⟩;clear hown hgr;simp only [Nat.zero_add]) | (at_builtin;refine wpList_append_any _ rfl (.tmp 123) (.tmp 125) 39 rfl w8.heap.size 3 j0 _ 1 8 Tryz.underlying39 Hj.out.1 Hj.out.2.1 Hj.out.2.2.1 Hj.out.2.2.2 rfl (by omega) (.slice A9 d.pages.length c9) d.pages.length (intF d.pages) rfl (Q9.out.1.alloc _) (some ⟨w9.heap.size,0,none⟩) 1 1 [.int .i64 p] rfl (reads_new w9 _ [.int .i64 p] _ rfl) (by simp [Value.oneCell']) (by have:=HL4.out;simp only [maxLen];omega) (by have:=HL4.out;omega) (by have:=Q9.out.2.size;simp;omega) ?_;intro A10 c10 w10 hown hgr;have Q10:Hid (w10.ownsRow w8.heap.size 3 1 (.slice A10 (d.pages.length+1) c10) (d.pages.length+1) (intF d.pages ++ [.int .i64 p])∧Fr none_ w8 w10):=hid_ ⟨hown,(Q9.out.2.alloc _).grown hgr (fun k hk=>.inr (Q9.out.1.lt k hk).1)⟩;clear hown hgr;have v26:=cellFr i26 Q10.out.2;have u26:=(BI.out.fr Q10.out.2 id).frozen 26))
  replace BI:=hid_ (BI.out.fr Q10.out.2 id)
  replace BM:=hid_ (BM.out.fr Q10.out.2 id)
  replace B4:=hid_ (B4.out.fr Q10.out.2 id)
  replace B5:=hid_ (B5.out.fr Q10.out.2 id)
  replace F0:=hid_ (F0.out.then_none Q10.out.2)
  replace G0:=hid_ (G0.out.then_none Q10.out.2)
  have hlen:(d.pages ++ [p]).length=d.pages.length+1:=by simp
  have HLN:=hid_ hlen
  clear hlen
  obtain ⟨w11,hw_⟩:∃ z,z=w10.setCell ⟨gi,26,none⟩ (.slice A10 (d.pages.length+1) c10):=⟨_,rfl⟩
  have K_:Hid (Blk w11 gi 68 (riA J q ({ d with pages:=d.pages ++ [p] }) ⟨A10,c10,y.rA,y.rc⟩)∧Fr (only gi) w10 w11):=hid_ (by rw [hw_];exact ⟨by show Blk _ _ _ #[.int .i64 J.page,.int .i64 J.os,.int .i64 J.og,.int .i64 J.news,.slice q.A q.Cs.length q.c,.int .i64 J.head.kind,.string J.head.low,.string J.head.high,.bool J.head.unb,.int .i64 J.head.right,.slice q.Ah J.head.rows.length q.ch,.slice q.Eh J.head.ents.length q.dh,.string J.head.key,.string J.head.val,.int .i64 J.head.page,.int .i64 J.head.hpage,.int .i64 J.head.hleft,.string J.head.hkey,.int .i64 J.head.nslot,.int .i64 J.head.ngen,.int .i64 J.fresh,.bool false,.bool d.back,.bool d.over,.bool d.done,.int .i64 d.err,.slice A10 (d.pages ++ [p]).length c10,.slice y.rA d.refs.length y.rc,.int .i64 d.links];rw [HLN.out];exact BI.out.set_ 26 _,Fr.only1 w10 ⟨gi,26,none⟩ _⟩)
  change Code.wp _ _ _ _ (w10.setCell ⟨gi,26,none⟩ (.slice A10 (d.pages.length+1) c10))
  rw [← hw_]
  clear hw_ i26 yi26 hgl v26 u26
  have K11:=hid_ (And.intro BI.out K_.out.2)
  replace BI:=hid_ K_.out.1
  replace BM:=hid_ (BM.out.fr K_.out.2 (only_ne (by omega)))
  replace B4:=hid_ (B4.out.fr K_.out.2 (only_ne (by omega)))
  replace B5:=hid_ (B5.out.fr K_.out.2 (only_ne (by omega)))
  replace G0:=hid_ (G0.out.then_only K_.out.2 (.inl ⟨by omega,by omega⟩))
  replace F0:=hid_ (F0.out.then_only K_.out.2 (.inr (by have:=GI.out;omega)))
  clear K_
  replace H3:=hid_ (And.intro (own_inb12 H3.out.1 G0.out CI.out CM.out C4.out C5.out (by decide) (by decide)) H3.out.2)
  replace CI:=hid_ BI.out
  replace CM:=hid_ BM.out
  replace C4:=hid_ B4.out
  replace C5:=hid_ B5.out
  replace G0:=hid_ (Fr.refl (inb gi) w11)
  have Q11:=hid_ (own_fr Q10.out.1 K11.out.2 (fun k hk e=>own_blk_ne Q10.out.1 (K11.out.1) (by decide) (by rw [hk,show k=gi from e])))
  have HNB:=hid_ (own_new12 Q10.out.1)
  have hS0:(fun w':World=>Blk w' gi 68 (riA J q ({ d with pages:=d.pages ++ [p] }) ⟨A10,c10,y.rA,y.rc⟩)∧Blk w' (gi+1) 43 (dmA l l.s l.n (.slice PA LP.length pc) l.p (.slice T2 L2.length c2) cn cl (.slice CA cm cc) (kk+1))) w11.drew:=⟨BI.out.drew,BM.out.drew⟩
  refine wp_region_u 4 (fun w':World=>Blk w' gi 68 (riA J q ({ d with pages:=d.pages ++ [p] }) ⟨A10,c10,y.rA,y.rc⟩)∧Blk w' (gi+1) 43 (dmA l l.s l.n (.slice PA LP.length pc) l.p (.slice T2 L2.length c2) cn cl (.slice CA cm cc) (kk+1))) (by kernel_rfl) ?_
  refine u_take 0 (some 128) (.agg (riA J q ({ d with pages:=d.pages ++ [p] }) ⟨A10,c10,y.rA,y.rc⟩)) rfl rfl (by kernel_rfl) (by kernel_rfl) (by kernel_rfl) (by kernel_rfl) (fun _ _ _ h=>h) (yieldsIf_load_mid (by kernel_rfl) 68 (.tmp 2) rfl gi 0 (by kernel_rfl) (riA J q ({ d with pages:=d.pages ++ [p] }) ⟨A10,c10,y.rA,y.rc⟩).toList _ (fun w' hS=>Blk.range7 (l:=(riA J q ({ d with pages:=d.pages ++ [p] }) ⟨A10,c10,y.rA,y.rc⟩).toList) hS.1) Tryz.underlying68 rfl ri_size) hS0 ?_
  go_frame
  refine u_take 1 (some 129) (.agg (dmA l l.s l.n (.slice PA LP.length pc) l.p (.slice T2 L2.length c2) cn cl (.slice CA cm cc) (kk+1))) rfl rfl (by kernel_rfl) (by kernel_rfl) (by kernel_rfl) (by kernel_rfl) (fun _ _ _ h=>h) (yieldsIf_load_mid (by kernel_rfl) 43 (.tmp 3) rfl (gi+1) 0 (by kernel_rfl) (dmA l l.s l.n (.slice PA LP.length pc) l.p (.slice T2 L2.length c2) cn cl (.slice CA cm cc) (kk+1)).toList _ (fun w' hS=>Blk.range7 (l:=(dmA l l.s l.n (.slice PA LP.length pc) l.p (.slice T2 L2.length c2) cn cl (.slice CA cm cc) (kk+1)).toList) hS.2) Tryz.underlying43 rfl dm_size) hS0 ?_
  go_frame
  clear hS0
  refine u_store 2 68 (.tmp 4) (.tmp 128) (gi+1+1) 0 (riA J q ({ d with pages:=d.pages ++ [p] }) ⟨A10,c10,y.rA,y.rc⟩) rfl rfl (by kernel_rfl) (by kernel_rfl) rfl (by kernel_rfl) (by kernel_rfl) (B4.out.drew.there7 rfl) ri_size (by simp [Value.oneCell']) ?_
  intro wx hwx
  have ov:=B4.out.drew.over7 (riA J q ({ d with pages:=d.pages ++ [p] }) ⟨A10,c10,y.rA,y.rc⟩).toList rfl
  rw [← hwx] at ov
  have K_:=hid_ ov
  clear hwx ov
  replace BI:=hid_ (BI.out.drew.fr K_.out.2 (only_ne (by omega)))
  replace BM:=hid_ (BM.out.drew.fr K_.out.2 (only_ne (by omega)))
  replace B5:=hid_ (B5.out.drew.fr K_.out.2 (only_ne (by omega)))
  replace B4:=hid_ K_.out.1
  replace G0:=hid_ (G0.out.drew.then_only K_.out.2 (.inl ⟨by omega,by omega⟩))
  replace F0:=hid_ (F0.out.drew.then_only K_.out.2 (.inr (by have:=GI.out;omega)))
  clear K_
  refine ⟨⟨BI.out,BM.out⟩,?_⟩
  try go_frame
  refine u_store 3 43 (.tmp 5) (.tmp 129) (gi+1+1+1) 0 (dmA l l.s l.n (.slice PA LP.length pc) l.p (.slice T2 L2.length c2) cn cl (.slice CA cm cc) (kk+1)) rfl rfl (by kernel_rfl) (by kernel_rfl) rfl (by kernel_rfl) (by kernel_rfl) (B5.out.there7 rfl) dm_size (by simp [Value.oneCell']) ?_
  intro wz hwz
  have ov:=B5.out.over7 (dmA l l.s l.n (.slice PA LP.length pc) l.p (.slice T2 L2.length c2) cn cl (.slice CA cm cc) (kk+1)).toList rfl
  rw [← hwz] at ov
  have K_:=hid_ ov
  clear hwz ov
  replace BI:=hid_ (BI.out.fr K_.out.2 (only_ne (by omega)))
  replace BM:=hid_ (BM.out.fr K_.out.2 (only_ne (by omega)))
  replace B4:=hid_ (B4.out.fr K_.out.2 (only_ne (by omega)))
  replace B5:=hid_ K_.out.1
  replace G0:=hid_ (G0.out.then_only K_.out.2 (.inl ⟨by omega,by omega⟩))
  replace F0:=hid_ (F0.out.then_only K_.out.2 (.inr (by have:=GI.out;omega)))
  clear K_
  refine ⟨⟨BI.out,BM.out⟩,?_⟩
  refine u_done (by kernel_rfl) ?_
  go_wp2_with fail
  refine bodyPost_ret (results_cell_cell7 _ _ rfl (gi+1+1) 0 (riA J q ({ d with pages:=d.pages ++ [p] }) ⟨A10,c10,y.rA,y.rc⟩).toList _ rfl (Blk.range7 (l:=(riA J q ({ d with pages:=d.pages ++ [p] }) ⟨A10,c10,y.rA,y.rc⟩).toList) B4.out) Tryz.underlying68 rfl ri_size (gi+1+1+1) 0 (dmA l l.s l.n (.slice PA LP.length pc) l.p (.slice T2 L2.length c2) cn cl (.slice CA cm cc) (kk+1)).toList _ rfl (Blk.range7 (l:=(dmA l l.s l.n (.slice PA LP.length pc) l.p (.slice T2 L2.length c2) cn cl (.slice CA cm cc) (kk+1)).toList) B5.out) Tryz.underlying43 rfl dm_size) rfl ⟨T2,c2,L2,⟨A10,c10,y.rA,y.rc⟩,by rw [HZ2.out],(own_inb12 H3.out.1 G0.out CI.out CM.out C4.out C5.out (by decide) (by decide)),H3.out.2,(by rw [HZ2.out];exact ⟨by rw [HLN.out,show intF (d.pages ++ [p])=intF d.pages ++ [.int .i64 p] by simp [intF]];exact Reads.of_own (own_inb12 Q11.out G0.out CI.out CM.out C4.out C5.out (by decide) (by decide)),by rw [HLN.out];exact own_caps12 Q11.out,(HZ.out.keep F0.out).r,HZ.out.rm,by show (d.pages ++ [p]).length≤5;rw [HLN.out];have:=HL4.out;omega,HZ.out.lr⟩),.inr (fun ad had=>Nat.le_trans HW8.out (HNB.out ad had)),rfl,rfl,F0.out⟩
 ·have hZ:takeZ d p c=backZ d c:=if_neg hc0
  have HZ2:=hid_ hZ
  have hne:(c != 0)=true:=by simpa using hc0
  clear hZ
  go_upto_region 19 with fail
  clear hne
  have hS0:(fun w':World=>Blk w' gi 68 (riA J q d y)∧Blk w' (gi+1) 43 (dmA l l.s l.n (.slice PA LP.length pc) l.p (.slice T2 L2.length c2) cn cl (.slice CA cm cc) (kk+1))) w8.drew:=⟨BI.out.drew,BM.out.drew⟩
  refine wp_region_u 6 (fun w':World=>Blk w' gi 68 (riA J q d y)∧Blk w' (gi+1) 43 (dmA l l.s l.n (.slice PA LP.length pc) l.p (.slice T2 L2.length c2) cn cl (.slice CA cm cc) (kk+1))) (by kernel_rfl) ?_
  refine u_take 0 (some 116) (.agg (riA J q d y)) rfl rfl (by kernel_rfl) (by kernel_rfl) (by kernel_rfl) (by kernel_rfl) (fun _ _ _ h=>h) (yieldsIf_load_mid (by kernel_rfl) 68 (.tmp 2) rfl gi 0 (by kernel_rfl) (riA J q d y).toList _ (fun w' hS=>Blk.range7 (l:=(riA J q d y).toList) hS.1) Tryz.underlying68 rfl ri_size) hS0 ?_
  go_frame
  refine u_tk 1 (some 117) (.int .i64 c) rfl rfl (y_vl (fun w' hS=>by kernel_rfl)) hS0 ?_
  go_frame
  refine u_take 3 (some 119) (.agg (dmA l l.s l.n (.slice PA LP.length pc) l.p (.slice T2 L2.length c2) cn cl (.slice CA cm cc) (kk+1))) rfl rfl (by kernel_rfl) (by kernel_rfl) (by kernel_rfl) (by kernel_rfl) (fun _ _ _ h=>h) (yieldsIf_load_mid (by kernel_rfl) 43 (.tmp 3) rfl (gi+1) 0 (by kernel_rfl) (dmA l l.s l.n (.slice PA LP.length pc) l.p (.slice T2 L2.length c2) cn cl (.slice CA cm cc) (kk+1)).toList _ (fun w' hS=>Blk.range7 (l:=(dmA l l.s l.n (.slice PA LP.length pc) l.p (.slice T2 L2.length c2) cn cl (.slice CA cm cc) (kk+1)).toList) hS.2) Tryz.underlying43 rfl dm_size) hS0 ?_
  go_frame
  clear hS0
  refine u_call 2 (some 118) 45 #[.agg (riA J q d y),.int .i64 c] (.agg (riA J q (backZ d c) y)) (fun w'=>Fr none_ w8.drew w') rfl rfl (by kernel_rfl) (by kernel_rfl) (by kernel_rfl) (rback12 c HL5.out.1 HL5.out.2) ?_
  intro wb hwb
  replace BI:=hid_ (BI.out.drew.fr hwb id)
  replace BM:=hid_ (BM.out.drew.fr hwb id)
  replace B4:=hid_ (B4.out.drew.fr hwb id)
  replace B5:=hid_ (B5.out.drew.fr hwb id)
  replace F0:=hid_ (F0.out.drew.then_none hwb)
  replace G0:=hid_ (G0.out.drew.then_none hwb)
  clear hwb
  refine ⟨⟨BI.out,BM.out⟩,?_⟩
  try go_frame
  refine u_store 4 68 (.tmp 4) (.tmp 118) (gi+1+1) 0 (riA J q (backZ d c) y) rfl rfl (by kernel_rfl) (by kernel_rfl) rfl (by kernel_rfl) (by kernel_rfl) (B4.out.there7 rfl) ri_size (by simp [Value.oneCell']) ?_
  intro wx hwx
  have ov:=B4.out.over7 (riA J q (backZ d c) y).toList rfl
  rw [← hwx] at ov
  have K_:=hid_ ov
  clear hwx ov
  replace BI:=hid_ (BI.out.fr K_.out.2 (only_ne (by omega)))
  replace BM:=hid_ (BM.out.fr K_.out.2 (only_ne (by omega)))
  replace B5:=hid_ (B5.out.fr K_.out.2 (only_ne (by omega)))
  replace B4:=hid_ K_.out.1
  replace G0:=hid_ (G0.out.then_only K_.out.2 (.inl ⟨by omega,by omega⟩))
  replace F0:=hid_ (F0.out.then_only K_.out.2 (.inr (by have:=GI.out;omega)))
  clear K_
  refine ⟨⟨BI.out,BM.out⟩,?_⟩
  try go_frame
  refine u_store 5 43 (.tmp 5) (.tmp 119) (gi+1+1+1) 0 (dmA l l.s l.n (.slice PA LP.length pc) l.p (.slice T2 L2.length c2) cn cl (.slice CA cm cc) (kk+1)) rfl rfl (by kernel_rfl) (by kernel_rfl) rfl (by kernel_rfl) (by kernel_rfl) (B5.out.there7 rfl) dm_size (by simp [Value.oneCell']) ?_
  intro wz hwz
  have ov:=B5.out.over7 (dmA l l.s l.n (.slice PA LP.length pc) l.p (.slice T2 L2.length c2) cn cl (.slice CA cm cc) (kk+1)).toList rfl
  rw [← hwz] at ov
  have K_:=hid_ ov
  clear hwz ov
  replace BI:=hid_ (BI.out.fr K_.out.2 (only_ne (by omega)))
  replace BM:=hid_ (BM.out.fr K_.out.2 (only_ne (by omega)))
  replace B4:=hid_ (B4.out.fr K_.out.2 (only_ne (by omega)))
  replace B5:=hid_ K_.out.1
  replace G0:=hid_ (G0.out.then_only K_.out.2 (.inl ⟨by omega,by omega⟩))
  replace F0:=hid_ (F0.out.then_only K_.out.2 (.inr (by have:=GI.out;omega)))
  clear K_
  refine ⟨⟨BI.out,BM.out⟩,?_⟩
  refine u_done (by kernel_rfl) ?_
  go_wp2_with fail
  refine bodyPost_ret (results_cell_cell7 _ _ rfl (gi+1+1) 0 (riA J q (backZ d c) y).toList _ rfl (Blk.range7 (l:=(riA J q (backZ d c) y).toList) B4.out) Tryz.underlying68 rfl ri_size (gi+1+1+1) 0 (dmA l l.s l.n (.slice PA LP.length pc) l.p (.slice T2 L2.length c2) cn cl (.slice CA cm cc) (kk+1)).toList _ rfl (Blk.range7 (l:=(dmA l l.s l.n (.slice PA LP.length pc) l.p (.slice T2 L2.length c2) cn cl (.slice CA cm cc) (kk+1)).toList) B5.out) Tryz.underlying43 rfl dm_size) rfl ⟨T2,c2,L2,y,by rw [HZ2.out],(own_inb12 H3.out.1 G0.out CI.out CM.out C4.out C5.out (by decide) (by decide)),H3.out.2,by rw [HZ2.out];exact ⟨(HZ.out.keep F0.out).p,HZ.out.pm,(HZ.out.keep F0.out).r,HZ.out.rm,HZ.out.lp,HZ.out.lr⟩,.inl ⟨rfl,by rw [HZ2.out];rfl⟩,rfl,rfl,F0.out⟩
end Go.Proofs.YthcpccddcgbanaaGreatDoor

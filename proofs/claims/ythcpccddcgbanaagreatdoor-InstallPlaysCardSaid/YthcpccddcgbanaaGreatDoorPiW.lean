/- Texts of one proof, merged: RstHe12. -/
import Derived.Test.YthcpccddcgbanaaGreatDoorPiT
namespace Go.Proofs.YthcpccddcgbanaaGreatDoor
open Go.RowKit Go.BigFrame
set_option maxRecDepth 100000
set_option linter.unusedVariables false
variable {J:Jd} {q:Jl} {d:Rz} {y:Rl} {l:Lm} {PA:Option Addr} {pc:Nat} {LP:List RaP} {T:Option Addr} {tc:Nat} {L:List Rp} {cn cl:Int} {CA:Option Addr} {cm cc:Nat} {kk:Int} {w:World}
set_option maxHeartbeats 16000000 in
theorem rstep_head {W0:World} (hz:RiIn w d y) (hj:JobRd W0 J q) (hwf:Fr none_ W0 w) (hr0:∀ z ∈ LP,RecReads W0 z.R z.A z.B) (hb:d.back=false) (ho:d.over=false) (hk:IntKind.i64.wrap (kk+1)=kk+1) (hn:¬ (d.pages.length:Int) < J.news) (hm:(d.refs.length:Int)=J.news) (hlk:d.links=J.news) (hl4:d.refs.length≤4) {sl gn c:Int} {ss ss':List Sl} {ps:List Pg} (hra:RaIn w LP PA pc) (hlen:LP.length < 5000) (hls:1≤l.s∧l.s≤4096∧l.n≤1099511627776) (hD:Dm (l.s:Int) l.n ss ps LP L) (hx:AllocR l.n ss (jhead J d.pages) sl gn c ss') :
  Calls Tryz.prog 12 #[.agg (riA J q d y),.agg (dmA l l.s l.n (.slice PA LP.length pc) l.p (.slice T L.length tc) cn cl (.slice CA cm cc) kk)] w (fun e w'=>∃ LP' A2 c2 y2,e=.returned (.tuple #[.agg (riA J q (putZ d sl gn c) y2),.agg (dmA l l.s l.n (.slice A2 LP'.length c2) l.p (.slice T L.length tc) cn cl (.slice CA cm cc) (kk+1))])∧RaIn w' LP' A2 c2∧Dm (l.s:Int) l.n ss' ps LP' L∧LP'.length≤LP.length+1∧((A2=PA∧LP'.length≤LP.length)∨∀ ad,A2=some ad→w.heap.size≤ad.block)∧(∀ q ∈ LP',RecReads W0 q.R q.A q.B)∧RiIn w' (putZ d sl gn c) y2∧((y2=y∧(putZ d sl gn c).refs=d.refs)∨∀ ad,y2.rA=some ad→w.heap.size≤ad.block)∧y2.pA=y.pA∧y2.pc=y.pc∧Fr none_ w w'):=by
 obtain ⟨j0,hj0,hy0,ht0,hc0⟩:=info_parts ref_info
 have Hj:=hid_ (And.intro hj0 (And.intro hy0 (And.intro ht0 hc0)))
 have HZ:=hid_ hz
 have HJB:=hid_ hj
 have HWF:=hid_ hwf
 have HR0:=hid_ hr0
 have HL5:=hid_ (And.intro hz.lr hz.lp)
 have HL4:=hid_ hl4
 have HRA:=hid_ hra
 have HD:=hid_ hD
 have HX:=hid_ hx
 have HLS:=hid_ (And.intro hlen hls)
 clear hra hD hx hz hl4 hj0 hy0 ht0 hc0 hlen hls hj hwf hr0
 have HO:=hid_ ho
 have HB:=hid_ hb
 clear ho hb
 have HLK:=hid_ hlk
 clear hlk
 obtain ⟨w0,hw0⟩:∃ z,z=(((w.alloc (.cells (riA J q d y) 68)).alloc (.cells (dmA l l.s l.n (.slice PA LP.length pc) l.p (.slice T L.length tc) cn cl (.slice CA cm cc) kk) 43)).alloc (.cells riZ 68)).alloc (.cells dmZ 43):=⟨_,rfl⟩
 have f0:Fr none_ w w0:=by rw [hw0];exact ((((Fr.refl none_ w).alloc _).alloc _).alloc _).alloc _
 have BI:Hid (Blk w0 w.heap.size 68 (riA J q d y)):=hid_ (by rw [hw0];exact (((Blk.new w _ _).alloc _).alloc _).alloc _)
 have BM:Hid (Blk w0 (w.heap.size+1) 43 (dmA l l.s l.n (.slice PA LP.length pc) l.p (.slice T L.length tc) cn cl (.slice CA cm cc) kk)):=hid_ (by rw [hw0];exact ((Blk.new_at4 _ _ (by simp)).alloc _).alloc _)
 have B4:Hid (Blk w0 (w.heap.size+1+1) 68 riZ):=hid_ (by rw [hw0];exact (Blk.new_at4 _ _ (by simp)).alloc _)
 have B5:Hid (Blk w0 (w.heap.size+1+1+1) 43 dmZ):=hid_ (by rw [hw0];exact Blk.new_at4 _ _ (by simp))
 have F0:=hid_ f0
 have hs0:w0.heap.size=w.heap.size+4:=by rw [hw0];simp
 have HS0:=hid_ hs0
 clear f0 hs0
 go_enter Tryz.func12,Tryz.ntmps12
 go_upto_region 1 with fail
 change Code.wp _ _ _ _ ((((w.alloc (.cells (riA J q d y) 68)).alloc (.cells (dmA l l.s l.n (.slice PA LP.length pc) l.p (.slice T L.length tc) cn cl (.slice CA cm cc) kk) 43)).alloc (.cells riZ 68)).alloc (.cells dmZ 43))
 rw [← hw0]
 clear hw0
 obtain ⟨gi,hgi⟩:∃ g,g=w.heap.size:=⟨_,rfl⟩
 rw [← hgi] at BI BM B4 B5
 rw [← hgi]
 have GI:=hid_ hgi
 clear hgi
 have m14:w0.cell? ⟨gi+1,14,none⟩=some (.int .i64 kk):=BM.out.cell' rfl
 have ym14:=BM.out.frozen 14
 have i23:w0.cell? ⟨gi,23,none⟩=some (.bool false):=by rw [← HO.out];exact BI.out.cell' rfl
 go_upto_region 4 with fail
 obtain ⟨w1,hw_⟩:∃ z,z=w0.setCell ⟨gi+1,14,none⟩ (.int .i64 (kk+1)):=⟨_,rfl⟩
 have K_:Hid (Blk w1 (gi+1) 43 (dmA l l.s l.n (.slice PA LP.length pc) l.p (.slice T L.length tc) cn cl (.slice CA cm cc) (kk+1))∧Fr (only (gi+1)) w0 w1):=hid_ (by rw [hw_];exact ⟨BM.out.set_ 14 (.int .i64 (kk+1)),Fr.only1 w0 ⟨gi+1,14,none⟩ _⟩)
 change Code.wp _ _ _ _ (w0.setCell ⟨gi+1,14,none⟩ (.int .i64 (kk+1)))
 rw [← hw_]
 clear hw_ m14 ym14 i23
 replace BI:=hid_ (BI.out.fr K_.out.2 (only_ne (by omega)))
 replace BM:=hid_ K_.out.1
 replace B4:=hid_ (B4.out.fr K_.out.2 (only_ne (by omega)))
 replace B5:=hid_ (B5.out.fr K_.out.2 (only_ne (by omega)))
 replace F0:=hid_ (F0.out.then_only K_.out.2 (.inr (by have:=GI.out;omega)))
 clear K_
 have i3:w1.cell? ⟨gi,3,none⟩=some (.int .i64 J.news):=BI.out.cell' rfl
 have i22:w1.cell? ⟨gi,22,none⟩=some (.bool false):=by rw [← HB.out];exact BI.out.cell' rfl
 have i26:w1.cell? ⟨gi,26,none⟩=some (.slice y.pA d.pages.length y.pc):=BI.out.cell' rfl
 have i27:w1.cell? ⟨gi,27,none⟩=some (.slice y.rA d.refs.length y.rc):=BI.out.cell' rfl
 have i28:w1.cell? ⟨gi,28,none⟩=some (.int .i64 J.news):=by rw [← HLK.out];exact BI.out.cell' rfl
 have hm1:¬ (d.refs.length:Int) < J.news:=by omega
 have hm2:((d.refs.length:Int)==J.news)=true:=by simpa using hm
 have HM:=hid_ hm
 clear hm
 go_upto_region 23 with fail
 go_wp2_with (refine wpList_load_mid rfl 68 (.tmp 2) rfl gi 0 rfl (riA J q d y).toList _ (Blk.range7 (l:=(riA J q d y).toList) BI.out) Tryz.underlying68 rfl ri_size ?_)
 refine (rhead12 (J:=J) (q:=q) (d:=d) (y:=y) (HZ.out.keep F0.out)).mono ?_
 rintro e wh ⟨rfl,hf⟩
 replace BI:=hid_ (BI.out.fr hf id)
 replace BM:=hid_ (BM.out.fr hf id)
 replace B4:=hid_ (B4.out.fr hf id)
 replace B5:=hid_ (B5.out.fr hf id)
 replace F0:=hid_ (F0.out.then_none hf)
 clear hf i3 i22 i26 i28
 have i27:wh.cell? ⟨gi,27,none⟩=some (.slice y.rA d.refs.length y.rc):=BI.out.cell' rfl
 have hgl:=BI.out.lt
 go_upto_region 24 with (refine wpList_store_mid rfl 55 (.tmp 14) (.tmp 149) rfl wh.heap.size 0 (hdA J q d.pages) rfl rfl (new_there wh _ recN) rec_sz12 (hd_one12 _ _ _) ?_;obtain ⟨w2,hw2⟩:∃ z,z=(wh.alloc (.cells recN 55)).setCells wh.heap.size 0 (hdA J q d.pages).toList:=⟨_,rfl⟩;change wpList _ _ _ _ _ ((wh.alloc (.cells recN 55)).setCells wh.heap.size 0 (hdA J q d.pages).toList);rw [← hw2];have K1:Hid (Blk w2 wh.heap.size 55 (hdA J q d.pages)∧Fr none_ wh w2):=hid_ (by rw [hw2];exact new_copy wh _ recN _ rfl);clear hw2)
 obtain ⟨gr,hgr⟩:∃ g,g=wh.heap.size:=⟨_,rfl⟩
 have BR:=hid_ K1.out.1
 rw [← hgr] at BR
 rw [← hgr]
 have h5l:=B5.out.lt
 have GR:Hid (gi+4≤gr∧w.heap.size≤gr):=hid_ (by have:=GI.out;omega)
 clear hgr h5l i27 hgl
 replace BI:=hid_ (BI.out.fr K1.out.2 id)
 replace BM:=hid_ (BM.out.fr K1.out.2 id)
 replace B4:=hid_ (B4.out.fr K1.out.2 id)
 replace B5:=hid_ (B5.out.fr K1.out.2 id)
 replace F0:=hid_ (F0.out.then_none K1.out.2)
 clear K1
 have i27:w2.cell? ⟨gi,27,none⟩=some (.slice y.rA d.refs.length y.rc):=BI.out.cell' rfl
 replace BR:=hid_ (show Blk w2 gr 55 (recA (jhead J d.pages) (.slice q.Ah (jhead J d.pages).rows.length q.ch) (.slice q.Eh (jhead J d.pages).ents.length q.dh)) from BR.out)
 have HRD:Hid (RecReads W0 (jhead J d.pages) q.Ah q.Eh∧(jhead J d.pages).rows.length≤1000∧(jhead J d.pages).ents.length≤1000):=hid_ (by obtain ⟨e1,e2⟩:=jhead_rows J d.pages;have h1:=HJB.out.hd;have h2:=HJB.out.hz;unfold RowsOk at h2;exact ⟨⟨by rw [e1];exact h1.1,by rw [e2];exact h1.2⟩,by rw [e1];exact h2.1,by rw [e2];exact h2.2⟩)
 have HRDW:=hid_ HRD.out.1
 go_upto_region 26 with fail
 clear i27
 have m6:w2.cell? ⟨gi+1,6,none⟩=some (.int .i64 (l.s:Int)):=BM.out.cell' rfl
 have m7:w2.cell? ⟨gi+1,7,none⟩=some (.int .i64 l.n):=BM.out.cell' rfl
 have m8:w2.cell? ⟨gi+1,8,none⟩=some (.slice PA LP.length pc):=BM.out.cell' rfl
 go_wp2_with (refine wpList_load_mid rfl 55 (.tmp 14) rfl gr 0 rfl (recA (jhead J d.pages) (.slice q.Ah (jhead J d.pages).rows.length q.ch) (.slice q.Eh (jhead J d.pages).ents.length q.dh)).toList _ (Blk.range7 (l:=(recA (jhead J d.pages) (.slice q.Ah (jhead J d.pages).rows.length q.ch) (.slice q.Eh (jhead J d.pages).ents.length q.dh)).toList) BR.out) Tryz.underlying55 rfl rec_sz12 ?_)
 refine (ralloc_ok (l.s:Int) l.n LP PA pc (jhead J d.pages) q.Ah q.ch q.Eh q.dh w2 (by have:=HLS.out.2.1;omega) (by have:=HLS.out.2.2.1;omega) HLS.out.2.2.2 HD.out.gen0 HLS.out.1 (HRA.out.keep F0.out) (HRDW.out.keep (HWF.out.then_none F0.out)) HRD.out.2).mono ?_
 intro e wc hal
 obtain ⟨LP',A2,c2,rfl,h3,h4,h5,h6,h7,hf⟩:=HD.out.alloc HX.out hal
 clear hal
 have H3:=hid_ (And.intro h3 h4)
 have H5:=hid_ (And.intro h5 (And.intro h6 h7))
 have hgi4:gi+4≤w2.heap.size:=by have:=B5.out.lt;omega
 have hf1:=F0.out.size
 have HF1:=hid_ hf1
 replace BI:=hid_ (BI.out.fr hf id)
 replace BM:=hid_ (BM.out.fr hf id)
 replace B4:=hid_ (B4.out.fr hf id)
 replace B5:=hid_ (B5.out.fr hf id)
 replace F0:=hid_ (F0.out.then_none hf)
 clear BR
 have G0:Hid (Fr (inb gi) wc wc):=hid_ (Fr.refl _ _)
 have HW1:=hid_ hf.size
 clear h3 h4 h5 h6 h7 hf m6 m7 m8 hf1
 go_upto_region 27 with fail
 obtain ⟨wd,hwd⟩:∃ z,z=(wc.alloc (.cells (raA l.s l.n LP' A2 c2) 35)).alloc (.cells #[.int .i64 sl,.int .i64 gn] 48):=⟨_,rfl⟩
 have K_:Hid (Blk wd wc.heap.size 35 (raA l.s l.n LP' A2 c2)∧Blk wd (wc.heap.size+1) 48 #[.int .i64 sl,.int .i64 gn]∧Fr none_ wc wd):=hid_ (by rw [hwd];exact ⟨(Blk.new wc _ _).alloc _,Blk.new_at4 _ _ (by simp),((Fr.refl none_ wc).alloc _).alloc _⟩)
 change Code.wp _ _ _ _ ((wc.alloc (.cells (raA l.s l.n LP' A2 c2) 35)).alloc (.cells #[.int .i64 sl,.int .i64 gn] 48))
 rw [← hwd]
 clear hwd
 obtain ⟨g7,hg7⟩:∃ g,g=wc.heap.size:=⟨_,rfl⟩
 have B7:=hid_ K_.out.1
 have B8:=hid_ K_.out.2.1
 rw [← hg7] at B7 B8
 rw [← hg7]
 have HG7:Hid (gi+4≤g7):=hid_ (by have:=HW1.out;omega)
 clear hg7
 replace BI:=hid_ (BI.out.fr K_.out.2.2 id)
 replace BM:=hid_ (BM.out.fr K_.out.2.2 id)
 replace B4:=hid_ (B4.out.fr K_.out.2.2 id)
 replace B5:=hid_ (B5.out.fr K_.out.2.2 id)
 replace F0:=hid_ (F0.out.then_none K_.out.2.2)
 replace G0:=hid_ (G0.out.then_none K_.out.2.2)
 clear K_
 have a0:wd.cell? ⟨g7,0,none⟩=some (.int .i64 (l.s:Int)):=B7.out.cell' rfl
 have a1:wd.cell? ⟨g7,1,none⟩=some (.int .i64 l.n):=B7.out.cell' rfl
 have a2:wd.cell? ⟨g7,2,none⟩=some (.slice A2 LP'.length c2):=B7.out.cell' rfl
 go_upto_region 28 with (refine wpList_store_mid rfl 35 (.tmp 169) (.tmp 168) rfl (gi+1) 6 #[.int .i64 (l.s:Int),.int .i64 l.n,.slice A2 LP'.length c2] rfl rfl (BM.out.thereN (Nat.le_of_ble_eq_true rfl)) ra_size12 (by simp [Value.oneCell']) ?_;obtain ⟨w8,hw_⟩:∃ z,z=wd.setCells (gi+1) 6 [.int .i64 (l.s:Int),.int .i64 l.n,.slice A2 LP'.length c2]:=⟨_,rfl⟩;change wpList _ _ _ _ _ (wd.setCells (gi+1) 6 [.int .i64 (l.s:Int),.int .i64 l.n,.slice A2 LP'.length c2]);rw [← hw_];have K_:=hid_ (BM.out.putN (cs':=dmA l l.s l.n (.slice A2 LP'.length c2) l.p (.slice T L.length tc) cn cl (.slice CA cm cc) (kk+1)) hw_ rfl);clear hw_)
 replace BI:=hid_ (BI.out.fr K_.out.2 (only_ne (by omega)))
 replace BM:=hid_ K_.out.1
 replace B4:=hid_ (B4.out.fr K_.out.2 (only_ne (by omega)))
 replace B5:=hid_ (B5.out.fr K_.out.2 (only_ne (by omega)))
 replace B8:=hid_ (B8.out.fr K_.out.2 (only_ne (by have:=HG7.out;omega)))
 replace G0:=hid_ (G0.out.then_only K_.out.2 (.inl ⟨by omega,by omega⟩))
 replace F0:=hid_ (F0.out.then_only K_.out.2 (.inr (by have:=GI.out;omega)))
 clear K_
 clear a0 a1 a2 B7
 by_cases hc0:c=0
 ·subst hc0
  have hZ:putZ d sl gn 0={ d with refs:=d.refs ++ [(sl,gn)] }:=if_pos rfl
  have HZ2:=hid_ hZ
  clear hZ
  have CI:=hid_ BI.out
  have CM:=hid_ BM.out
  have C4:=hid_ B4.out
  have C5:=hid_ B5.out
  have HW8:=hid_ F0.out.size
  go_upto_region 30 with fail
  go_cut [182] (fun v wq=>∃ (A9:Option Addr) (c9:Nat),v=.slice A9 (d.refs.length+1) c9∧wq.ownsRow w8.heap.size 48 2 (.slice A9 (d.refs.length+1) c9) (d.refs.length+1) (rfFlat d.refs ++ [.int .i64 sl,.int .i64 gn])∧Blk wq gi 68 (riA J q ({ d with refs:=d.refs ++ [(sl,gn)] }) ⟨y.pA,y.pc,A9,c9⟩)∧Fr (only gi) w8 wq)
  case first =>
   have hl5:=HL4.out
   have HW8:=hid_ (Nat.le_refl w8.heap.size)
   have i27:w8.cell? ⟨gi,27,none⟩=some (.slice y.rA d.refs.length y.rc):=BI.out.cell' rfl
   have g0:w8.cell? ⟨g7+1,0,none⟩=some (.int .i64 sl):=B8.out.cell' rfl
   have g1:w8.cell? ⟨g7+1,1,none⟩=some (.int .i64 gn):=B8.out.cell' rfl
   have RR:=hid_ ((HZ.out.keep F0.out).r)
   have hS0:(fun w':World=>Fr none_ w8 w') w8.drew:=(Fr.refl none_ w8).drew
   refine wp_region_u 8 (fun w':World=>Fr none_ w8 w') (by kernel_rfl) ?_
   refine u_tk 1 (some 177) (.pointer (some ⟨gi,27,none⟩)) rfl rfl (y_vl (fun w' hS=>by kernel_rfl)) hS0 ?_
   go_frame
   refine u_tk 2 (some 178) (.slice y.rA d.refs.length y.rc) rfl rfl (y_cell 66 (.tmp 177) ⟨gi,27,none⟩ _ (by kernel_rfl) rfl (by kernel_rfl) (fun w' hS=>cellFr i27 hS) Tryz.underlying66 rfl) hS0 ?_
   go_frame
   refine u_tk 4 (some 180) (.agg #[.int .i64 sl,.int .i64 gn]) rfl rfl (yieldsIf_load_mid (by kernel_rfl) 48 (.tmp 16) rfl (g7+1) 0 (by kernel_rfl) [.int .i64 sl,.int .i64 gn] _ (fun w' hS j v hv=>by match j,hv with | 0,hv=>obtain rfl:=Option.some.inj hv;exact cellFr g0 hS | 1,hv=>obtain rfl:=Option.some.inj hv;exact cellFr g1 hS | n+2,hv=>simp at hv) Tryz.underlying48 rfl ref_size12) hS0 ?_
   go_frame
   clear hS0 g0 g1
   have FF:Hid (Fr none_ w8 w8.drew):=hid_ (Fr.refl none_ w8).drew
   obtain ⟨we,hwe⟩:∃ z,z=w8.drew:=⟨_,rfl⟩
   rw [← hwe] at FF
   rw [← hwe]
   clear hwe
   refine u_two 0 5 rfl rfl (by kernel_rfl) (by kernel_rfl) (by kernel_rfl) ?_ ?_
   ·skip
    refine wp_knownQ (some 176) rfl (.slice (some ⟨we.heap.size,0,none⟩) 0 0) (we.alloc (.cells #[] 48)) (by kernel_rfl) ?_
    refine ⟨.inr (FF.out.alloc _),?_⟩
    try go_frame
    obtain ⟨x1,hw_⟩:∃ z,z=we.alloc (.cells #[] 48):=⟨_,rfl⟩
    have fa:Fr none_ we x1:=by rw [hw_];exact (Fr.refl none_ we).alloc _
    have OE:=hid_ (show x1.ownsRow w8.heap.size 48 2 (.slice (some ⟨we.heap.size,0,none⟩) 0 0) 0 [] by rw [hw_];exact own_empty_at we _ _ _ _ (by have:=FF.out.size;simpa using this) rfl)
    have LT1:Hid (we.heap.size < x1.heap.size):=hid_ (by rw [hw_];simp)
    rw [← hw_]
    replace FF:=hid_ (FF.out.then_none fa)
    clear hw_ fa
    refine u_two 3 5 rfl rfl (by kernel_rfl) (by kernel_rfl) (by kernel_rfl) ?_ ?_
    ·skip
     refine wp_append_any _ (.tmp 176) (.tmp 178) 66 rfl w8.heap.size 48 j0 _ 2 16 Tryz.underlying66 Hj.out.1 Hj.out.2.1 Hj.out.2.2.1 Hj.out.2.2.2 rfl (by omega) (.slice (some ⟨we.heap.size,0,none⟩) 0 0) 0 [] rfl OE.out y.rA d.refs.length y.rc (rfFlat d.refs) rfl (RR.out.none_fr FF.out) (rf_one12 _) (by simp only [maxLen];omega) (by omega) (by have:=FF.out.size;omega) ?_
     intro A8 c8 x2 hown hgr
     have fq:Fr (fun k=>(Value.slice (some ⟨we.heap.size,0,none⟩) 0 0).ownBlock=some k) x1 x2:=(Fr.refl _ x1).grown hgr (fun k hk=>.inl hk)
     have OP:=hid_ (show x2.ownsRow w8.heap.size 48 2 (.slice A8 d.refs.length c8) d.refs.length (rfFlat d.refs) by simpa using hown)
     have FN:Hid (Fr none_ w8 x2):=hid_ (FF.out.trans fq (fun _ _ e=>e) (fun k hk e=>absurd ((OE.out.lt k e).1) (by omega)))
     simp only [Nat.zero_add]
     refine ⟨.inr FN.out,?_⟩
     try go_frame
     replace FF:=hid_ FN.out
     clear FN hown hgr fq
     refine u_run 5 (some 181) (.slice (some ⟨x2.heap.size,0,none⟩) 1 1) (x2.alloc (.cells #[.int .i64 sl,.int .i64 gn] 48)) rfl rfl (by kernel_rfl) (by kernel_rfl) (by kernel_rfl) (.inr (FF.out.alloc _)) ?_
     try go_frame
     obtain ⟨x3,hw_⟩:∃ z,z=x2.alloc (.cells #[.int .i64 sl,.int .i64 gn] 48):=⟨_,rfl⟩
     have fa:Fr none_ x2 x3:=by rw [hw_];exact (Fr.refl none_ x2).alloc _
     have ON:=hid_ (show Reads x3 2 (some ⟨x2.heap.size,0,none⟩) 1 [.int .i64 sl,.int .i64 gn] by rw [hw_];exact reads_new x2 _ [.int .i64 sl,.int .i64 gn] _ rfl)
     rw [← hw_]
     replace FF:=hid_ (FF.out.then_none fa)
     replace OP:=hid_ (own_none OP.out fa)
     clear hw_ fa
     refine u_one 6 rfl (by kernel_rfl) (by kernel_rfl) ?_
     refine wp_append_any _ (.tmp 179) (.tmp 181) 66 rfl w8.heap.size 48 j0 _ 2 16 Tryz.underlying66 Hj.out.1 Hj.out.2.1 Hj.out.2.2.1 Hj.out.2.2.2 rfl (by omega) (.slice A8 d.refs.length c8) d.refs.length (rfFlat d.refs) rfl OP.out (some ⟨x2.heap.size,0,none⟩) 1 1 [.int .i64 sl,.int .i64 gn] rfl ON.out (by simp [Value.oneCell']) (by simp only [maxLen];omega) (by omega) (by have:=FF.out.size;omega) ?_
     intro A9 c9 x4 hown hgr
     have FN:Hid (Fr none_ w8 x4):=hid_ (FF.out.grown hgr (fun k hk=>.inr (OP.out.lt k hk).1))
     have OQ:=hid_ hown
     clear hown hgr
     refine ⟨.inr FN.out,?_⟩
     try go_frame
     have hSz:(fun w':World=>Fr none_ w8 w') x4:=FN.out
     refine u_tk 7 (some 183) (.pointer (some ⟨gi,27,none⟩)) rfl rfl (y_vl (fun w' hS=>by kernel_rfl)) hSz ?_
     go_frame
     clear hSz
     have BJ:=hid_ (BI.out.fr FN.out id)
     have v27:x4.cell? ⟨gi,27,none⟩=some (.slice y.rA d.refs.length y.rc):=BJ.out.cell' rfl
     have u27:=BJ.out.frozen 27
     refine u_one 8 rfl (by kernel_rfl) (by kernel_rfl) ?_
     go_simp
     refine u_done (by kernel_rfl) ?_
     clear v27 u27
     obtain ⟨wf,hw_⟩:∃ z,z=x4.setCell ⟨gi,27,none⟩ (.slice A9 (d.refs.length+1) c9):=⟨_,rfl⟩
     have K9:Hid (Blk wf gi 68 (riA J q ({ d with refs:=d.refs ++ [(sl,gn)] }) ⟨y.pA,y.pc,A9,c9⟩)∧Fr (only gi) x4 wf):=hid_ (by rw [hw_];exact ⟨by show Blk _ _ _ #[.int .i64 J.page,.int .i64 J.os,.int .i64 J.og,.int .i64 J.news,.slice q.A q.Cs.length q.c,.int .i64 J.head.kind,.string J.head.low,.string J.head.high,.bool J.head.unb,.int .i64 J.head.right,.slice q.Ah J.head.rows.length q.ch,.slice q.Eh J.head.ents.length q.dh,.string J.head.key,.string J.head.val,.int .i64 J.head.page,.int .i64 J.head.hpage,.int .i64 J.head.hleft,.string J.head.hkey,.int .i64 J.head.nslot,.int .i64 J.head.ngen,.int .i64 J.fresh,.bool false,.bool d.back,.bool d.over,.bool d.done,.int .i64 d.err,.slice y.pA d.pages.length y.pc,.slice A9 (d.refs ++ [(sl,gn)]).length c9,.int .i64 d.links];rw [show (d.refs ++ [(sl,gn)]).length=d.refs.length+1 by simp];exact BJ.out.set_ 27 _,Fr.only1 x4 ⟨gi,27,none⟩ _⟩)
     have O9:=hid_ (own_fr OQ.out K9.out.2 (fun k hk e=>own_blk_ne OQ.out BJ.out (by decide) (by rw [hk,show k=gi from e])))
     rw [← hw_]
     clear hw_
     go_wp2
     go_meet
     case rel=>exact ⟨A9,c9,rfl,O9.out,K9.out.1,(FN.out.mono (fun _ _ e=>e.elim)).then_only K9.out.2 (.inl rfl)⟩
    ·skip
     refine wp_knownQ (some 181) rfl (.slice (some ⟨x1.heap.size,0,none⟩) 1 1) (x1.alloc (.cells #[.int .i64 sl,.int .i64 gn] 48)) (by kernel_rfl) ?_
     refine ⟨.inr (FF.out.alloc _),?_⟩
     try go_frame
     obtain ⟨x2,hw_⟩:∃ z,z=x1.alloc (.cells #[.int .i64 sl,.int .i64 gn] 48):=⟨_,rfl⟩
     have fa:Fr none_ x1 x2:=by rw [hw_];exact (Fr.refl none_ x1).alloc _
     have ON:=hid_ (show Reads x2 2 (some ⟨x1.heap.size,0,none⟩) 1 [.int .i64 sl,.int .i64 gn] by rw [hw_];exact reads_new x1 _ [.int .i64 sl,.int .i64 gn] _ rfl)
     rw [← hw_]
     replace FF:=hid_ (FF.out.then_none fa)
     replace OE:=hid_ (own_none OE.out fa)
     clear hw_ fa
     refine u_one 3 rfl (by kernel_rfl) (by kernel_rfl) ?_
     refine wp_append_any _ (.tmp 176) (.tmp 178) 66 rfl w8.heap.size 48 j0 _ 2 16 Tryz.underlying66 Hj.out.1 Hj.out.2.1 Hj.out.2.2.1 Hj.out.2.2.2 rfl (by omega) (.slice (some ⟨we.heap.size,0,none⟩) 0 0) 0 [] rfl OE.out y.rA d.refs.length y.rc (rfFlat d.refs) rfl (RR.out.none_fr FF.out) (rf_one12 _) (by simp only [maxLen];omega) (by omega) (by have:=FF.out.size;omega) ?_
     intro A8 c8 x3 hown hgr
     have fq:Fr (fun k=>(Value.slice (some ⟨we.heap.size,0,none⟩) 0 0).ownBlock=some k) x2 x3:=(Fr.refl _ x2).grown hgr (fun k hk=>.inl hk)
     have OP:=hid_ (show x3.ownsRow w8.heap.size 48 2 (.slice A8 d.refs.length c8) d.refs.length (rfFlat d.refs) by simpa using hown)
     have FN:Hid (Fr none_ w8 x3):=hid_ (FF.out.trans fq (fun _ _ e=>e) (fun k hk e=>absurd ((OE.out.lt k e).1) (by omega)))
     simp only [Nat.zero_add]
     refine ⟨.inr FN.out,?_⟩
     try go_frame
     replace FF:=hid_ FN.out
     replace ON:=hid_ (reads_off12 ON.out fq (fun ad had e=>by have h1:ad.block=x1.heap.size:=(by rw [← Option.some.inj had]);have h2:we.heap.size=ad.block:=(by simpa [Value.ownBlock] using e);have h3:=LT1.out;omega))
     clear FN hown hgr fq
     refine u_one 6 rfl (by kernel_rfl) (by kernel_rfl) ?_
     refine wp_append_any _ (.tmp 179) (.tmp 181) 66 rfl w8.heap.size 48 j0 _ 2 16 Tryz.underlying66 Hj.out.1 Hj.out.2.1 Hj.out.2.2.1 Hj.out.2.2.2 rfl (by omega) (.slice A8 d.refs.length c8) d.refs.length (rfFlat d.refs) rfl OP.out (some ⟨x1.heap.size,0,none⟩) 1 1 [.int .i64 sl,.int .i64 gn] rfl ON.out (by simp [Value.oneCell']) (by simp only [maxLen];omega) (by omega) (by have:=FF.out.size;omega) ?_
     intro A9 c9 x4 hown hgr
     have FN:Hid (Fr none_ w8 x4):=hid_ (FF.out.grown hgr (fun k hk=>.inr (OP.out.lt k hk).1))
     have OQ:=hid_ hown
     clear hown hgr
     refine ⟨.inr FN.out,?_⟩
     try go_frame
     have hSz:(fun w':World=>Fr none_ w8 w') x4:=FN.out
     refine u_tk 7 (some 183) (.pointer (some ⟨gi,27,none⟩)) rfl rfl (y_vl (fun w' hS=>by kernel_rfl)) hSz ?_
     go_frame
     clear hSz
     have BJ:=hid_ (BI.out.fr FN.out id)
     have v27:x4.cell? ⟨gi,27,none⟩=some (.slice y.rA d.refs.length y.rc):=BJ.out.cell' rfl
     have u27:=BJ.out.frozen 27
     refine u_one 8 rfl (by kernel_rfl) (by kernel_rfl) ?_
     go_simp
     refine u_done (by kernel_rfl) ?_
     clear v27 u27
     obtain ⟨wf,hw_⟩:∃ z,z=x4.setCell ⟨gi,27,none⟩ (.slice A9 (d.refs.length+1) c9):=⟨_,rfl⟩
     have K9:Hid (Blk wf gi 68 (riA J q ({ d with refs:=d.refs ++ [(sl,gn)] }) ⟨y.pA,y.pc,A9,c9⟩)∧Fr (only gi) x4 wf):=hid_ (by rw [hw_];exact ⟨by show Blk _ _ _ #[.int .i64 J.page,.int .i64 J.os,.int .i64 J.og,.int .i64 J.news,.slice q.A q.Cs.length q.c,.int .i64 J.head.kind,.string J.head.low,.string J.head.high,.bool J.head.unb,.int .i64 J.head.right,.slice q.Ah J.head.rows.length q.ch,.slice q.Eh J.head.ents.length q.dh,.string J.head.key,.string J.head.val,.int .i64 J.head.page,.int .i64 J.head.hpage,.int .i64 J.head.hleft,.string J.head.hkey,.int .i64 J.head.nslot,.int .i64 J.head.ngen,.int .i64 J.fresh,.bool false,.bool d.back,.bool d.over,.bool d.done,.int .i64 d.err,.slice y.pA d.pages.length y.pc,.slice A9 (d.refs ++ [(sl,gn)]).length c9,.int .i64 d.links];rw [show (d.refs ++ [(sl,gn)]).length=d.refs.length+1 by simp];exact BJ.out.set_ 27 _,Fr.only1 x4 ⟨gi,27,none⟩ _⟩)
     have O9:=hid_ (own_fr OQ.out K9.out.2 (fun k hk e=>own_blk_ne OQ.out BJ.out (by decide) (by rw [hk,show k=gi from e])))
     rw [← hw_]
     clear hw_
     go_wp2
     go_meet
     case rel=>exact ⟨A9,c9,rfl,O9.out,K9.out.1,(FN.out.mono (fun _ _ e=>e.elim)).then_only K9.out.2 (.inl rfl)⟩
   ·skip
    refine wp_knownQ (some 181) rfl (.slice (some ⟨we.heap.size,0,none⟩) 1 1) (we.alloc (.cells #[.int .i64 sl,.int .i64 gn] 48)) (by kernel_rfl) ?_
    refine ⟨.inr (FF.out.alloc _),?_⟩
    try go_frame
    obtain ⟨x1,hw_⟩:∃ z,z=we.alloc (.cells #[.int .i64 sl,.int .i64 gn] 48):=⟨_,rfl⟩
    have fa:Fr none_ we x1:=by rw [hw_];exact (Fr.refl none_ we).alloc _
    have ON:=hid_ (show Reads x1 2 (some ⟨we.heap.size,0,none⟩) 1 [.int .i64 sl,.int .i64 gn] by rw [hw_];exact reads_new we _ [.int .i64 sl,.int .i64 gn] _ rfl)
    have LT1:Hid (we.heap.size < x1.heap.size):=hid_ (by rw [hw_];simp)
    rw [← hw_]
    replace FF:=hid_ (FF.out.then_none fa)
    clear hw_ fa
    refine u_run 0 (some 176) (.slice (some ⟨x1.heap.size,0,none⟩) 0 0) (x1.alloc (.cells #[] 48)) rfl rfl (by kernel_rfl) (by kernel_rfl) (by kernel_rfl) (.inr (FF.out.alloc _)) ?_
    try go_frame
    obtain ⟨x2,hw_⟩:∃ z,z=x1.alloc (.cells #[] 48):=⟨_,rfl⟩
    have fa:Fr none_ x1 x2:=by rw [hw_];exact (Fr.refl none_ x1).alloc _
    have OE:=hid_ (show x2.ownsRow w8.heap.size 48 2 (.slice (some ⟨x1.heap.size,0,none⟩) 0 0) 0 [] by rw [hw_];exact own_empty_at x1 _ _ _ _ (by have:=FF.out.size;simpa using this) rfl)
    rw [← hw_]
    replace FF:=hid_ (FF.out.then_none fa)
    replace ON:=hid_ (ON.out.none_fr fa)
    clear hw_ fa
    refine u_one 3 rfl (by kernel_rfl) (by kernel_rfl) ?_
    refine wp_append_any _ (.tmp 176) (.tmp 178) 66 rfl w8.heap.size 48 j0 _ 2 16 Tryz.underlying66 Hj.out.1 Hj.out.2.1 Hj.out.2.2.1 Hj.out.2.2.2 rfl (by omega) (.slice (some ⟨x1.heap.size,0,none⟩) 0 0) 0 [] rfl OE.out y.rA d.refs.length y.rc (rfFlat d.refs) rfl (RR.out.none_fr FF.out) (rf_one12 _) (by simp only [maxLen];omega) (by omega) (by have:=FF.out.size;omega) ?_
    intro A8 c8 x3 hown hgr
    have fq:Fr (fun k=>(Value.slice (some ⟨x1.heap.size,0,none⟩) 0 0).ownBlock=some k) x2 x3:=(Fr.refl _ x2).grown hgr (fun k hk=>.inl hk)
    have OP:=hid_ (show x3.ownsRow w8.heap.size 48 2 (.slice A8 d.refs.length c8) d.refs.length (rfFlat d.refs) by simpa using hown)
    have FN:Hid (Fr none_ w8 x3):=hid_ (FF.out.trans fq (fun _ _ e=>e) (fun k hk e=>absurd ((OE.out.lt k e).1) (by omega)))
    simp only [Nat.zero_add]
    refine ⟨.inr FN.out,?_⟩
    try go_frame
    replace FF:=hid_ FN.out
    replace ON:=hid_ (reads_off12 ON.out fq (fun ad had e=>by have h1:ad.block=we.heap.size:=(by rw [← Option.some.inj had]);have h2:x1.heap.size=ad.block:=(by simpa [Value.ownBlock] using e);have h3:=LT1.out;omega))
    clear FN hown hgr fq
    refine u_one 6 rfl (by kernel_rfl) (by kernel_rfl) ?_
    refine wp_append_any _ (.tmp 179) (.tmp 181) 66 rfl w8.heap.size 48 j0 _ 2 16 Tryz.underlying66 Hj.out.1 Hj.out.2.1 Hj.out.2.2.1 Hj.out.2.2.2 rfl (by omega) (.slice A8 d.refs.length c8) d.refs.length (rfFlat d.refs) rfl OP.out (some ⟨we.heap.size,0,none⟩) 1 1 [.int .i64 sl,.int .i64 gn] rfl ON.out (by simp [Value.oneCell']) (by simp only [maxLen];omega) (by omega) (by have:=FF.out.size;omega) ?_
    intro A9 c9 x4 hown hgr
    have FN:Hid (Fr none_ w8 x4):=hid_ (FF.out.grown hgr (fun k hk=>.inr (OP.out.lt k hk).1))
    have OQ:=hid_ hown
    clear hown hgr
    refine ⟨.inr FN.out,?_⟩
    try go_frame
    have hSz:(fun w':World=>Fr none_ w8 w') x4:=FN.out
    refine u_tk 7 (some 183) (.pointer (some ⟨gi,27,none⟩)) rfl rfl (y_vl (fun w' hS=>by kernel_rfl)) hSz ?_
    go_frame
    clear hSz
    have BJ:=hid_ (BI.out.fr FN.out id)
    have v27:x4.cell? ⟨gi,27,none⟩=some (.slice y.rA d.refs.length y.rc):=BJ.out.cell' rfl
    have u27:=BJ.out.frozen 27
    refine u_one 8 rfl (by kernel_rfl) (by kernel_rfl) ?_
    go_simp
    refine u_done (by kernel_rfl) ?_
    clear v27 u27
    obtain ⟨wf,hw_⟩:∃ z,z=x4.setCell ⟨gi,27,none⟩ (.slice A9 (d.refs.length+1) c9):=⟨_,rfl⟩
    have K9:Hid (Blk wf gi 68 (riA J q ({ d with refs:=d.refs ++ [(sl,gn)] }) ⟨y.pA,y.pc,A9,c9⟩)∧Fr (only gi) x4 wf):=hid_ (by rw [hw_];exact ⟨by show Blk _ _ _ #[.int .i64 J.page,.int .i64 J.os,.int .i64 J.og,.int .i64 J.news,.slice q.A q.Cs.length q.c,.int .i64 J.head.kind,.string J.head.low,.string J.head.high,.bool J.head.unb,.int .i64 J.head.right,.slice q.Ah J.head.rows.length q.ch,.slice q.Eh J.head.ents.length q.dh,.string J.head.key,.string J.head.val,.int .i64 J.head.page,.int .i64 J.head.hpage,.int .i64 J.head.hleft,.string J.head.hkey,.int .i64 J.head.nslot,.int .i64 J.head.ngen,.int .i64 J.fresh,.bool false,.bool d.back,.bool d.over,.bool d.done,.int .i64 d.err,.slice y.pA d.pages.length y.pc,.slice A9 (d.refs ++ [(sl,gn)]).length c9,.int .i64 d.links];rw [show (d.refs ++ [(sl,gn)]).length=d.refs.length+1 by simp];exact BJ.out.set_ 27 _,Fr.only1 x4 ⟨gi,27,none⟩ _⟩)
    have O9:=hid_ (own_fr OQ.out K9.out.2 (fun k hk e=>own_blk_ne OQ.out BJ.out (by decide) (by rw [hk,show k=gi from e])))
    rw [← hw_]
    clear hw_
    go_wp2
    go_meet
    case rel=>exact ⟨A9,c9,rfl,O9.out,K9.out.1,(FN.out.mono (fun _ _ e=>e.elim)).then_only K9.out.2 (.inl rfl)⟩
  case rest =>
   obtain ⟨A9,c9,rfl,ho9,hb9,hf9⟩:=hcut
   replace BM:=hid_ (BM.out.fr hf9 (only_ne (by omega)))
   replace B4:=hid_ (B4.out.fr hf9 (only_ne (by omega)))
   replace B5:=hid_ (B5.out.fr hf9 (only_ne (by omega)))
   have HQ9:=hid_ ho9
   replace BI:=hid_ hb9
   replace G0:=hid_ (G0.out.then_only hf9 (.inl ⟨by omega,by omega⟩))
   have HWW:=hid_ (Nat.le_trans F0.out.size (Nat.le_refl _))
   replace F0:=hid_ (F0.out.then_only hf9 (.inr (by have:=GI.out;omega)))
   clear ho9 hb9 hf9
   have HLN:Hid ((d.refs ++ [(sl,gn)]).length=d.refs.length+1):=hid_ (by simp)
   have DI:=hid_ BI.out
   have DM:=hid_ BM.out
   have D4:=hid_ B4.out
   have D5:=hid_ B5.out
   have HF9:=hid_ (Fr.refl (inb gi) wc)
   go_upto_region 31 with fail
   have hS0:(fun w':World=>Blk w' gi 68 (riA J q ({ d with refs:=d.refs ++ [(sl,gn)] }) ⟨y.pA,y.pc,A9,c9⟩)∧Blk w' (gi+1) 43 (dmA l l.s l.n (.slice A2 LP'.length c2) l.p (.slice T L.length tc) cn cl (.slice CA cm cc) (kk+1))) wc.drew:=⟨BI.out.drew,BM.out.drew⟩
   refine wp_region_u 4 (fun w':World=>Blk w' gi 68 (riA J q ({ d with refs:=d.refs ++ [(sl,gn)] }) ⟨y.pA,y.pc,A9,c9⟩)∧Blk w' (gi+1) 43 (dmA l l.s l.n (.slice A2 LP'.length c2) l.p (.slice T L.length tc) cn cl (.slice CA cm cc) (kk+1))) (by kernel_rfl) ?_
   refine u_take 0 (some 184) (.agg (riA J q ({ d with refs:=d.refs ++ [(sl,gn)] }) ⟨y.pA,y.pc,A9,c9⟩)) rfl rfl (by kernel_rfl) (by kernel_rfl) (by kernel_rfl) (by kernel_rfl) (fun _ _ _ h=>h) (yieldsIf_load_mid (by kernel_rfl) 68 (.tmp 2) rfl gi 0 (by kernel_rfl) (riA J q ({ d with refs:=d.refs ++ [(sl,gn)] }) ⟨y.pA,y.pc,A9,c9⟩).toList _ (fun w' hS=>Blk.range7 (l:=(riA J q ({ d with refs:=d.refs ++ [(sl,gn)] }) ⟨y.pA,y.pc,A9,c9⟩).toList) hS.1) Tryz.underlying68 rfl ri_size) hS0 ?_
   go_frame
   refine u_take 1 (some 185) (.agg (dmA l l.s l.n (.slice A2 LP'.length c2) l.p (.slice T L.length tc) cn cl (.slice CA cm cc) (kk+1))) rfl rfl (by kernel_rfl) (by kernel_rfl) (by kernel_rfl) (by kernel_rfl) (fun _ _ _ h=>h) (yieldsIf_load_mid (by kernel_rfl) 43 (.tmp 3) rfl (gi+1) 0 (by kernel_rfl) (dmA l l.s l.n (.slice A2 LP'.length c2) l.p (.slice T L.length tc) cn cl (.slice CA cm cc) (kk+1)).toList _ (fun w' hS=>Blk.range7 (l:=(dmA l l.s l.n (.slice A2 LP'.length c2) l.p (.slice T L.length tc) cn cl (.slice CA cm cc) (kk+1)).toList) hS.2) Tryz.underlying43 rfl dm_size) hS0 ?_
   go_frame
   clear hS0
   refine u_store 2 68 (.tmp 4) (.tmp 184) (gi+1+1) 0 (riA J q ({ d with refs:=d.refs ++ [(sl,gn)] }) ⟨y.pA,y.pc,A9,c9⟩) rfl rfl (by kernel_rfl) (by kernel_rfl) rfl (by kernel_rfl) (by kernel_rfl) (B4.out.drew.there7 rfl) ri_size (by simp [Value.oneCell']) ?_
   intro wx hwx
   have ov:=B4.out.drew.over7 (riA J q ({ d with refs:=d.refs ++ [(sl,gn)] }) ⟨y.pA,y.pc,A9,c9⟩).toList rfl
   rw [← hwx] at ov
   have K_:=hid_ ov
   clear hwx ov
   replace BI:=hid_ (BI.out.drew.fr K_.out.2 (only_ne (by omega)))
   replace BM:=hid_ (BM.out.drew.fr K_.out.2 (only_ne (by omega)))
   replace B5:=hid_ (B5.out.drew.fr K_.out.2 (only_ne (by omega)))
   replace B4:=hid_ K_.out.1
   replace G0:=hid_ (G0.out.drew.then_only K_.out.2 (.inl ⟨by omega,by omega⟩))
   replace HF9:=hid_ (HF9.out.drew.then_only K_.out.2 (.inl ⟨by omega,by omega⟩))
   replace F0:=hid_ (F0.out.drew.then_only K_.out.2 (.inr (by have:=GI.out;omega)))
   clear K_
   refine ⟨⟨BI.out,BM.out⟩,?_⟩
   try go_frame
   refine u_store 3 43 (.tmp 5) (.tmp 185) (gi+1+1+1) 0 (dmA l l.s l.n (.slice A2 LP'.length c2) l.p (.slice T L.length tc) cn cl (.slice CA cm cc) (kk+1)) rfl rfl (by kernel_rfl) (by kernel_rfl) rfl (by kernel_rfl) (by kernel_rfl) (B5.out.there7 rfl) dm_size (by simp [Value.oneCell']) ?_
   intro wz hwz
   have ov:=B5.out.over7 (dmA l l.s l.n (.slice A2 LP'.length c2) l.p (.slice T L.length tc) cn cl (.slice CA cm cc) (kk+1)).toList rfl
   rw [← hwz] at ov
   have K_:=hid_ ov
   clear hwz ov
   replace BI:=hid_ (BI.out.fr K_.out.2 (only_ne (by omega)))
   replace BM:=hid_ (BM.out.fr K_.out.2 (only_ne (by omega)))
   replace B4:=hid_ (B4.out.fr K_.out.2 (only_ne (by omega)))
   replace B5:=hid_ K_.out.1
   replace G0:=hid_ (G0.out.then_only K_.out.2 (.inl ⟨by omega,by omega⟩))
   replace HF9:=hid_ (HF9.out.then_only K_.out.2 (.inl ⟨by omega,by omega⟩))
   replace F0:=hid_ (F0.out.then_only K_.out.2 (.inr (by have:=GI.out;omega)))
   clear K_
   refine ⟨⟨BI.out,BM.out⟩,?_⟩
   refine u_done (by kernel_rfl) ?_
   go_wp2_with fail
   refine bodyPost_ret (results_cell_cell7 _ _ rfl (gi+1+1) 0 (riA J q ({ d with refs:=d.refs ++ [(sl,gn)] }) ⟨y.pA,y.pc,A9,c9⟩).toList _ rfl (Blk.range7 (l:=(riA J q ({ d with refs:=d.refs ++ [(sl,gn)] }) ⟨y.pA,y.pc,A9,c9⟩).toList) B4.out) Tryz.underlying68 rfl ri_size (gi+1+1+1) 0 (dmA l l.s l.n (.slice A2 LP'.length c2) l.p (.slice T L.length tc) cn cl (.slice CA cm cc) (kk+1)).toList _ rfl (Blk.range7 (l:=(dmA l l.s l.n (.slice A2 LP'.length c2) l.p (.slice T L.length tc) cn cl (.slice CA cm cc) (kk+1)).toList) B5.out) Tryz.underlying43 rfl dm_size) rfl ⟨LP',A2,c2,⟨y.pA,y.pc,A9,c9⟩,by rw [HZ2.out],(H3.out.1.far12 (w:=w) (fun q hq=>by
    rcases H5.out.2.2 q hq with hq | ⟨e1,e2,e3⟩
    ·exact HRA.out.recs q hq
    ·rw [e1,e2,e3];exact HRDW.out.keep HWF.out) (fun hn ad had hi=>by
    have h1:=hi.1
    have h2:=hi.2
    rcases H5.out.2.1 with ⟨e,e0⟩ | e
    ·have h0:0 < LP.length:=by omega
     have:=ra_low HRA.out h0 ad (e ▸ had);have:=GI.out;omega
    ·have:=e ad had;omega) (fun b e=>by rw [← GI.out];exact e.1) G0.out),H3.out.2,H5.out.1,H5.out.2.1.imp (fun h=>⟨h.1,Nat.le_of_eq h.2⟩) (fun h ad e=>Nat.le_trans HF1.out (h ad e)),(fun q hq=>by
    rcases H5.out.2.2 q hq with hq | ⟨e1,e2,e3⟩
    ·exact HR0.out q hq
    ·rw [e1,e2,e3];exact HRDW.out),(by rw [HZ2.out];exact ⟨(HZ.out.keep F0.out).p,HZ.out.pm,by rw [HLN.out,rfFlat_snoc12];exact Reads.of_own (own_inb12 HQ9.out HF9.out DI.out DM.out D4.out D5.out (by decide) (by decide)),by rw [HLN.out];exact own_caps12 HQ9.out,HZ.out.lp,by show (d.refs ++ [(sl,gn)]).length≤5;rw [HLN.out];have:=HL4.out;omega⟩),.inr (fun ad had=>Nat.le_trans HW8.out (own_new12 HQ9.out ad had)),rfl,rfl,F0.out⟩
 ·have hZ:putZ d sl gn c=backZ d c:=if_neg hc0
  have HZ2:=hid_ hZ
  have hne:(c != 0)=true:=by simpa using hc0
  clear hZ
  go_upto_region 29 with fail
  clear hne
  have hS0:(fun w':World=>Blk w' gi 68 (riA J q d y)∧Blk w' (gi+1) 43 (dmA l l.s l.n (.slice A2 LP'.length c2) l.p (.slice T L.length tc) cn cl (.slice CA cm cc) (kk+1))) w8.drew:=⟨BI.out.drew,BM.out.drew⟩
  refine wp_region_u 6 (fun w':World=>Blk w' gi 68 (riA J q d y)∧Blk w' (gi+1) 43 (dmA l l.s l.n (.slice A2 LP'.length c2) l.p (.slice T L.length tc) cn cl (.slice CA cm cc) (kk+1))) (by kernel_rfl) ?_
  refine u_take 0 (some 172) (.agg (riA J q d y)) rfl rfl (by kernel_rfl) (by kernel_rfl) (by kernel_rfl) (by kernel_rfl) (fun _ _ _ h=>h) (yieldsIf_load_mid (by kernel_rfl) 68 (.tmp 2) rfl gi 0 (by kernel_rfl) (riA J q d y).toList _ (fun w' hS=>Blk.range7 (l:=(riA J q d y).toList) hS.1) Tryz.underlying68 rfl ri_size) hS0 ?_
  go_frame
  refine u_tk 1 (some 173) (.int .i64 c) rfl rfl (y_vl (fun w' hS=>by kernel_rfl)) hS0 ?_
  go_frame
  refine u_take 3 (some 175) (.agg (dmA l l.s l.n (.slice A2 LP'.length c2) l.p (.slice T L.length tc) cn cl (.slice CA cm cc) (kk+1))) rfl rfl (by kernel_rfl) (by kernel_rfl) (by kernel_rfl) (by kernel_rfl) (fun _ _ _ h=>h) (yieldsIf_load_mid (by kernel_rfl) 43 (.tmp 3) rfl (gi+1) 0 (by kernel_rfl) (dmA l l.s l.n (.slice A2 LP'.length c2) l.p (.slice T L.length tc) cn cl (.slice CA cm cc) (kk+1)).toList _ (fun w' hS=>Blk.range7 (l:=(dmA l l.s l.n (.slice A2 LP'.length c2) l.p (.slice T L.length tc) cn cl (.slice CA cm cc) (kk+1)).toList) hS.2) Tryz.underlying43 rfl dm_size) hS0 ?_
  go_frame
  clear hS0
  refine u_call 2 (some 174) 45 #[.agg (riA J q d y),.int .i64 c] (.agg (riA J q (backZ d c) y)) (fun w'=>Fr none_ w8.drew w') rfl rfl (by kernel_rfl) (by kernel_rfl) (by kernel_rfl) (rback12 c HL5.out.1 HL5.out.2) ?_
  intro wb hwb
  replace BI:=hid_ (BI.out.drew.fr hwb id)
  replace BM:=hid_ (BM.out.drew.fr hwb id)
  replace B4:=hid_ (B4.out.drew.fr hwb id)
  replace B5:=hid_ (B5.out.drew.fr hwb id)
  replace F0:=hid_ (F0.out.drew.then_none hwb)
  replace G0:=hid_ (G0.out.drew.then_none hwb)
  clear hwb
  refine ⟨⟨BI.out,BM.out⟩,?_⟩
  try go_frame
  refine u_store 4 68 (.tmp 4) (.tmp 174) (gi+1+1) 0 (riA J q (backZ d c) y) rfl rfl (by kernel_rfl) (by kernel_rfl) rfl (by kernel_rfl) (by kernel_rfl) (B4.out.there7 rfl) ri_size (by simp [Value.oneCell']) ?_
  intro wx hwx
  have ov:=B4.out.over7 (riA J q (backZ d c) y).toList rfl
  rw [← hwx] at ov
  have K_:=hid_ ov
  clear hwx ov
  replace BI:=hid_ (BI.out.fr K_.out.2 (only_ne (by omega)))
  replace BM:=hid_ (BM.out.fr K_.out.2 (only_ne (by omega)))
  replace B5:=hid_ (B5.out.fr K_.out.2 (only_ne (by omega)))
  replace B4:=hid_ K_.out.1
  replace G0:=hid_ (G0.out.then_only K_.out.2 (.inl ⟨by omega,by omega⟩))
  replace F0:=hid_ (F0.out.then_only K_.out.2 (.inr (by have:=GI.out;omega)))
  clear K_
  refine ⟨⟨BI.out,BM.out⟩,?_⟩
  try go_frame
  refine u_store 5 43 (.tmp 5) (.tmp 175) (gi+1+1+1) 0 (dmA l l.s l.n (.slice A2 LP'.length c2) l.p (.slice T L.length tc) cn cl (.slice CA cm cc) (kk+1)) rfl rfl (by kernel_rfl) (by kernel_rfl) rfl (by kernel_rfl) (by kernel_rfl) (B5.out.there7 rfl) dm_size (by simp [Value.oneCell']) ?_
  intro wz hwz
  have ov:=B5.out.over7 (dmA l l.s l.n (.slice A2 LP'.length c2) l.p (.slice T L.length tc) cn cl (.slice CA cm cc) (kk+1)).toList rfl
  rw [← hwz] at ov
  have K_:=hid_ ov
  clear hwz ov
  replace BI:=hid_ (BI.out.fr K_.out.2 (only_ne (by omega)))
  replace BM:=hid_ (BM.out.fr K_.out.2 (only_ne (by omega)))
  replace B4:=hid_ (B4.out.fr K_.out.2 (only_ne (by omega)))
  replace B5:=hid_ K_.out.1
  replace G0:=hid_ (G0.out.then_only K_.out.2 (.inl ⟨by omega,by omega⟩))
  replace F0:=hid_ (F0.out.then_only K_.out.2 (.inr (by have:=GI.out;omega)))
  clear K_
  refine ⟨⟨BI.out,BM.out⟩,?_⟩
  refine u_done (by kernel_rfl) ?_
  go_wp2_with fail
  refine bodyPost_ret (results_cell_cell7 _ _ rfl (gi+1+1) 0 (riA J q (backZ d c) y).toList _ rfl (Blk.range7 (l:=(riA J q (backZ d c) y).toList) B4.out) Tryz.underlying68 rfl ri_size (gi+1+1+1) 0 (dmA l l.s l.n (.slice A2 LP'.length c2) l.p (.slice T L.length tc) cn cl (.slice CA cm cc) (kk+1)).toList _ rfl (Blk.range7 (l:=(dmA l l.s l.n (.slice A2 LP'.length c2) l.p (.slice T L.length tc) cn cl (.slice CA cm cc) (kk+1)).toList) B5.out) Tryz.underlying43 rfl dm_size) rfl ⟨LP',A2,c2,y,by rw [HZ2.out],(H3.out.1.far12 (w:=w) (fun q hq=>by
   rcases H5.out.2.2 q hq with hq | ⟨e1,e2,e3⟩
   ·exact HRA.out.recs q hq
   ·rw [e1,e2,e3];exact HRDW.out.keep HWF.out) (fun hn ad had hi=>by
   have h1:=hi.1
   have h2:=hi.2
   rcases H5.out.2.1 with ⟨e,e0⟩ | e
   ·have h0:0 < LP.length:=by omega
    have:=ra_low HRA.out h0 ad (e ▸ had);have:=GI.out;omega
   ·have:=e ad had;omega) (fun b e=>by rw [← GI.out];exact e.1) G0.out),H3.out.2,H5.out.1,H5.out.2.1.imp (fun h=>⟨h.1,Nat.le_of_eq h.2⟩) (fun h ad e=>Nat.le_trans HF1.out (h ad e)),(fun q hq=>by
   rcases H5.out.2.2 q hq with hq | ⟨e1,e2,e3⟩
   ·exact HR0.out q hq
   ·rw [e1,e2,e3];exact HRDW.out),by rw [HZ2.out];exact ⟨(HZ.out.keep F0.out).p,HZ.out.pm,(HZ.out.keep F0.out).r,HZ.out.rm,HZ.out.lp,HZ.out.lr⟩,.inl ⟨rfl,by rw [HZ2.out];rfl⟩,rfl,rfl,F0.out⟩
end Go.Proofs.YthcpccddcgbanaaGreatDoor

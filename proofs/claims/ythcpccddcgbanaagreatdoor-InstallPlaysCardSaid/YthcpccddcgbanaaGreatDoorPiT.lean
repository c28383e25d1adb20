/- Texts of one proof, merged: Rcl12. -/
import Derived.Test.YthcpccddcgbanaaGreatDoorPiS
namespace Go.Proofs.YthcpccddcgbanaaGreatDoor
open Go.RowKit Go.BigFrame
set_option maxRecDepth 100000
set_option linter.unusedVariables false
theorem rec_sz12:(Tryz.prog.info? 55).map (·.size)=some 15:=by kernel_rfl
theorem job_sz12:(Tryz.prog.info? 57).map (·.size)=some 21:=by kernel_rfl
abbrev recN:Array Value:=recA Rc.zero (.slice none 0 0) (.slice none 0 0)
variable {J:Jd} {q:Jl} {d:Rz} {y:Rl} {w:World}
set_option maxHeartbeats 8000000 in
theorem rback12 (e:Int) (hl:d.refs.length≤5) (hp:d.pages.length≤5):Calls Tryz.prog 45 #[.agg (riA J q d y),.int .i64 e] w fun e' w'=>e'=.returned (.agg (riA J q (backZ d e) y))∧Fr none_ w w':=by
 obtain ⟨w0,hw0⟩:∃ z,z=(w.alloc (.cells (riA J q d y) 68)).alloc (.cells riZ 68):=⟨_,rfl⟩
 have f0:Fr none_ w w0:=by rw [hw0];exact ((Fr.refl none_ w).alloc _).alloc _
 have BI:Hid (Blk w0 w.heap.size 68 (riA J q d y)):=hid_ (by rw [hw0];exact (Blk.new w _ _).alloc _)
 have B4:Hid (Blk w0 (w.heap.size+1) 68 riZ):=hid_ (by rw [hw0];exact Blk.new_at4 _ _ (by simp))
 have F0:=hid_ f0
 clear f0
 go_enter Tryz.func45,Tryz.ntmps45
 go_upto_region 1 with fail
 change Code.wp _ _ _ _ ((w.alloc (.cells (riA J q d y) 68)).alloc (.cells riZ 68))
 rw [← hw0]
 clear hw0
 obtain ⟨gi,hgi⟩:∃ g,g=w.heap.size:=⟨_,rfl⟩
 rw [← hgi] at BI B4
 rw [← hgi]
 have GI:=hid_ hgi
 clear hgi
 have i22:w0.cell? ⟨gi,22,none⟩=some (.bool d.back):=BI.out.cell' rfl
 have y22:=BI.out.frozen 22
 have i23:w0.cell? ⟨gi,23,none⟩=some (.bool d.over):=BI.out.cell' rfl
 have y23:=BI.out.frozen 23
 have i25:w0.cell? ⟨gi,25,none⟩=some (.int .i64 d.err):=BI.out.cell' rfl
 have y25:=BI.out.frozen 25
 have i26:w0.cell? ⟨gi,26,none⟩=some (.slice y.pA d.pages.length y.pc):=BI.out.cell' rfl
 have i27:w0.cell? ⟨gi,27,none⟩=some (.slice y.rA d.refs.length y.rc):=BI.out.cell' rfl
 have hwr:IntKind.i64.wrap ((d.refs.length:Int)+(d.pages.length:Int))=(d.refs.length:Int)+(d.pages.length:Int):=IntWalk.i64_in _ (by omega)
 go_upto_region 4 with fail
 obtain ⟨w1,hw1⟩:∃ z,z=((w0.setCell ⟨gi,22,none⟩ (.bool true)).setCell ⟨gi,25,none⟩ (.int .i64 e)).setCell ⟨gi,23,none⟩ (.bool ((d.refs.length:Int)+(d.pages.length:Int)==0)):=⟨_,rfl⟩
 have K1:Hid (Blk w1 gi 68 (riA J q (backZ d e) y)∧Fr (only gi) w0 w1):=hid_ (by rw [hw1];exact ⟨((BI.out.set_ 22 (.bool true)).set_ 25 (.int .i64 e)).set_ 23 _,(((Fr.refl (only gi) w0).setCell (p:=⟨gi,22,none⟩) (.inl rfl) _).setCell (p:=⟨gi,25,none⟩) (.inl rfl) _).setCell (p:=⟨gi,23,none⟩) (.inl rfl) _⟩)
 change Code.wp _ _ _ _ (((w0.setCell ⟨gi,22,none⟩ (.bool true)).setCell ⟨gi,25,none⟩ (.int .i64 e)).setCell ⟨gi,23,none⟩ (.bool ((d.refs.length:Int)+(d.pages.length:Int)==0)))
 rw [← hw1]
 clear hw1 i22 y22 i23 y23 i25 y25 i26 i27
 replace BI:=hid_ K1.out.1
 replace B4:=hid_ (B4.out.fr K1.out.2 (only_ne (by omega)))
 replace F0:=hid_ (F0.out.then_only K1.out.2 (.inr (by have:=GI.out;omega)))
 clear K1
 go_wp2_with (first | (refine wpList_load_mid rfl 68 (.tmp 2) rfl gi 0 rfl (riA J q (backZ d e) y).toList _ (Blk.range7 (l:=(riA J q (backZ d e) y).toList) BI.out) Tryz.underlying68 rfl ri_size ?_) | (refine wpList_store_mid rfl 68 (.tmp 4) (.tmp 17) rfl (gi+1) 0 (riA J q (backZ d e) y) rfl rfl (B4.out.there7 rfl) ri_size (by simp [Value.oneCell']) ?_;obtain ⟨w2,hw2⟩:∃ z,z=w1.setCells (gi+1) 0 (riA J q (backZ d e) y).toList:=⟨_,rfl⟩;have ov:=B4.out.over7 (riA J q (backZ d e) y).toList rfl;rw [← hw2] at ov;change wpList _ _ _ _ _ (w1.setCells (gi+1) 0 (riA J q (backZ d e) y).toList);rw [← hw2];have K2:=hid_ ov;clear hw2 ov))
 exact bodyPost_ret (results_cell7 _ _ rfl (gi+1) 0 (riA J q (backZ d e) y).toList _ rfl (Blk.range7 (l:=(riA J q (backZ d e) y).toList) K2.out.1) Tryz.underlying68 rfl ri_size) rfl ⟨rfl,F0.out.then_only K2.out.2 (.inr (by have:=GI.out;omega))⟩
def hdA (J:Jd) (q:Jl) (ps:List Int):Array Value:=recA (jhead J ps) (.slice q.Ah (jhead J ps).rows.length q.ch) (.slice q.Eh (jhead J ps).ents.length q.dh)
theorem jhead_rows (J:Jd) (ps:List Int):(jhead J ps).rows=J.head.rows∧(jhead J ps).ents=J.head.ents:=by unfold jhead;split <;> exact ⟨rfl,rfl⟩
set_option maxHeartbeats 8000000 in
theorem rhead12 (hp:RiIn w d y):Calls Tryz.prog 46 #[.agg (riA J q d y)] w fun e' w'=>e'=.returned (.agg (hdA J q d.pages))∧Fr none_ w w':=by
 obtain ⟨w0,hw0⟩:∃ z,z=(w.alloc (.cells (riA J q d y) 68)).alloc (.cells recN 55):=⟨_,rfl⟩
 have f0:Fr none_ w w0:=by rw [hw0];exact ((Fr.refl none_ w).alloc _).alloc _
 have BI:Hid (Blk w0 w.heap.size 68 (riA J q d y)):=hid_ (by rw [hw0];exact (Blk.new w _ _).alloc _)
 have B4:Hid (Blk w0 (w.heap.size+1) 55 recN):=hid_ (by rw [hw0];exact Blk.new_at4 _ _ (by simp))
 have F0:=hid_ f0
 have HP:=hid_ (hp.keep f0)
 have h5:=hp.lp
 clear f0 hp
 go_enter Tryz.func46,Tryz.ntmps46
 go_upto_region 1 with fail
 change Code.wp _ _ _ _ ((w.alloc (.cells (riA J q d y) 68)).alloc (.cells recN 55))
 rw [← hw0]
 clear hw0
 obtain ⟨gi,hgi⟩:∃ g,g=w.heap.size:=⟨_,rfl⟩
 rw [← hgi] at BI B4
 rw [← hgi]
 have GI:=hid_ hgi
 clear hgi
 obtain ⟨h0,hh0⟩:∃ z,z=recA J.head (.slice q.Ah J.head.rows.length q.ch) (.slice q.Eh J.head.ents.length q.dh):=⟨_,rfl⟩
 go_upto_region 2 with (first | (refine wpList_load_mid rfl 55 (.tmp 5) rfl gi 5 rfl (recA J.head (.slice q.Ah J.head.rows.length q.ch) (.slice q.Eh J.head.ents.length q.dh)).toList _ (BI.out.rangeN (fun j v hv=>by match j,hv with | 0,hv=>exact hv | 1,hv=>exact hv | 2,hv=>exact hv | 3,hv=>exact hv | 4,hv=>exact hv | 5,hv=>exact hv | 6,hv=>exact hv | 7,hv=>exact hv | 8,hv=>exact hv | 9,hv=>exact hv | 10,hv=>exact hv | 11,hv=>exact hv | 12,hv=>exact hv | 13,hv=>exact hv | 14,hv=>exact hv | n+15,hv=>simp at hv)) Tryz.underlying55 rfl rec_sz12 ?_) | (refine wpList_store_mid rfl 55 (.tmp 3) (.tmp 6) rfl w0.heap.size 0 (recA J.head (.slice q.Ah J.head.rows.length q.ch) (.slice q.Eh J.head.ents.length q.dh)) rfl rfl (new_there w0 _ recN) rec_sz12 (by simp [Value.oneCell']) ?_;obtain ⟨w1,hw1⟩:∃ z,z=(w0.alloc (.cells recN 55)).setCells w0.heap.size 0 (recA J.head (.slice q.Ah J.head.rows.length q.ch) (.slice q.Eh J.head.ents.length q.dh)).toList:=⟨_,rfl⟩;change wpList _ _ _ _ _ ((w0.alloc (.cells recN 55)).setCells w0.heap.size 0 (recA J.head (.slice q.Ah J.head.rows.length q.ch) (.slice q.Eh J.head.ents.length q.dh)).toList);rw [← hw1];have K1:Hid (Blk w1 w0.heap.size 55 (recA J.head (.slice q.Ah J.head.rows.length q.ch) (.slice q.Eh J.head.ents.length q.dh))∧Fr none_ w0 w1):=hid_ (by rw [hw1];exact new_copy w0 _ recN _ rfl);clear hw1))
 clear hh0 h0
 obtain ⟨gr,hgr⟩:∃ g,g=w0.heap.size:=⟨_,rfl⟩
 have BR:=hid_ K1.out.1
 rw [← hgr] at BR
 rw [← hgr]
 have h14:=B4.out.lt
 have GR:Hid (gr≠gi∧gr≠gi+1∧w.heap.size≤gr):=hid_ (by have:=GI.out;omega)
 clear hgr h14
 replace BI:=hid_ (BI.out.fr K1.out.2 id)
 replace B4:=hid_ (B4.out.fr K1.out.2 id)
 replace F0:=hid_ (F0.out.then_none K1.out.2)
 replace HP:=hid_ (HP.out.keep K1.out.2)
 clear K1
 have i20:w1.cell? ⟨gi,20,none⟩=some (.int .i64 J.fresh):=BI.out.cell' rfl
 have i26:w1.cell? ⟨gi,26,none⟩=some (.slice y.pA d.pages.length y.pc):=BI.out.cell' rfl
 by_cases hf:1≤J.fresh∧J.fresh≤(d.pages.length:Int)
 ·obtain ⟨f1,f2⟩:=hf
  obtain ⟨k,hk⟩:∃ k:Nat,J.fresh=(k:Int)+1:=⟨J.fresh.toNat - 1,by omega⟩
  obtain ⟨p,hp⟩:∃ p,d.pages[k]?=some p:=⟨_,List.getElem?_eq_getElem (by omega)⟩
  have hj:jhead J d.pages={ J.head with page:=p }:=by
   unfold jhead
   rw [if_pos ⟨f1,f2⟩,hk,show ((k:Int)+1).toNat - 1=k by omega,hp]
   rfl
  obtain ⟨b,off,hA,hb,hc⟩:=reads_lit HP.out.p (by omega) (by omega)
  have cp:=hc k (.int .i64 p) (by simp [intF,hp])
  rw [hA] at i26
  have r9:w1.cell? ⟨gr,9,none⟩=some (.int .i64 J.head.page):=BR.out.cell' rfl
  have z9:=BR.out.frozen 9
  rw [hk] at i20 f1 f2
  have d1:decide ((k:Int)+1 ≥ 1)=true:=decide_eq_true (by omega)
  have d2:decide ((k:Int)+1≤(d.pages.length:Int))=true:=decide_eq_true f2
  have hwr:IntKind.i64.wrap ((k:Int)+1 - 1)=(k:Int):=by rw [show (k:Int)+1 - 1=(k:Int) by omega];exact IntWalk.i64_in _ (by omega)
  have k0:(0:Int)≤(k:Int):=Int.natCast_nonneg _
  have k1:(k:Int) < (d.pages.length:Int):=by omega
  have HJ:=hid_ hj
  have HK:=hid_ hk
  clear hj hk hc hp hA
  go_upto_region 4 with fail
  obtain ⟨w2,hw2⟩:∃ z,z=w1.setCell ⟨gr,9,none⟩ (.int .i64 p):=⟨_,rfl⟩
  have K2:Hid (Blk w2 gr 55 (hdA J q d.pages)∧Fr (only gr) w1 w2):=hid_ (by rw [hw2];exact ⟨by unfold hdA;rw [HJ.out];exact BR.out.set_ 9 _,Fr.only1 w1 ⟨gr,9,none⟩ _⟩)
  change Code.wp _ _ _ _ (w1.setCell ⟨gr,9,none⟩ (.int .i64 p))
  rw [← hw2]
  clear hw2 i20 i26 r9 z9 cp
  replace BR:=hid_ K2.out.1
  replace B4:=hid_ (B4.out.fr K2.out.2 (only_ne (Ne.symm GR.out.2.1)))
  replace F0:=hid_ (F0.out.then_only K2.out.2 (.inr GR.out.2.2))
  clear K2
  obtain ⟨RV,hRV⟩:∃ z,z=hdA J q d.pages:=⟨_,rfl⟩
  have hrs:RV.size=15:=by rw [hRV];rfl
  have hro:RV.all (·.oneCell')=true:=by rw [hRV];simp [hdA,Value.oneCell']
  rw [← hRV] at BR
  have HRV:=hid_ hRV
  clear hRV
  go_wp2_with (first | (refine wpList_load_mid rfl 55 (.tmp 3) rfl gr 0 rfl RV.toList _ (Blk.range7 (l:=RV.toList) (by simpa using BR.out)) Tryz.underlying55 rfl (by rw [Array.length_toList,hrs];exact rec_sz12) ?_) | (refine wpList_store_mid rfl 55 (.tmp 2) (.tmp 29) rfl (gi+1) 0 RV rfl rfl (by rw [hrs];exact B4.out.there7 rfl) (by rw [hrs];exact rec_sz12) hro ?_;obtain ⟨w3,hw3⟩:∃ z,z=w2.setCells (gi+1) 0 RV.toList:=⟨_,rfl⟩;have ov:=B4.out.over7 RV.toList (by simp [hrs]);rw [← hw3] at ov;change wpList _ _ _ _ _ (w2.setCells (gi+1) 0 RV.toList);rw [← hw3];have K3:=hid_ ov;clear hw3 ov))
  refine bodyPost_ret (results_cell7 _ _ rfl (gi+1) 0 RV.toList _ rfl (Blk.range7 (l:=RV.toList) (by simpa using K3.out.1)) Tryz.underlying55 rfl (by rw [Array.length_toList,hrs];exact rec_sz12)) rfl ⟨by rw [← HRV.out],F0.out.then_only K3.out.2 (.inr (by have:=GI.out;omega))⟩
 ·have hj:hdA J q d.pages=recA J.head (.slice q.Ah J.head.rows.length q.ch) (.slice q.Eh J.head.ents.length q.dh):=by
   unfold hdA jhead
   rw [if_neg hf]
  have HJ:=hid_ hj
  have HF:=hid_ hf
  obtain ⟨RV,hRV⟩:∃ z,z=recA J.head (.slice q.Ah J.head.rows.length q.ch) (.slice q.Eh J.head.ents.length q.dh):=⟨_,rfl⟩
  have hrs:RV.size=15:=by rw [hRV];rfl
  have hro:RV.all (·.oneCell')=true:=by rw [hRV];simp [Value.oneCell']
  rw [← hRV] at BR hj
  have HRV:=hid_ hj
  clear hRV hj hf
  by_cases f1:1≤J.fresh
  ·have f2:¬ J.fresh≤(d.pages.length:Int):=fun h=>HF.out ⟨f1,h⟩
   have d1:decide (J.fresh ≥ 1)=true:=decide_eq_true f1
   have d2:decide (J.fresh≤(d.pages.length:Int))=false:=decide_eq_false f2
   go_wp2_with (first | (refine wpList_load_mid rfl 55 (.tmp 3) rfl gr 0 rfl RV.toList _ (Blk.range7 (l:=RV.toList) (by simpa using BR.out)) Tryz.underlying55 rfl (by rw [Array.length_toList,hrs];exact rec_sz12) ?_) | (refine wpList_store_mid rfl 55 (.tmp 2) (.tmp 29) rfl (gi+1) 0 RV rfl rfl (by rw [hrs];exact B4.out.there7 rfl) (by rw [hrs];exact rec_sz12) hro ?_;obtain ⟨w3,hw3⟩:∃ z,z=w1.setCells (gi+1) 0 RV.toList:=⟨_,rfl⟩;have ov:=B4.out.over7 RV.toList (by simp [hrs]);rw [← hw3] at ov;change wpList _ _ _ _ _ (w1.setCells (gi+1) 0 RV.toList);rw [← hw3];have K3:=hid_ ov;clear hw3 ov))
   refine bodyPost_ret (results_cell7 _ _ rfl (gi+1) 0 RV.toList _ rfl (Blk.range7 (l:=RV.toList) (by simpa using K3.out.1)) Tryz.underlying55 rfl (by rw [Array.length_toList,hrs];exact rec_sz12)) rfl ⟨by rw [← HRV.out],F0.out.then_only K3.out.2 (.inr (by have:=GI.out;omega))⟩
  ·have d1:decide (J.fresh ≥ 1)=false:=decide_eq_false f1
   go_wp2_with (first | (refine wpList_load_mid rfl 55 (.tmp 3) rfl gr 0 rfl RV.toList _ (Blk.range7 (l:=RV.toList) (by simpa using BR.out)) Tryz.underlying55 rfl (by rw [Array.length_toList,hrs];exact rec_sz12) ?_) | (refine wpList_store_mid rfl 55 (.tmp 2) (.tmp 29) rfl (gi+1) 0 RV rfl rfl (by rw [hrs];exact B4.out.there7 rfl) (by rw [hrs];exact rec_sz12) hro ?_;obtain ⟨w3,hw3⟩:∃ z,z=w1.setCells (gi+1) 0 RV.toList:=⟨_,rfl⟩;have ov:=B4.out.over7 RV.toList (by simp [hrs]);rw [← hw3] at ov;change wpList _ _ _ _ _ (w1.setCells (gi+1) 0 RV.toList);rw [← hw3];have K3:=hid_ ov;clear hw3 ov))
   refine bodyPost_ret (results_cell7 _ _ rfl (gi+1) 0 RV.toList _ rfl (Blk.range7 (l:=RV.toList) (by simpa using K3.out.1)) Tryz.underlying55 rfl (by rw [Array.length_toList,hrs];exact rec_sz12)) rfl ⟨by rw [← HRV.out],F0.out.then_only K3.out.2 (.inr (by have:=GI.out;omega))⟩
def BasePost (J:Jd) (k:Nat) (W w:World) (e:Ending) (w':World):Prop:=
  ∃ (A B:Option Addr) (c d:Nat),e=.returned (.agg (recA (jbase J k) (.slice A (jbase J k).rows.length c) (.slice B (jbase J k).ents.length d)))∧RecReads W (jbase J k) A B∧((jbase J k).rows.length≤1000∧(jbase J k).ents.length≤1000)∧Fr none_ w w'
set_option maxHeartbeats 8000000 in
theorem rbase12 {W:World} (k:Nat) (hj:JobRd W J q) (hW:Fr none_ W w):Calls Tryz.prog 47 #[.agg (riA J q d y),.int .i64 k] w (BasePost J k W w):=by
 obtain ⟨w0,hw0⟩:∃ z,z=(w.alloc (.cells (riA J q d y) 68)).alloc (.cells recN 55):=⟨_,rfl⟩
 have f0:Fr none_ w w0:=by rw [hw0];exact ((Fr.refl none_ w).alloc _).alloc _
 have BI:Hid (Blk w0 w.heap.size 68 (riA J q d y)):=hid_ (by rw [hw0];exact (Blk.new w _ _).alloc _)
 have B4:Hid (Blk w0 (w.heap.size+1) 55 recN):=hid_ (by rw [hw0];exact Blk.new_at4 _ _ (by simp))
 have F0:=hid_ f0
 have HJ:=hid_ hj
 have hl6:=hj.l6
 have HWW:=hid_ hW
 clear f0 hj hW
 go_enter Tryz.func47,Tryz.ntmps47
 go_upto_region 1 with fail
 change Code.wp _ _ _ _ ((w.alloc (.cells (riA J q d y) 68)).alloc (.cells recN 55))
 rw [← hw0]
 clear hw0
 obtain ⟨gi,hgi⟩:∃ g,g=w.heap.size:=⟨_,rfl⟩
 rw [← hgi] at BI B4
 rw [← hgi]
 have GI:=hid_ hgi
 clear hgi
 go_upto_region 2 with (refine wpList_store_mid rfl 55 (.tmp 5) (.tmp 6) rfl w0.heap.size 0 recN rfl rfl (new_there w0 _ recN) rec_sz12 (by simp [Value.oneCell']) ?_;obtain ⟨w1,hw1⟩:∃ z,z=(w0.alloc (.cells recN 55)).setCells w0.heap.size 0 recN.toList:=⟨_,rfl⟩;change wpList _ _ _ _ _ ((w0.alloc (.cells recN 55)).setCells w0.heap.size 0 recN.toList);rw [← hw1];have K1:Hid (Blk w1 w0.heap.size 55 recN∧Fr none_ w0 w1):=hid_ (by rw [hw1];exact new_copy w0 _ recN _ rfl);clear hw1)
 obtain ⟨gr,hgr⟩:∃ g,g=w0.heap.size:=⟨_,rfl⟩
 have BR:=hid_ K1.out.1
 rw [← hgr] at BR
 rw [← hgr]
 have h14:=B4.out.lt
 have GR:Hid (gr≠gi∧gr≠gi+1∧w.heap.size≤gr):=hid_ (by have:=GI.out;omega)
 clear hgr h14
 replace BI:=hid_ (BI.out.fr K1.out.2 id)
 replace B4:=hid_ (B4.out.fr K1.out.2 id)
 replace F0:=hid_ (F0.out.then_none K1.out.2)
 clear K1
 have i4:w1.cell? ⟨gi,4,none⟩=some (.slice q.A q.Cs.length q.c):=BI.out.cell' rfl
 have k0:(0:Int)≤(k:Int):=Int.natCast_nonneg _
 by_cases hlt:k < q.Cs.length
 ·obtain ⟨C,hC⟩:∃ C,q.Cs[k]?=some C:=⟨_,List.getElem?_eq_getElem hlt⟩
  have hjb:jbase J k=noNext C.R:=by
   unfold jbase
   rw [← HJ.out.cs,List.getElem?_map,hC]
   rfl
  obtain ⟨b,off,hA,hb,hc⟩:=HJ.out.bs.r (by omega)
  have hrg:w1.rangeAt b (off+k * 15) (crA C).toList:=fun j v hv=>cellFr (hc k C hC j v hv) (HWW.out.then_none F0.out)
  have HRG:=hid_ hrg
  have HRD:=hid_ (HJ.out.bs.o C (List.mem_of_getElem? hC))
  have HRZ:=hid_ (HJ.out.bs.z C (List.mem_of_getElem? hC))
  have HJB:=hid_ hjb
  have k1:(k:Int) < (q.Cs.length:Int):=by omega
  rw [hA] at i4
  clear hlt hC hjb hA hb hc hrg
  go_upto_region 4 with (first | (refine wpList_load_mid rfl 55 (.tmp 17) rfl b (off+k * 15) rfl (crA C).toList _ HRG.out Tryz.underlying55 rfl rec_sz12 ?_) | (refine wpList_store_mid rfl 55 (.tmp 5) (.tmp 18) rfl gr 0 (crA C) rfl rfl (BR.out.there7 rfl) rec_sz12 (by simp [Value.oneCell']) ?_;obtain ⟨w2,hw2⟩:∃ z,z=w1.setCells gr 0 (crA C).toList:=⟨_,rfl⟩;have ov:=BR.out.over7 (crA C).toList rfl;rw [← hw2] at ov;change wpList _ _ _ _ _ (w1.setCells gr 0 (crA C).toList);rw [← hw2];have K2:=hid_ ov;clear hw2 ov))
  replace BR:=hid_ K2.out.1
  replace B4:=hid_ (B4.out.fr K2.out.2 (only_ne (Ne.symm GR.out.2.1)))
  replace F0:=hid_ (F0.out.then_only K2.out.2 (.inr GR.out.2.2))
  clear K2 i4
  have r13:w2.cell? ⟨gr,13,none⟩=some (.int .i64 C.R.nslot):=BR.out.cell' rfl
  have z13:=BR.out.frozen 13
  have r14:w2.cell? ⟨gr,14,none⟩=some (.int .i64 C.R.ngen):=BR.out.cell' rfl
  have z14:=BR.out.frozen 14
  go_upto_region 5 with fail
  obtain ⟨w3,hw3⟩:∃ z,z=(w2.setCell ⟨gr,13,none⟩ (.int .i64 0)).setCell ⟨gr,14,none⟩ (.int .i64 0):=⟨_,rfl⟩
  have K3:Hid (Blk w3 gr 55 (crA ⟨noNext C.R,C.A,C.c,C.B,C.d⟩)∧Fr (only gr) w2 w3):=hid_ (by rw [hw3];exact ⟨(BR.out.set_ 13 (.int .i64 0)).set_ 14 (.int .i64 0),((Fr.refl (only gr) w2).setCell (p:=⟨gr,13,none⟩) (.inl rfl) _).setCell (p:=⟨gr,14,none⟩) (.inl rfl) _⟩)
  change Code.wp _ _ _ _ ((w2.setCell ⟨gr,13,none⟩ (.int .i64 0)).setCell ⟨gr,14,none⟩ (.int .i64 0))
  rw [← hw3]
  clear hw3 r13 z13 r14 z14
  replace BR:=hid_ K3.out.1
  replace B4:=hid_ (B4.out.fr K3.out.2 (only_ne (Ne.symm GR.out.2.1)))
  replace F0:=hid_ (F0.out.then_only K3.out.2 (.inr GR.out.2.2))
  clear K3
  go_wp2_with (first | (refine wpList_load_mid rfl 55 (.tmp 5) rfl gr 0 rfl (crA ⟨noNext C.R,C.A,C.c,C.B,C.d⟩).toList _ (Blk.range7 (l:=(crA ⟨noNext C.R,C.A,C.c,C.B,C.d⟩).toList) BR.out) Tryz.underlying55 rfl rec_sz12 ?_) | (refine wpList_store_mid rfl 55 (.tmp 4) (.tmp 21) rfl (gi+1) 0 (crA ⟨noNext C.R,C.A,C.c,C.B,C.d⟩) rfl rfl (B4.out.there7 rfl) rec_sz12 (by simp [Value.oneCell']) ?_;obtain ⟨w4,hw4⟩:∃ z,z=w3.setCells (gi+1) 0 (crA ⟨noNext C.R,C.A,C.c,C.B,C.d⟩).toList:=⟨_,rfl⟩;have ov:=B4.out.over7 (crA ⟨noNext C.R,C.A,C.c,C.B,C.d⟩).toList rfl;rw [← hw4] at ov;change wpList _ _ _ _ _ (w3.setCells (gi+1) 0 (crA ⟨noNext C.R,C.A,C.c,C.B,C.d⟩).toList);rw [← hw4];have K4:=hid_ ov;clear hw4 ov))
  exact bodyPost_ret (results_cell7 _ _ rfl (gi+1) 0 (crA ⟨noNext C.R,C.A,C.c,C.B,C.d⟩).toList _ rfl (Blk.range7 (l:=(crA ⟨noNext C.R,C.A,C.c,C.B,C.d⟩).toList) K4.out.1) Tryz.underlying55 rfl rec_sz12) rfl ⟨C.A,C.B,C.c,C.d,by rw [HJB.out],by rw [HJB.out];exact ⟨HRD.out.1,HRD.out.2⟩,by rw [HJB.out];exact HRZ.out,F0.out.then_only K4.out.2 (.inr (by have:=GI.out;omega))⟩
 ·have hjb:jbase J k=Rc.zero:=by
   unfold jbase
   rw [← HJ.out.cs,List.getElem?_map,List.getElem?_eq_none (by omega)]
   rfl
  have HJB:=hid_ hjb
  have k1:¬ (k:Int) < (q.Cs.length:Int):=by omega
  clear hlt hjb
  have r13:w1.cell? ⟨gr,13,none⟩=some (.int .i64 0):=BR.out.cell' rfl
  have z13:=BR.out.frozen 13
  have r14:w1.cell? ⟨gr,14,none⟩=some (.int .i64 0):=BR.out.cell' rfl
  have z14:=BR.out.frozen 14
  go_upto_region 5 with fail
  obtain ⟨w3,hw3⟩:∃ z,z=(w1.setCell ⟨gr,13,none⟩ (.int .i64 0)).setCell ⟨gr,14,none⟩ (.int .i64 0):=⟨_,rfl⟩
  have K3:Hid (Blk w3 gr 55 recN∧Fr (only gr) w1 w3):=hid_ (by rw [hw3];exact ⟨(BR.out.set_ 13 (.int .i64 0)).set_ 14 (.int .i64 0),((Fr.refl (only gr) w1).setCell (p:=⟨gr,13,none⟩) (.inl rfl) _).setCell (p:=⟨gr,14,none⟩) (.inl rfl) _⟩)
  change Code.wp _ _ _ _ ((w1.setCell ⟨gr,13,none⟩ (.int .i64 0)).setCell ⟨gr,14,none⟩ (.int .i64 0))
  rw [← hw3]
  clear hw3 r13 z13 r14 z14
  replace BR:=hid_ K3.out.1
  replace B4:=hid_ (B4.out.fr K3.out.2 (only_ne (Ne.symm GR.out.2.1)))
  replace F0:=hid_ (F0.out.then_only K3.out.2 (.inr GR.out.2.2))
  clear K3
  go_wp2_with (first | (refine wpList_load_mid rfl 55 (.tmp 5) rfl gr 0 rfl recN.toList _ (Blk.range7 (l:=recN.toList) BR.out) Tryz.underlying55 rfl rec_sz12 ?_) | (refine wpList_store_mid rfl 55 (.tmp 4) (.tmp 21) rfl (gi+1) 0 recN rfl rfl (B4.out.there7 rfl) rec_sz12 (by simp [Value.oneCell']) ?_;obtain ⟨w4,hw4⟩:∃ z,z=w3.setCells (gi+1) 0 recN.toList:=⟨_,rfl⟩;have ov:=B4.out.over7 recN.toList rfl;rw [← hw4] at ov;change wpList _ _ _ _ _ (w3.setCells (gi+1) 0 recN.toList);rw [← hw4];have K4:=hid_ ov;clear hw4 ov))
  exact bodyPost_ret (results_cell7 _ _ rfl (gi+1) 0 recN.toList _ rfl (Blk.range7 (l:=recN.toList) K4.out.1) Tryz.underlying55 rfl rec_sz12) rfl ⟨none,none,0,0,by rw [HJB.out];rfl,by rw [HJB.out];exact ⟨Reads.nil_,Reads.nil_⟩,by rw [HJB.out];exact ⟨by decide,by decide⟩,F0.out.then_only K4.out.2 (.inr (by have:=GI.out;omega))⟩
set_option maxHeartbeats 8000000 in
theorem rbegin12:Calls Tryz.prog 10 #[.agg (jobB J q)] w fun e w'=>e=.returned (.agg (riA J q (if J.news < 0∨4 < J.news then { Rz.zero with over:=true,err:=1 } else Rz.zero) ⟨none,0,none,0⟩))∧Fr none_ w w':=by
 obtain ⟨w0,hw0⟩:∃ z,z=(w.alloc (.cells (jobB J q) 57)).alloc (.cells riZ 68):=⟨_,rfl⟩
 have f0:Fr none_ w w0:=by rw [hw0];exact ((Fr.refl none_ w).alloc _).alloc _
 have BI:Hid (Blk w0 w.heap.size 57 (jobB J q)):=hid_ (by rw [hw0];exact (Blk.new w _ _).alloc _)
 have B4:Hid (Blk w0 (w.heap.size+1) 68 riZ):=hid_ (by rw [hw0];exact Blk.new_at4 _ _ (by simp))
 have F0:=hid_ f0
 clear f0
 go_enter Tryz.func10,Tryz.ntmps10
 go_upto_region 1 with fail
 change Code.wp _ _ _ _ ((w.alloc (.cells (jobB J q) 57)).alloc (.cells riZ 68))
 rw [← hw0]
 clear hw0
 obtain ⟨gi,hgi⟩:∃ g,g=w.heap.size:=⟨_,rfl⟩
 rw [← hgi] at BI B4
 rw [← hgi]
 have GI:=hid_ hgi
 clear hgi
 have i3:w0.cell? ⟨gi,3,none⟩=some (.int .i64 J.news):=BI.out.cell' rfl
 by_cases h1:J.news < 0
 ·have hd:(if J.news < 0∨4 < J.news then { Rz.zero with over:=true,err:=1 } else Rz.zero)=({ Rz.zero with over:=true,err:=1 }:Rz):=if_pos (.inl h1)
  have HD:=hid_ hd
  clear hd
  go_wp2_with (first | (refine wpList_load_mid rfl 57 (.tmp 1) rfl gi 0 rfl (jobB J q).toList _ (Blk.range7 (l:=(jobB J q).toList) BI.out) Tryz.underlying57 rfl job_sz12 ?_) | (refine wpList_store_mid rfl 68 (.tmp 2) (.tmp 12) rfl (gi+1) 0 (riA J q ({ Rz.zero with over:=true,err:=1 }) ⟨none,0,none,0⟩) rfl rfl (B4.out.there7 rfl) ri_size (by simp [Value.oneCell']) ?_;obtain ⟨w4,hw4⟩:∃ z,z=w0.setCells (gi+1) 0 (riA J q ({ Rz.zero with over:=true,err:=1 }) ⟨none,0,none,0⟩).toList:=⟨_,rfl⟩;have ov:=B4.out.over7 (riA J q ({ Rz.zero with over:=true,err:=1 }) ⟨none,0,none,0⟩).toList rfl;rw [← hw4] at ov;change wpList _ _ _ _ _ (w0.setCells (gi+1) 0 (riA J q ({ Rz.zero with over:=true,err:=1 }) ⟨none,0,none,0⟩).toList);rw [← hw4];have K4:=hid_ ov;clear hw4 ov))
  exact bodyPost_ret (results_cell7 _ _ rfl (gi+1) 0 (riA J q ({ Rz.zero with over:=true,err:=1 }) ⟨none,0,none,0⟩).toList _ rfl (Blk.range7 (l:=(riA J q ({ Rz.zero with over:=true,err:=1 }) ⟨none,0,none,0⟩).toList) K4.out.1) Tryz.underlying68 rfl ri_size) rfl ⟨by first | rfl | rw [HD.out],F0.out.then_only K4.out.2 (.inr (by have:=GI.out;omega))⟩
 ·by_cases h2:4 < J.news
  ·have hd:(if J.news < 0∨4 < J.news then { Rz.zero with over:=true,err:=1 } else Rz.zero)=({ Rz.zero with over:=true,err:=1 }:Rz):=if_pos (.inr h2)
   have HD:=hid_ hd
   clear hd
   go_wp2_with (first | (refine wpList_load_mid rfl 57 (.tmp 1) rfl gi 0 rfl (jobB J q).toList _ (Blk.range7 (l:=(jobB J q).toList) BI.out) Tryz.underlying57 rfl job_sz12 ?_) | (refine wpList_store_mid rfl 68 (.tmp 2) (.tmp 12) rfl (gi+1) 0 (riA J q ({ Rz.zero with over:=true,err:=1 }) ⟨none,0,none,0⟩) rfl rfl (B4.out.there7 rfl) ri_size (by simp [Value.oneCell']) ?_;obtain ⟨w4,hw4⟩:∃ z,z=w0.setCells (gi+1) 0 (riA J q ({ Rz.zero with over:=true,err:=1 }) ⟨none,0,none,0⟩).toList:=⟨_,rfl⟩;have ov:=B4.out.over7 (riA J q ({ Rz.zero with over:=true,err:=1 }) ⟨none,0,none,0⟩).toList rfl;rw [← hw4] at ov;change wpList _ _ _ _ _ (w0.setCells (gi+1) 0 (riA J q ({ Rz.zero with over:=true,err:=1 }) ⟨none,0,none,0⟩).toList);rw [← hw4];have K4:=hid_ ov;clear hw4 ov))
   exact bodyPost_ret (results_cell7 _ _ rfl (gi+1) 0 (riA J q ({ Rz.zero with over:=true,err:=1 }) ⟨none,0,none,0⟩).toList _ rfl (Blk.range7 (l:=(riA J q ({ Rz.zero with over:=true,err:=1 }) ⟨none,0,none,0⟩).toList) K4.out.1) Tryz.underlying68 rfl ri_size) rfl ⟨by first | rfl | rw [HD.out],F0.out.then_only K4.out.2 (.inr (by have:=GI.out;omega))⟩
  ·have hd:(if J.news < 0∨4 < J.news then { Rz.zero with over:=true,err:=1 } else Rz.zero)=Rz.zero:=if_neg (by omega)
   have HD:=hid_ hd
   clear hd
   go_wp2_with (first | (refine wpList_load_mid rfl 57 (.tmp 1) rfl gi 0 rfl (jobB J q).toList _ (Blk.range7 (l:=(jobB J q).toList) BI.out) Tryz.underlying57 rfl job_sz12 ?_) | (refine wpList_store_mid rfl 68 (.tmp 2) (.tmp 14) rfl (gi+1) 0 (riA J q (Rz.zero) ⟨none,0,none,0⟩) rfl rfl (B4.out.there7 rfl) ri_size (by simp [Value.oneCell']) ?_;obtain ⟨w4,hw4⟩:∃ z,z=w0.setCells (gi+1) 0 (riA J q (Rz.zero) ⟨none,0,none,0⟩).toList:=⟨_,rfl⟩;have ov:=B4.out.over7 (riA J q (Rz.zero) ⟨none,0,none,0⟩).toList rfl;rw [← hw4] at ov;change wpList _ _ _ _ _ (w0.setCells (gi+1) 0 (riA J q (Rz.zero) ⟨none,0,none,0⟩).toList);rw [← hw4];have K4:=hid_ ov;clear hw4 ov))
   exact bodyPost_ret (results_cell7 _ _ rfl (gi+1) 0 (riA J q (Rz.zero) ⟨none,0,none,0⟩).toList _ rfl (Blk.range7 (l:=(riA J q (Rz.zero) ⟨none,0,none,0⟩).toList) K4.out.1) Tryz.underlying68 rfl ri_size) rfl ⟨by first | rfl | rw [HD.out],F0.out.then_only K4.out.2 (.inr (by have:=GI.out;omega))⟩
theorem hd_sz12 (J:Jd) (q:Jl) (ps:List Int):(hdA J q ps).size=15:=rfl
theorem hd_one12 (J:Jd) (q:Jl) (ps:List Int):(hdA J q ps).all (·.oneCell')=true:=by simp [hdA,Value.oneCell']
end Go.Proofs.YthcpccddcgbanaaGreatDoor

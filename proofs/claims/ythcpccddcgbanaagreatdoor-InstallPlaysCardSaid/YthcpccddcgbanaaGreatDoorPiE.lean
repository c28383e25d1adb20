/- Texts of one proof, merged: Rc10. -/
import Derived.Test.YthcpccddcgbanaaGreatDoorPiD
namespace Go.Proofs.YthcpccddcgbanaaGreatDoor
open Go.RowKit
set_option maxRecDepth 100000
set_option linter.unusedVariables false
def RLoadIs (slots:Int) (L:List RaP) (s g:Int) (R:Rc) (A B:Option Addr) (c d:Nat) (k:Int):Prop:=
  (¬ (1≤s∧s≤slots)∧R=Rc.zero∧A=none∧B=none∧c=0∧d=0∧k=1) ∨
  ((1≤s∧s≤slots)∧(∀ (j:Nat) (q:RaP),L[j]?=some q→¬ (q.xs=s∧q.xg=g∧q.live=true))∧R=Rc.zero∧A=none∧B=none∧c=0∧d=0∧k=4) ∨
  ((1≤s∧s≤slots)∧∃ (i:Nat) (p:RaP),FindIs L s g i∧L[i]?=some p∧p.xs=s∧p.xg=g∧p.live=true∧R=p.R∧A=p.A∧B=p.B∧c=p.c∧d=p.d∧k=0)
def RLoadPost (slots:Int) (L:List RaP) (s g:Int) (w:World) (e:Ending) (w':World):Prop:=
  ∃ R A B c d k,RLoadIs slots L s g R A B c d k∧e=.returned (.tuple #[.agg (recA R (.slice A R.rows.length c) (.slice B R.ents.length d)),.int .i64 k])∧RecReads w' R A B∧(R.rows.length≤1000∧R.ents.length≤1000)∧Fr none_ w w'
theorem zero_reads (w:World):RecReads w Rc.zero none none:=⟨Reads.nil_,Reads.nil_⟩
set_option maxHeartbeats 8000000 in
theorem rload_ok (slots last:Int) (L:List RaP) (A:Option Addr) (c:Nat) (s g:Int) (w:World) (h:RaIn w L A c):Calls Tryz.prog 78 #[raV slots last L A c,.agg #[.int .i64 s,.int .i64 g]] w (RLoadPost slots L s g w):=by
 obtain ⟨w0,hw0⟩:∃ z,z=((w.alloc (.cells (raA slots last L A c) 35)).alloc (.cells #[.int .i64 s,.int .i64 g] 48)).alloc (.cells (recA Rc.zero (.slice none 0 0) (.slice none 0 0)) 55):=⟨_,rfl⟩
 have f0:Fr none_ w w0:=by rw [hw0];exact (((Fr.refl none_ w).alloc _).alloc _).alloc _
 have BV:Hid (Blk w0 w.heap.size 35 (raA slots last L A c)):=hid_ (by rw [hw0];exact ((Blk.new w _ _).alloc _).alloc _)
 have BX:Hid (Blk w0 (w.heap.size+1) 48 #[.int .i64 s,.int .i64 g]):=hid_ (by rw [hw0];exact (Blk.new_at4 _ _ (by simp)).alloc _)
 have BR:Hid (Blk w0 (w.heap.size+1+1) 55 (recA Rc.zero (.slice none 0 0) (.slice none 0 0))):=hid_ (by rw [hw0];exact Blk.new_at4 _ _ (by simp))
 have HW:=hid_ h
 have H:=hid_ (h.keep f0)
 have F0:=hid_ f0
 have hlt0:=BR.out.lt
 have hl:=h.len
 clear f0 h
 go_enter Tryz.func78,Tryz.ntmps78
 go_upto_region 1 with fail
 change Code.wp _ _ _ _ (((w.alloc (.cells (raA slots last L A c) 35)).alloc (.cells #[.int .i64 s,.int .i64 g] 48)).alloc (.cells (recA Rc.zero (.slice none 0 0) (.slice none 0 0)) 55))
 rw [← hw0]
 clear hw0
 have v0:w0.cell? ⟨w.heap.size,0,none⟩=some (.int .i64 slots):=BV.out.cell' rfl
 have v1:w0.cell? ⟨w.heap.size,1,none⟩=some (.int .i64 last):=BV.out.cell' rfl
 have v2:w0.cell? ⟨w.heap.size,2,none⟩=some (.slice A L.length c):=BV.out.cell' rfl
 have x0:w0.cell? ⟨w.heap.size+1,0,none⟩=some (.int .i64 s):=BX.out.cell' rfl
 have x1:w0.cell? ⟨w.heap.size+1,1,none⟩=some (.int .i64 g):=BX.out.cell' rfl
 by_cases hd1:s < 1
 ·have e1:decide (s < 1)=true:=by simpa using hd1
  have hI:=hid_ (show ¬ (1≤s∧s≤slots) by omega)
  obtain ⟨wz,hz⟩:∃ z,z=w0:=⟨_,rfl⟩
  subst hz
  clear hd1
  go_wp2_with (refine wpList_store_mid rfl 55 (.tmp 4) (.tmp 17) rfl (w.heap.size+1+1) 0 (recA Rc.zero (.slice none 0 0) (.slice none 0 0)) rfl rfl (BR.out.there4 rfl) (by kernel_rfl) (by simp [Value.oneCell']) ?_;obtain ⟨e1,he1⟩:∃ z,z=wz.setCells (w.heap.size+1+1) 0 ((recA Rc.zero (.slice none 0 0) (.slice none 0 0))).toList:=⟨_,rfl⟩;have ove1:=Blk.over4 BR.out ((recA Rc.zero (.slice none 0 0) (.slice none 0 0))).toList rfl;rw [← he1] at ove1;change wpList _ _ _ _ _ (wz.setCells (w.heap.size+1+1) 0 ((recA Rc.zero (.slice none 0 0) (.slice none 0 0))).toList);rw [← he1];clear he1;replace BR:=hid_ ove1.1;replace F0:=hid_ (F0.out.then_only ove1.2 (.inr (by omega))))
  have r0:=BR.out.cell' (i:=0) rfl
  have r1:=BR.out.cell' (i:=1) rfl
  have r2:=BR.out.cell' (i:=2) rfl
  have r3:=BR.out.cell' (i:=3) rfl
  have r4:=BR.out.cell' (i:=4) rfl
  have r5:=BR.out.cell' (i:=5) rfl
  have r6:=BR.out.cell' (i:=6) rfl
  have r7:=BR.out.cell' (i:=7) rfl
  have r8:=BR.out.cell' (i:=8) rfl
  have r9:=BR.out.cell' (i:=9) rfl
  have r10:=BR.out.cell' (i:=10) rfl
  have r11:=BR.out.cell' (i:=11) rfl
  have r12:=BR.out.cell' (i:=12) rfl
  have r13:=BR.out.cell' (i:=13) rfl
  have r14:=BR.out.cell' (i:=14) rfl
  refine bodyPost_ret (v:=.tuple #[.agg (recA Rc.zero (.slice none 0 0) (.slice none 0 0)),.int .i64 1]) ?_ rfl ⟨_,_,_,_,_,_,Or.inl ⟨hI.out,rfl,rfl,rfl,rfl,rfl,rfl⟩,rfl,zero_reads _,⟨Nat.zero_le _,Nat.zero_le _⟩,F0.out⟩
  simp [results,Tryz.results78,go_sem,Rc.zero,r0,r1,r2,r3,r4,r5,r6,r7,r8,r9,r10,r11,r12,r13,r14]
 by_cases hd2:slots < s
 ·have e1:decide (s < 1)=false:=by simpa using hd1
  have e2:decide (slots < s)=true:=by simpa using hd2
  have e3:decide (s > slots)=true:=e2
  have hI:=hid_ (show ¬ (1≤s∧s≤slots) by omega)
  obtain ⟨wz,hz⟩:∃ z,z=w0:=⟨_,rfl⟩
  subst hz
  clear hd1 hd2
  go_wp2_with (refine wpList_store_mid rfl 55 (.tmp 4) (.tmp 17) rfl (w.heap.size+1+1) 0 (recA Rc.zero (.slice none 0 0) (.slice none 0 0)) rfl rfl (BR.out.there4 rfl) (by kernel_rfl) (by simp [Value.oneCell']) ?_;obtain ⟨e1,he1⟩:∃ z,z=wz.setCells (w.heap.size+1+1) 0 ((recA Rc.zero (.slice none 0 0) (.slice none 0 0))).toList:=⟨_,rfl⟩;have ove1:=Blk.over4 BR.out ((recA Rc.zero (.slice none 0 0) (.slice none 0 0))).toList rfl;rw [← he1] at ove1;change wpList _ _ _ _ _ (wz.setCells (w.heap.size+1+1) 0 ((recA Rc.zero (.slice none 0 0) (.slice none 0 0))).toList);rw [← he1];clear he1;replace BR:=hid_ ove1.1;replace F0:=hid_ (F0.out.then_only ove1.2 (.inr (by omega))))
  have r0:=BR.out.cell' (i:=0) rfl
  have r1:=BR.out.cell' (i:=1) rfl
  have r2:=BR.out.cell' (i:=2) rfl
  have r3:=BR.out.cell' (i:=3) rfl
  have r4:=BR.out.cell' (i:=4) rfl
  have r5:=BR.out.cell' (i:=5) rfl
  have r6:=BR.out.cell' (i:=6) rfl
  have r7:=BR.out.cell' (i:=7) rfl
  have r8:=BR.out.cell' (i:=8) rfl
  have r9:=BR.out.cell' (i:=9) rfl
  have r10:=BR.out.cell' (i:=10) rfl
  have r11:=BR.out.cell' (i:=11) rfl
  have r12:=BR.out.cell' (i:=12) rfl
  have r13:=BR.out.cell' (i:=13) rfl
  have r14:=BR.out.cell' (i:=14) rfl
  refine bodyPost_ret (v:=.tuple #[.agg (recA Rc.zero (.slice none 0 0) (.slice none 0 0)),.int .i64 1]) ?_ rfl ⟨_,_,_,_,_,_,Or.inl ⟨hI.out,rfl,rfl,rfl,rfl,rfl,rfl⟩,rfl,zero_reads _,⟨Nat.zero_le _,Nat.zero_le _⟩,F0.out⟩
  simp [results,Tryz.results78,go_sem,Rc.zero,r0,r1,r2,r3,r4,r5,r6,r7,r8,r9,r10,r11,r12,r13,r14]
 have e1:decide (s < 1)=false:=by simpa using hd1
 have e2:decide (slots < s)=false:=by simpa using hd2
 have e3:decide (s > slots)=false:=e2
 have hI:=hid_ (show 1≤s∧s≤slots by omega)
 clear hd1 hd2
 go_wp2_with fail
 refine (rafind_ok slots last L A c s g w0 H.out).mono ?_
 rintro e wz ⟨k,hk,rfl,hf⟩
 have HK:=hid_ hk
 clear v0 v1 v2 x0 x1
 replace F0:=hid_ (F0.out.then_none hf)
 replace BV:=hid_ (BV.out.fr hf id)
 replace BR:=hid_ (BR.out.fr hf id)
 replace H:=hid_ (H.out.keep hf)
 have hsz:=F0.out.size
 clear hf
 rcases hk with ⟨i,p,rfl,hp,hxs,hxg,hlv,_⟩ | ⟨rfl,hno⟩
 rotate_left
 ·have HN:=hid_ hno
  clear hno
  go_wp2_with (refine wpList_store_mid rfl 55 (.tmp 4) (.tmp 23) rfl (w.heap.size+1+1) 0 (recA Rc.zero (.slice none 0 0) (.slice none 0 0)) rfl rfl (BR.out.there4 rfl) (by kernel_rfl) (by simp [Value.oneCell']) ?_;obtain ⟨e1,he1⟩:∃ z,z=wz.setCells (w.heap.size+1+1) 0 ((recA Rc.zero (.slice none 0 0) (.slice none 0 0))).toList:=⟨_,rfl⟩;have ove1:=Blk.over4 BR.out ((recA Rc.zero (.slice none 0 0) (.slice none 0 0))).toList rfl;rw [← he1] at ove1;change wpList _ _ _ _ _ (wz.setCells (w.heap.size+1+1) 0 ((recA Rc.zero (.slice none 0 0) (.slice none 0 0))).toList);rw [← he1];clear he1;replace BR:=hid_ ove1.1;replace F0:=hid_ (F0.out.then_only ove1.2 (.inr (by omega))))
  have r0:=BR.out.cell' (i:=0) rfl
  have r1:=BR.out.cell' (i:=1) rfl
  have r2:=BR.out.cell' (i:=2) rfl
  have r3:=BR.out.cell' (i:=3) rfl
  have r4:=BR.out.cell' (i:=4) rfl
  have r5:=BR.out.cell' (i:=5) rfl
  have r6:=BR.out.cell' (i:=6) rfl
  have r7:=BR.out.cell' (i:=7) rfl
  have r8:=BR.out.cell' (i:=8) rfl
  have r9:=BR.out.cell' (i:=9) rfl
  have r10:=BR.out.cell' (i:=10) rfl
  have r11:=BR.out.cell' (i:=11) rfl
  have r12:=BR.out.cell' (i:=12) rfl
  have r13:=BR.out.cell' (i:=13) rfl
  have r14:=BR.out.cell' (i:=14) rfl
  refine bodyPost_ret (v:=.tuple #[.agg (recA Rc.zero (.slice none 0 0) (.slice none 0 0)),.int .i64 4]) ?_ rfl ⟨_,_,_,_,_,_,Or.inr (Or.inl ⟨hI.out,HN.out,rfl,rfl,rfl,rfl,rfl,rfl⟩),rfl,zero_reads _,⟨Nat.zero_le _,Nat.zero_le _⟩,F0.out⟩
  simp [results,Tryz.results78,go_sem,Rc.zero,r0,r1,r2,r3,r4,r5,r6,r7,r8,r9,r10,r11,r12,r13,r14]
 ·obtain ⟨b,off,rfl,hb,hc⟩:=H.out.at_ hp
  have HP:=hid_ (And.intro hp (And.intro hxs (And.intro hxg hlv)))
  have hi0:(0:Int)≤(i:Int):=Int.natCast_nonneg _
  have hil:i < L.length:=(List.getElem?_eq_some_iff.1 hp).1
  have hi1:(i:Int) < (L.length:Int):=by omega
  have hn:decide ((i:Int) < 0)=false:=by simp
  have HR:=hid_ (HW.out.recs p (List.mem_of_getElem? hp))
  have HS:=hid_ (H.out.sz p (List.mem_of_getElem? hp))
  have RG:Hid (wz.rangeAt b (off+i * 18+2) (recA p.R (.slice p.A p.R.rows.length p.c) (.slice p.B p.R.ents.length p.d)).toList):=hid_ (fun j v hj=>by
   rw [Nat.add_assoc]
   have hj15:j < 15:=by have:=(List.getElem?_eq_some_iff.1 hj).1;simpa using this
   refine hc (2+j) v ?_
   rw [Nat.add_comm 2 j]
   show (ptLA p)[j+2]?=some v
   rw [List.getElem?_cons_succ,List.getElem?_cons_succ]
   show ((recA p.R (.slice p.A p.R.rows.length p.c) (.slice p.B p.R.ents.length p.d)).toList ++ [.bool p.live])[j]?=some v
   rw [List.getElem?_append_left (by simpa using hj15)]
   exact hj)
  have v2:wz.cell? ⟨w.heap.size,2,none⟩=some (.slice (some ⟨b,off,none⟩) L.length c):=BV.out.cell' rfl
  clear hp hc hxs hxg hlv
  go_wp2_with (first | (refine wpList_load_mid rfl 55 (.tmp 28) rfl b (off+i * 18+2) rfl (recA p.R (.slice p.A p.R.rows.length p.c) (.slice p.B p.R.ents.length p.d)).toList _ RG.out Tryz.underlying55 rfl (by kernel_rfl) ?_) | (refine wpList_store_mid rfl 55 (.tmp 4) (.tmp 29) rfl (w.heap.size+1+1) 0 (recA p.R (.slice p.A p.R.rows.length p.c) (.slice p.B p.R.ents.length p.d)) rfl rfl (BR.out.there4 rfl) (by kernel_rfl) (by simp [Value.oneCell']) ?_;obtain ⟨e1,he1⟩:∃ z,z=wz.setCells (w.heap.size+1+1) 0 ((recA p.R (.slice p.A p.R.rows.length p.c) (.slice p.B p.R.ents.length p.d))).toList:=⟨_,rfl⟩;have ove1:=Blk.over4 BR.out ((recA p.R (.slice p.A p.R.rows.length p.c) (.slice p.B p.R.ents.length p.d))).toList rfl;rw [← he1] at ove1;change wpList _ _ _ _ _ (wz.setCells (w.heap.size+1+1) 0 ((recA p.R (.slice p.A p.R.rows.length p.c) (.slice p.B p.R.ents.length p.d))).toList);rw [← he1];clear he1;replace BR:=hid_ ove1.1;replace F0:=hid_ (F0.out.then_only ove1.2 (.inr (by omega)))))
  have r0:=BR.out.cell' (i:=0) rfl
  have r1:=BR.out.cell' (i:=1) rfl
  have r2:=BR.out.cell' (i:=2) rfl
  have r3:=BR.out.cell' (i:=3) rfl
  have r4:=BR.out.cell' (i:=4) rfl
  have r5:=BR.out.cell' (i:=5) rfl
  have r6:=BR.out.cell' (i:=6) rfl
  have r7:=BR.out.cell' (i:=7) rfl
  have r8:=BR.out.cell' (i:=8) rfl
  have r9:=BR.out.cell' (i:=9) rfl
  have r10:=BR.out.cell' (i:=10) rfl
  have r11:=BR.out.cell' (i:=11) rfl
  have r12:=BR.out.cell' (i:=12) rfl
  have r13:=BR.out.cell' (i:=13) rfl
  have r14:=BR.out.cell' (i:=14) rfl
  refine bodyPost_ret (v:=.tuple #[.agg (recA p.R (.slice p.A p.R.rows.length p.c) (.slice p.B p.R.ents.length p.d)),.int .i64 0]) ?_ rfl ⟨_,_,_,_,_,_,Or.inr (Or.inr ⟨hI.out,i,p,HK.out,HP.out.1,HP.out.2.1,HP.out.2.2.1,HP.out.2.2.2,rfl,rfl,rfl,rfl,rfl,rfl⟩),rfl,HR.out.keep F0.out,HS.out,F0.out⟩
  simp [results,Tryz.results78,go_sem,r0,r1,r2,r3,r4,r5,r6,r7,r8,r9,r10,r11,r12,r13,r14]
end Go.Proofs.YthcpccddcgbanaaGreatDoor

/- Texts of one proof, merged: Rd10. -/
import Derived.Test.YthcpccddcgbanaaGreatDoorPiE
namespace Go.Proofs.YthcpccddcgbanaaGreatDoor
open Go.RowKit
set_option maxRecDepth 100000
set_option linter.unusedVariables false
def deadP (p:RaP):RaP:={ p with live:=false }
theorem ptFlat_cons (q:RaP) (L:List RaP):ptFlat (q :: L)=ptLA q ++ ptFlat L:=rfl
theorem ptFlat_dead:∀ (L:List RaP) (i:Nat) (p:RaP),L[i]?=some p→ptFlat (L.set i (deadP p))=(ptFlat L).set (i * 18+17) (.bool false)
  | [],i,p,h=>by simp at h
  | q :: L,0,p,h=>by
    obtain rfl:q=p:=by simpa using h
    rw [List.set_cons_zero,ptFlat_cons,ptFlat_cons,List.set_append_left _ _ (by simp)]
    rfl
  | q :: L,i+1,p,h=>by
    rw [List.set_cons_succ,ptFlat_cons,ptFlat_cons,List.set_append_right _ _ (by simp;omega),ptFlat_dead L i p (by simpa using h)]
    rw [show (i+1) * 18+17 - (ptLA q).length=i * 18+17 by simp;omega]
def RFreeIs (slots:Int) (L:List RaP) (s g:Int) (L':List RaP) (k:Int):Prop:=
  (¬ (1≤s∧s≤slots)∧L'=L∧k=1) ∨
  ((1≤s∧s≤slots)∧(∀ (j:Nat) (q:RaP),L[j]?=some q→¬ (q.xs=s∧q.xg=g∧q.live=true))∧L'=L∧k=4) ∨
  ((1≤s∧s≤slots)∧∃ (i:Nat) (p:RaP),FindIs L s g i∧L[i]?=some p∧p.xs=s∧p.xg=g∧p.live=true∧L'=L.set i (deadP p)∧k=0)
def RFreePost (slots last:Int) (L:List RaP) (s g:Int) (A0:Option Addr) (w:World) (e:Ending) (w':World):Prop:=
  ∃ L' A c k,RFreeIs slots L s g L' k∧e=.returned (.tuple #[raV slots last L' A c,.int .i64 k])∧RaIn w' L' A c∧(A=A0∨∀ ad,A=some ad→w.heap.size≤ad.block)∧Fr none_ w w'
set_option maxHeartbeats 8000000 in
theorem rfree_ok (slots last:Int) (L:List RaP) (A:Option Addr) (c:Nat) (s g:Int) (w:World) (h:RaIn w L A c):Calls Tryz.prog 43 #[raV slots last L A c,.agg #[.int .i64 s,.int .i64 g]] w (RFreePost slots last L s g A w):=by
 obtain ⟨w0,hw0⟩:∃ z,z=((w.alloc (.cells (raA slots last L A c) 35)).alloc (.cells #[.int .i64 s,.int .i64 g] 48)).alloc (.cells #[.int .i64 0,.int .i64 0,.slice none 0 0] 35):=⟨_,rfl⟩
 have f0:Fr none_ w w0:=by rw [hw0];exact (((Fr.refl none_ w).alloc _).alloc _).alloc _
 have BV:Hid (Blk w0 w.heap.size 35 (raA slots last L A c)):=hid_ (by rw [hw0];exact ((Blk.new w _ _).alloc _).alloc _)
 have BX:Hid (Blk w0 (w.heap.size+1) 48 #[.int .i64 s,.int .i64 g]):=hid_ (by rw [hw0];exact (Blk.new_at4 _ _ (by simp)).alloc _)
 have BR:Hid (Blk w0 (w.heap.size+1+1) 35 #[.int .i64 0,.int .i64 0,.slice none 0 0]):=hid_ (by rw [hw0];exact Blk.new_at4 _ _ (by simp))
 have HW:=hid_ h
 have H:=hid_ (h.keep f0)
 have F0:=hid_ f0
 have hlt0:=BR.out.lt
 have hl:=h.len
 have hcapx:=h.cap
 have hcmx:=h.capm
 unfold maxLen at hcmx
 clear f0 h
 go_enter Tryz.func43,Tryz.ntmps43
 go_upto_region 1 with fail
 change Code.wp _ _ _ _ (((w.alloc (.cells (raA slots last L A c) 35)).alloc (.cells #[.int .i64 s,.int .i64 g] 48)).alloc (.cells #[.int .i64 0,.int .i64 0,.slice none 0 0] 35))
 rw [← hw0]
 clear hw0
 have v0:w0.cell? ⟨w.heap.size,0,none⟩=some (.int .i64 slots):=BV.out.cell' rfl
 have v1:w0.cell? ⟨w.heap.size,1,none⟩=some (.int .i64 last):=BV.out.cell' rfl
 have v2:w0.cell? ⟨w.heap.size,2,none⟩=some (.slice A L.length c):=BV.out.cell' rfl
 have x0:w0.cell? ⟨w.heap.size+1,0,none⟩=some (.int .i64 s):=BX.out.cell' rfl
 have x1:w0.cell? ⟨w.heap.size+1,1,none⟩=some (.int .i64 g):=BX.out.cell' rfl
 by_cases hd1:s < 1
 ·have e1:decide (s < 1)=true:=by simpa using hd1
  have hI:=hid_ (show ¬ (1≤s∧s≤slots) by omega)
  obtain ⟨wz,hz⟩:∃ z,z=w0:=⟨_,rfl⟩
  subst hz
  clear hd1
  go_wp2_with (refine wpList_store_mid rfl 35 (.tmp 4) (.tmp 18) rfl (w.heap.size+1+1) 0 (raA slots last L A c) rfl rfl (BR.out.there4 rfl) (by kernel_rfl) (by simp [Value.oneCell']) ?_;obtain ⟨e1,he1⟩:∃ z,z=wz.setCells (w.heap.size+1+1) 0 (raA slots last L A c).toList:=⟨_,rfl⟩;have ove1:=Blk.over4 BR.out (raA slots last L A c).toList rfl;rw [← he1] at ove1;change wpList _ _ _ _ _ (wz.setCells (w.heap.size+1+1) 0 (raA slots last L A c).toList);rw [← he1];clear he1;replace BR:=hid_ ove1.1;replace F0:=hid_ (F0.out.then_only ove1.2 (.inr (by omega))))
  have r0:=BR.out.cell' (i:=0) rfl
  have r1:=BR.out.cell' (i:=1) rfl
  have r2:=BR.out.cell' (i:=2) rfl
  refine bodyPost_ret (v:=.tuple #[raV slots last L A c,.int .i64 1]) ?_ rfl ⟨L,A,c,1,Or.inl ⟨hI.out,rfl,rfl⟩,rfl,HW.out.keep F0.out,Or.inl rfl,F0.out⟩
  simp [results,Tryz.results43,go_sem,r0,r1,r2]
 by_cases hd2:slots < s
 ·have e1:decide (s < 1)=false:=by simpa using hd1
  have e2:decide (slots < s)=true:=by simpa using hd2
  have e3:decide (s > slots)=true:=e2
  have hI:=hid_ (show ¬ (1≤s∧s≤slots) by omega)
  obtain ⟨wz,hz⟩:∃ z,z=w0:=⟨_,rfl⟩
  subst hz
  clear hd1 hd2
  go_wp2_with (refine wpList_store_mid rfl 35 (.tmp 4) (.tmp 18) rfl (w.heap.size+1+1) 0 (raA slots last L A c) rfl rfl (BR.out.there4 rfl) (by kernel_rfl) (by simp [Value.oneCell']) ?_;obtain ⟨e1,he1⟩:∃ z,z=wz.setCells (w.heap.size+1+1) 0 (raA slots last L A c).toList:=⟨_,rfl⟩;have ove1:=Blk.over4 BR.out (raA slots last L A c).toList rfl;rw [← he1] at ove1;change wpList _ _ _ _ _ (wz.setCells (w.heap.size+1+1) 0 (raA slots last L A c).toList);rw [← he1];clear he1;replace BR:=hid_ ove1.1;replace F0:=hid_ (F0.out.then_only ove1.2 (.inr (by omega))))
  have r0:=BR.out.cell' (i:=0) rfl
  have r1:=BR.out.cell' (i:=1) rfl
  have r2:=BR.out.cell' (i:=2) rfl
  refine bodyPost_ret (v:=.tuple #[raV slots last L A c,.int .i64 1]) ?_ rfl ⟨L,A,c,1,Or.inl ⟨hI.out,rfl,rfl⟩,rfl,HW.out.keep F0.out,Or.inl rfl,F0.out⟩
  simp [results,Tryz.results43,go_sem,r0,r1,r2]
 have e1:decide (s < 1)=false:=by simpa using hd1
 have e2:decide (slots < s)=false:=by simpa using hd2
 have e3:decide (s > slots)=false:=e2
 have hI:=hid_ (show 1≤s∧s≤slots by omega)
 clear hd1 hd2
 go_wp2_with fail
 refine (rafind_ok slots last L A c s g w0 H.out).mono ?_
 rintro e wz ⟨k,hk,rfl,hf⟩
 have HK:=hid_ hk
 clear v0 v1 v2 x0 x1
 replace F0:=hid_ (F0.out.then_none hf)
 replace BV:=hid_ (BV.out.fr hf id)
 replace BR:=hid_ (BR.out.fr hf id)
 replace H:=hid_ (H.out.keep hf)
 have hsz:=F0.out.size
 clear hf
 have v0:wz.cell? ⟨w.heap.size,0,none⟩=some (.int .i64 slots):=BV.out.cell' rfl
 have v1:wz.cell? ⟨w.heap.size,1,none⟩=some (.int .i64 last):=BV.out.cell' rfl
 have v2:wz.cell? ⟨w.heap.size,2,none⟩=some (.slice A L.length c):=BV.out.cell' rfl
 rcases hk with ⟨i,p,rfl,hp,hxs,hxg,hlv,_⟩ | ⟨rfl,hno⟩
 rotate_left
 ·have HN:=hid_ hno
  clear hno
  go_wp2_with (refine wpList_store_mid rfl 35 (.tmp 4) (.tmp 24) rfl (w.heap.size+1+1) 0 (raA slots last L A c) rfl rfl (BR.out.there4 rfl) (by kernel_rfl) (by simp [Value.oneCell']) ?_;obtain ⟨e1,he1⟩:∃ z,z=wz.setCells (w.heap.size+1+1) 0 (raA slots last L A c).toList:=⟨_,rfl⟩;have ove1:=Blk.over4 BR.out (raA slots last L A c).toList rfl;rw [← he1] at ove1;change wpList _ _ _ _ _ (wz.setCells (w.heap.size+1+1) 0 (raA slots last L A c).toList);rw [← he1];clear he1;replace BR:=hid_ ove1.1;replace F0:=hid_ (F0.out.then_only ove1.2 (.inr (by omega))))
  have r0:=BR.out.cell' (i:=0) rfl
  have r1:=BR.out.cell' (i:=1) rfl
  have r2:=BR.out.cell' (i:=2) rfl
  refine bodyPost_ret (v:=.tuple #[raV slots last L A c,.int .i64 4]) ?_ rfl ⟨L,A,c,4,Or.inr (Or.inl ⟨hI.out,HN.out,rfl,rfl⟩),rfl,HW.out.keep F0.out,Or.inl rfl,F0.out⟩
  simp [results,Tryz.results43,go_sem,r0,r1,r2]
 ·have HP:=hid_ (And.intro hp (And.intro hxs (And.intro hxg hlv)))
  have hi0:(0:Int)≤(i:Int):=Int.natCast_nonneg _
  have hil:i < L.length:=(List.getElem?_eq_some_iff.1 hp).1
  have hi1:(i:Int) < (L.length:Int):=by omega
  have hn:decide ((i:Int) < 0)=false:=by simp
  have hbR:=BR.out.lt
  have hbV:=BV.out.lt
  have v2':(wz.alloc (.cells #[] 156)).cell? ⟨w.heap.size,2,none⟩=some (.slice A L.length c):=(BV.out.alloc _).cell' rfl
  obtain ⟨i0,hi0',hx0⟩:=Option.map_eq_some_iff.1 rput_info
  injection hx0 with hz0 hx0
  injection hx0 with hs0 hb0
  have Hi:=hid_ (And.intro hi0' (And.intro hz0 (And.intro hs0 hb0)))
  have hmax:Hid (0+L.length≤maxLen):=hid_ (by simp only [maxLen];omega)
  have hby:Hid ((0+L.length) * 216≤140737488355328):=hid_ (by omega)
  have hbs:Hid (wz.heap.size≤(wz.alloc (.cells #[] 156)).heap.size):=hid_ (by simp)
  have hsrc:Hid (Reads (wz.alloc (.cells #[] 156)) 18 A L.length (ptFlat L)):=hid_ (H.out.rd.alloc _)
  clear hp hxs hxg hlv hi0' hz0 hs0 hb0
  go_upto_region 7 with (at_builtin;refine wpList_append_any _ rfl (.tmp 25) (.tmp 27) 33 rfl wz.heap.size 156 i0 _ 18 216 Tryz.underlying33 Hi.out.1 Hi.out.2.1 Hi.out.2.2.1 Hi.out.2.2.2 rfl (by omega) (.slice (some ⟨wz.heap.size,0,none⟩) 0 0) 0 [] rfl (own_empty_at wz _ _ _ _ (Nat.le_refl _) rfl) A L.length c (ptFlat L) rfl hsrc.out (ptFlat_one L) hmax.out hby.out hbs.out ?_;intro A1 c1 wb hown hgr;simp only [Nat.zero_add,List.nil_append] at hown;have FB:=hid_ (((Fr.refl none_ wz).alloc (.cells #[] 156)).grown hgr (fun k hk=>.inr (by simp [Value.ownBlock] at hk;omega)));have O1:=hid_ hown;clear hown hgr)
  obtain ⟨A1',c1',e9,hc1,hm1,hcl⟩:=own_parts O1.out
  cases e9
  obtain ⟨gq,rfl,hgq,hcells⟩:=hcl (by omega)
  have hgz:wz.heap.size≤gq:=(O1.out.lt gq (by simp [Value.ownBlock])).1
  have d17:wb.cell? ⟨gq,i * 18+17,none⟩=some (.bool p.live):=hcells _ _ (ptFlat_get L i p HP.out.1 17 _ rfl)
  have z17:=O1.out.frozenAt (i * 18+17)
  clear hcells hcl v0 v1 v2
  replace F0:=hid_ (F0.out.then_none FB.out)
  replace BV:=hid_ (BV.out.fr FB.out id)
  replace BR:=hid_ (BR.out.fr FB.out id)
  go_upto_region 8 with fail
  obtain ⟨w3,hw3⟩:∃ z,z=wb.setCell ⟨gq,i * 18+17,none⟩ (.bool false):=⟨_,rfl⟩
  have f3:Fr (only gq) wb w3:=by rw [hw3];exact Fr.setCell (p:=⟨gq,i * 18+17,none⟩) (Fr.refl (only gq) wb) (.inl rfl) _
  have O3:Hid (w3.ownsRow wz.heap.size 156 18 (.slice (some ⟨gq,0,none⟩) L.length c1) L.length ((ptFlat L).set (i * 18+17) (.bool false))):=hid_ (by rw [hw3];exact (O1.out.stored (i * 18+17) (.bool false)).1)
  change Code.wp _ _ _ _ (wb.setCell ⟨gq,i * 18+17,none⟩ (.bool false))
  rw [← hw3]
  clear hw3 d17 z17
  replace F0:=hid_ (F0.out.then_only f3 (.inr (by omega)))
  replace BV:=hid_ (BV.out.fr f3 (only_ne (by omega)))
  replace BR:=hid_ (BR.out.fr f3 (only_ne (by omega)))
  have v2:w3.cell? ⟨w.heap.size,2,none⟩=some (.slice A L.length c):=BV.out.cell' rfl
  have y2:=BV.out.frozen 2
  clear f3
  go_upto_region 9 with fail
  obtain ⟨wz4,hw4⟩:∃ z,z=w3.setCell ⟨w.heap.size,2,none⟩ (.slice (some ⟨gq,0,none⟩) L.length c1):=⟨_,rfl⟩
  have f4:Fr (only w.heap.size) w3 wz4:=by rw [hw4];exact Fr.setCell (p:=⟨w.heap.size,2,none⟩) (Fr.refl (only w.heap.size) w3) (.inl rfl) _
  have BW:Hid (Blk wz4 w.heap.size 35 #[.int .i64 slots,.int .i64 last,.slice (some ⟨gq,0,none⟩) L.length c1]):=hid_ (by rw [hw4];exact BV.out.set_ 2 _)
  change Code.wp _ _ _ _ (w3.setCell ⟨w.heap.size,2,none⟩ (.slice (some ⟨gq,0,none⟩) L.length c1))
  rw [← hw4]
  clear hw4 v2 y2
  replace F0:=hid_ (F0.out.then_only f4 (.inr (Nat.le_refl _)))
  replace BR:=hid_ (BR.out.fr f4 (only_ne (by omega)))
  have O4:=hid_ (own_fr O3.out f4 (fun k hk=>only_ne (by have:=(O3.out.lt k hk).1;omega)))
  clear f4
  have v0:wz4.cell? ⟨w.heap.size,0,none⟩=some (.int .i64 slots):=BW.out.cell' rfl
  have v1:wz4.cell? ⟨w.heap.size,1,none⟩=some (.int .i64 last):=BW.out.cell' rfl
  have v2:wz4.cell? ⟨w.heap.size,2,none⟩=some (.slice (some ⟨gq,0,none⟩) L.length c1):=BW.out.cell' rfl
  go_wp2_with (refine wpList_store_mid rfl 35 (.tmp 4) (.tmp 35) rfl (w.heap.size+1+1) 0 (#[.int .i64 slots,.int .i64 last,.slice (some ⟨gq,0,none⟩) L.length c1]) rfl rfl (BR.out.there4 rfl) (by kernel_rfl) (by simp [Value.oneCell']) ?_;obtain ⟨e1,he1⟩:∃ z,z=wz4.setCells (w.heap.size+1+1) 0 (#[.int .i64 slots,.int .i64 last,.slice (some ⟨gq,0,none⟩) L.length c1]).toList:=⟨_,rfl⟩;have ove1:=Blk.over4 BR.out (#[.int .i64 slots,.int .i64 last,.slice (some ⟨gq,0,none⟩) L.length c1]).toList rfl;rw [← he1] at ove1;change wpList _ _ _ _ _ (wz4.setCells (w.heap.size+1+1) 0 (#[.int .i64 slots,.int .i64 last,.slice (some ⟨gq,0,none⟩) L.length c1]).toList);rw [← he1];clear he1;replace BR:=hid_ ove1.1;replace F0:=hid_ (F0.out.then_only ove1.2 (.inr (by omega))))
  have r0:=BR.out.cell' (i:=0) rfl
  have r1:=BR.out.cell' (i:=1) rfl
  have r2:=BR.out.cell' (i:=2) rfl
  have O5:=hid_ (own_fr O4.out ove1.2 (fun k hk=>only_ne (by have:=(O4.out.lt k hk).1;omega)))
  have hln:(L.set i (deadP p)).length=L.length:=by simp
  refine bodyPost_ret (v:=.tuple #[.agg #[.int .i64 slots,.int .i64 last,.slice (some ⟨gq,0,none⟩) L.length c1],.int .i64 0]) ?_ rfl ⟨L.set i (deadP p),some ⟨gq,0,none⟩,c1,0,Or.inr (Or.inr ⟨hI.out,i,p,HK.out,HP.out.1,HP.out.2.1,HP.out.2.2.1,HP.out.2.2.2,rfl,rfl⟩),by rw [raV,raA,hln],?_,Or.inr (fun ad had=>by cases had;show w.heap.size≤gq;omega),F0.out⟩
  ·simp [results,Tryz.results43,go_sem,r0,r1,r2]
  ·have hm:∀ q ∈ L.set i (deadP p),∃ q' ∈ L,q.R=q'.R∧q.A=q'.A∧q.B=q'.B:=by
    intro q hq
    rcases List.mem_or_eq_of_mem_set hq with hq | rfl
    ·exact ⟨q,hq,rfl,rfl,rfl⟩
    ·exact ⟨p,List.mem_of_getElem? HP.out.1,rfl,rfl,rfl⟩
   refine ⟨?_,by rw [hln];exact hc1,hm1,by rw [hln];exact hl,fun q hq=>?_,fun q hq=>?_⟩
   ·rw [hln,ptFlat_dead L i p HP.out.1];exact Reads.of_own O5.out
   ·obtain ⟨q',hq',a1,a2,a3⟩:=hm q hq
    rw [a1,a2,a3]
    exact (HW.out.recs q' hq').keep F0.out
   ·obtain ⟨q',hq',a1,a2,a3⟩:=hm q hq
    rw [a1]
    exact HW.out.sz q' hq'
end Go.Proofs.YthcpccddcgbanaaGreatDoor

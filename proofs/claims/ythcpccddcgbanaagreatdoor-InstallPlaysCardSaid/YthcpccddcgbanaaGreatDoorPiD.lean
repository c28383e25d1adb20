/- Texts of one proof, merged: Rb10. -/
import Derived.Deep.DeepCutAuto
import Derived.Deep.MidRow
import Derived.Test.YthcpccddcgbanaaGreatDoorPiC
namespace Go.Proofs.YthcpccddcgbanaaGreatDoor
open Go.RowKit
set_option maxRecDepth 100000
set_option linter.unusedVariables false

theorem Blk.there4 {w:World} {g n:Nat} {t:TypeId} {cs:Array Value} (h:Blk w g t cs) (hn:cs.size=n):w.there g 0 n:=by
  subst hn
  intro j hj
  refine ⟨?_,h.frozen _⟩
  rw [h.cell,Nat.zero_add,Array.getElem?_eq_getElem hj]
  rfl
theorem Blk.new_at4 {w:World} {b:Nat} (t:TypeId) (cs:Array Value) (h:b=w.heap.size):Blk (w.alloc (.cells cs t)) b t cs:=by
  subst h
  exact Blk.new w t cs
theorem Blk.over4 {w:World} {g:Nat} {t:TypeId} {zs:Array Value} (h:Blk w g t zs) (vs:List Value) (hz:zs.size=vs.length):Blk (w.setCells g 0 vs) g t vs.toArray∧Fr (only g) w (w.setCells g 0 vs):=by
  refine ⟨?_,Fr.setCells _ _ _ (Fr.refl _ _) (.inl rfl)⟩
  have h:=Blk.setCells vs 0 _ _ h
  have e:setA zs 0 vs=vs.toArray:=by
    apply Array.ext_getElem?
    intro k
    rcases Nat.lt_or_ge k vs.length with h1 | h1
    · have:=setA_in vs zs 0 k vs[k] (List.getElem?_eq_getElem h1) (by omega)
      rw [Nat.zero_add] at this
      rw [this,List.getElem?_toArray,List.getElem?_eq_getElem h1]
    · rw [Array.getElem?_eq_none (by rw [setA_size];omega),Array.getElem?_eq_none (by simpa using h1)]
  rwa [e] at h
section
variable {P:Program} {md:Region.Mode} {ops:Array Oper} {Q:Exit→Act→World→Prop} {S:World→Prop}
theorem wpAnyU_oneR {m i:Nat} {oi:Oper} {fuel:Nat} {listed:Array Bool} {a:Act} {w:World} (hi:ops[i]?=some oi) (hw:Region.wanted oi (yielded ops a.tmps)=true) (hr:Region.ready md ops listed=[i])
    (h:Oper.wp P oi a w (fun a' w'=>(m≤i∨S w')∧wpAnyU P md ops Q S m fuel (listed.setIfInBounds i true) a' w') Q):wpAnyU P md ops Q S m (fuel+1) listed a w:=by
  refine wpAnyU_all hr (by simp) (fun j hj=>?_)
  obtain rfl:j=i:=by simpa using hj
  unfold wpOp
  simp only [hi,hw,if_true]
  exact .inl h
end
def newOk (slots last:Int):Bool:=decide (1≤slots) && decide (slots≤4096) && decide (1≤last) && decide (last≤1099511627776)
def newV (slots last:Int):Value:=if newOk slots last=true then raV slots last [] none 0 else raV 0 0 [] none 0
def RNewPost (slots last:Int) (w:World) (e:Ending) (w':World):Prop:=e=.returned (.tuple #[newV slots last,.bool (newOk slots last)])∧Fr none_ w w'
set_option maxHeartbeats 4000000 in
theorem ranew_ok (slots last:Int) (w:World):Calls Tryz.prog 31 #[.int .i64 slots,.int .i64 last] w (RNewPost slots last w):=by
 have Z:=Blk.new w 35 #[.int .i64 0,.int .i64 0,.slice none 0 0]
 by_cases h0:slots < 1
 ·have hd0:decide (slots < 1)=true:=by simpa using h0
  have hN:=hid_ (show newOk slots last=false by simp [newOk];omega)
  go_enter Tryz.func31,Tryz.ntmps31
  go_wp2_with fail
  have q0:=Z.cell' (i:=0) rfl
  have q1:=Z.cell' (i:=1) rfl
  have q2:=Z.cell' (i:=2) rfl
  refine bodyPost_ret (v:=.tuple #[raV 0 0 [] none 0,.bool false]) ?_ rfl ⟨by rw [newV,if_neg (by rw [hN.out];decide),hN.out],(Fr.refl none_ w).alloc _⟩
  simp [results,Tryz.results31,go_sem,q0,q1,q2]
 ·have hd0:decide (slots < 1)=false:=by simpa using h0
  by_cases h1:slots > 4096
  ·have hd1:decide (slots > 4096)=true:=by simpa using h1
   have hN:=hid_ (show newOk slots last=false by simp [newOk];omega)
   go_enter Tryz.func31,Tryz.ntmps31
   go_wp2_with fail
   have q0:=Z.cell' (i:=0) rfl
   have q1:=Z.cell' (i:=1) rfl
   have q2:=Z.cell' (i:=2) rfl
   refine bodyPost_ret (v:=.tuple #[raV 0 0 [] none 0,.bool false]) ?_ rfl ⟨by rw [newV,if_neg (by rw [hN.out];decide),hN.out],(Fr.refl none_ w).alloc _⟩
   simp [results,Tryz.results31,go_sem,q0,q1,q2]
  ·have hd1:decide (slots > 4096)=false:=by simpa using h1
   by_cases h2:last < 1
   ·have hd2:decide (last < 1)=true:=by simpa using h2
    have hN:=hid_ (show newOk slots last=false by simp [newOk];omega)
    go_enter Tryz.func31,Tryz.ntmps31
    go_wp2_with fail
    have q0:=Z.cell' (i:=0) rfl
    have q1:=Z.cell' (i:=1) rfl
    have q2:=Z.cell' (i:=2) rfl
    refine bodyPost_ret (v:=.tuple #[raV 0 0 [] none 0,.bool false]) ?_ rfl ⟨by rw [newV,if_neg (by rw [hN.out];decide),hN.out],(Fr.refl none_ w).alloc _⟩
    simp [results,Tryz.results31,go_sem,q0,q1,q2]
   ·have hd2:decide (last < 1)=false:=by simpa using h2
    by_cases h3:last > 1099511627776
    ·have hd3:decide (last > 1099511627776)=true:=by simpa using h3
     have hN:=hid_ (show newOk slots last=false by simp [newOk];omega)
     go_enter Tryz.func31,Tryz.ntmps31
     go_wp2_with fail
     have q0:=Z.cell' (i:=0) rfl
     have q1:=Z.cell' (i:=1) rfl
     have q2:=Z.cell' (i:=2) rfl
     refine bodyPost_ret (v:=.tuple #[raV 0 0 [] none 0,.bool false]) ?_ rfl ⟨by rw [newV,if_neg (by rw [hN.out];decide),hN.out],(Fr.refl none_ w).alloc _⟩
     simp [results,Tryz.results31,go_sem,q0,q1,q2]
    ·have hd3:decide (last > 1099511627776)=false:=by simpa using h3
     have hN:=hid_ (show newOk slots last=true by simp [newOk];omega)
     go_enter Tryz.func31,Tryz.ntmps31
     go_wp2_with fail
     have q:=Blk.new w 35 #[.int .i64 slots,.int .i64 last,.slice none 0 0]
     have q0:=q.cell' (i:=0) rfl
     have q1:=q.cell' (i:=1) rfl
     have q2:=q.cell' (i:=2) rfl
     refine bodyPost_ret (v:=.tuple #[raV slots last [] none 0,.bool true]) ?_ rfl ⟨by rw [newV,if_pos hN.out,hN.out],?_⟩
     ·simp [results,Tryz.results31,go_sem,q0,q1,q2]
     ·exact (Fr.refl none_ w).alloc _
theorem pt_one (p:RaP):∀ u ∈ ptLA p,u.oneCell'=true:=by
  have:=ptFlat_one [p]
  simpa [ptFlat] using this
theorem reads_blk4 {w:World} {t:TypeId} {cs:List Value} {b:Nat} (h:Blk w b t cs.toArray):Reads w cs.length (some ⟨b,0,none⟩) 1 cs:=
  ⟨by simp,fun _=>⟨_,rfl,fun j u hu=>by rw [add_lit,Nat.zero_add];exact h.cell' (by simpa using hu)⟩⟩
theorem rput_info:(Tryz.prog.info? 156).map (fun i=>(i.zero,i.size,i.bytes))=some (some (.agg (ptLA ⟨0,0,Rc.zero,none,0,none,0,false⟩).toArray),18,216):=by kernel_rfl
def whyTo (L:List RaP):Nat→Int
  | 0=>3
  | n+1=>if (slotP L ((n:Int)+1)).2=false then 5 else whyTo L n
def NoSlot (last:Int) (L:List RaP) (n:Nat):Prop:=∀ j:Nat,1≤j→j≤n→(slotP L j).2=true∨last≤(slotP L j).1
theorem NoSlot.zero (last:Int) (L:List RaP):NoSlot last L 0:=fun j h1 h2=>by omega
theorem NoSlot.snoc {last:Int} {L:List RaP} {n:Nat} (h:NoSlot last L n) (h1:(slotP L (n+1:Nat)).2=true∨last≤(slotP L (n+1:Nat)).1):NoSlot last L (n+1):=by
  intro j hj hj2
  rcases Nat.lt_or_eq_of_le hj2 with h' | rfl
  · exact h j hj (by omega)
  · exact h1
def RAllocPost (slots last:Int) (L:List RaP) (R:Rc) (A:Option Addr) (c:Nat) (A':Option Addr) (ca:Nat) (B':Option Addr) (cb:Nat) (w:World) (e:Ending) (w':World):Prop:=
  (∃ (i:Nat) (A2:Option Addr) (c2:Nat),(i:Int)+1≤slots∧NoSlot last L i∧(slotP L (i+1:Nat)).2=false∧(slotP L (i+1:Nat)).1 < last∧e=.returned (.tuple #[raV slots last (L ++ [⟨(i:Int)+1,(slotP L (i+1:Nat)).1+1,R,A',ca,B',cb,true⟩]) A2 c2,.agg #[.int .i64 ((i:Int)+1),.int .i64 ((slotP L (i+1:Nat)).1+1)],.int .i64 0])∧RaIn w' (L ++ [⟨(i:Int)+1,(slotP L (i+1:Nat)).1+1,R,A',ca,B',cb,true⟩]) A2 c2∧(∀ ad,A2=some ad→w.heap.size≤ad.block)∧Fr none_ w w') ∨
  (NoSlot last L slots.toNat∧e=.returned (.tuple #[raV slots last L A c,.agg #[.int .i64 0,.int .i64 0],.int .i64 (whyTo L slots.toNat)])∧RaIn w' L A c∧Fr none_ w w')
set_option maxHeartbeats 16000000 in
theorem ralloc_ok (slots last:Int) (L:List RaP) (A:Option Addr) (c:Nat) (R:Rc) (A':Option Addr) (ca:Nat) (B':Option Addr) (cb:Nat) (w:World) (hs1:1≤slots) (hs2:slots≤4096) (hlast:last≤1099511627776) (hgen:∀ n:Nat,0≤(slotP L n).1) (hlen:L.length < 5000) (h:RaIn w L A c) (hr:RecReads w R A' B') (hz:R.rows.length≤1000∧R.ents.length≤1000) :
  Calls Tryz.prog 34 #[raV slots last L A c,.agg (recA R (.slice A' R.rows.length ca) (.slice B' R.ents.length cb))] w (RAllocPost slots last L R A c A' ca B' cb w):=by
 obtain ⟨w0,hw0⟩:∃ z,z=(((w.alloc (.cells (raA slots last L A c) 35)).alloc (.cells (recA R (.slice A' R.rows.length ca) (.slice B' R.ents.length cb)) 55)).alloc (.cells #[.int .i64 0,.int .i64 0,.slice none 0 0] 35)).alloc (.cells #[.int .i64 0,.int .i64 0] 48):=⟨_,rfl⟩
 have f0:Fr none_ w w0:=by rw [hw0];exact ((((Fr.refl none_ w).alloc _).alloc _).alloc _).alloc _
 have BV:Hid (Blk w0 w.heap.size 35 (raA slots last L A c)):=hid_ (by rw [hw0];exact (((Blk.new w _ _).alloc _).alloc _).alloc _)
 have BR:Hid (Blk w0 (w.heap.size+1) 55 (recA R (.slice A' R.rows.length ca) (.slice B' R.ents.length cb))):=hid_ (by rw [hw0];exact ((Blk.new_at4 _ _ (by simp)).alloc _).alloc _)
 have BA:Hid (Blk w0 (w.heap.size+1+1) 35 #[.int .i64 0,.int .i64 0,.slice none 0 0]):=hid_ (by rw [hw0];exact (Blk.new_at4 _ _ (by simp)).alloc _)
 have BX:Hid (Blk w0 (w.heap.size+1+1+1) 48 #[.int .i64 0,.int .i64 0]):=hid_ (by rw [hw0];exact Blk.new_at4 _ _ (by simp))
 have HW:=hid_ h
 have HRW:=hid_ hr
 have H:=hid_ (h.keep f0)
 have HR:=hid_ (hr.keep f0)
 have HZ:=hid_ hz
 have HG:=hid_ hgen
 have F0:=hid_ f0
 have hlt0:=BX.out.lt
 have hcap:=h.cap
 have hcm:=h.capm
 unfold maxLen at hcm
 clear f0 h hr hz hgen
 go_enter Tryz.func34,Tryz.ntmps34
 go_upto_region 3 with fail
 change Code.wp _ _ _ _ ((((w.alloc (.cells (raA slots last L A c) 35)).alloc (.cells (recA R (.slice A' R.rows.length ca) (.slice B' R.ents.length cb)) 55)).alloc (.cells #[.int .i64 0,.int .i64 0,.slice none 0 0] 35)).alloc (.cells #[.int .i64 0,.int .i64 0] 48))
 rw [← hw0]
 clear hw0
 go_wp2_with fail
 go_loopw [7,8] (fun y i wr=>∃ n:Nat,(n:Int)≤slots∧i=.int .i64 ((n:Int)+1)∧y=.int .i64 (whyTo L n)∧NoSlot last L n∧Fr none_ w0 wr) (fun _ i _=>slots.toNat+1 - (intOf i).toNat)
 case atStart=>exact ⟨0,by omega,rfl,rfl,NoSlot.zero _ _,Fr.refl _ _⟩
 case round =>
  obtain ⟨n,hn,rfl,rfl,hno,hfr⟩:=hrel
  have NO:=hid_ hno
  have FR:=hid_ hfr
  have v0:wr.cell? ⟨w.heap.size,0,none⟩=some (.int .i64 slots):=(BV.out.fr hfr id).cell' rfl
  have v1:wr.cell? ⟨w.heap.size,1,none⟩=some (.int .i64 last):=(BV.out.fr hfr id).cell' rfl
  have v2:wr.cell? ⟨w.heap.size,2,none⟩=some (.slice A L.length c):=(BV.out.fr hfr id).cell' rfl
  clear hno hfr
  by_cases hlt:(n:Int)+1≤slots
  ·have hd:decide ((n:Int)+1≤slots)=true:=by simpa using hlt
   go_wp2_with fail
   refine (rslot_ok slots last L A c ((n:Int)+1) wr (H.out.keep FR.out)).mono ?_
   rintro e wa ⟨rfl,hf⟩
   have FA:=hid_ (FR.out.then_none hf)
   clear v0 v1 v2 hf
   obtain ⟨g,hg⟩:∃ g,(slotP L ((n:Int)+1)).1=g:=⟨_,rfl⟩
   obtain ⟨u,hu⟩:∃ u,(slotP L ((n:Int)+1)).2=u:=⟨_,rfl⟩
   have hg0:0≤g:=by rw [← hg];exact HG.out (n+1)
   rw [hg,hu]
   have HGU:=hid_ (And.intro hg hu)
   clear hg hu
   have v1:wa.cell? ⟨w.heap.size,1,none⟩=some (.int .i64 last):=(BV.out.fr FA.out id).cell' rfl
   cases u with
   | true =>
    go_wp2_with fail
    go_roundw
    case rel=>exact ⟨n+1,by omega,by go_num,by rw [whyTo,if_neg (show ¬ (slotP L ((n:Int)+1)).2=false by rw [HGU.out.2];decide)],NO.out.snoc (.inl HGU.out.2),FA.out⟩
    case measure=>simp [intOf];omega
   | false =>
    by_cases hgl:g < last
    ·have hd2:decide (g < last)=true:=by simpa using hgl
    
     have hwr:IntKind.i64.wrap (g+1)=g+1:=IntWalk.i64_in _ (by omega)
     have hSZ:=hlt0
     have hwa:=FA.out.size
     go_upto_region 8 with fail
     obtain ⟨w1,hw1⟩:∃ z,z=(wa.alloc (.cells #[.int .i64 ((n:Int)+1),.int .i64 (g+1)] 48)):=⟨_,rfl⟩
     have f1:Fr none_ wa w1:=by rw [hw1];exact (Fr.refl none_ wa).alloc _
     have BT:Hid (Blk w1 wa.heap.size 48 #[.int .i64 ((n:Int)+1),.int .i64 (g+1)]):=hid_ (by rw [hw1];exact Blk.new wa _ _)
     have ht1:wa.heap.size < w1.heap.size:=BT.out.lt
     change Code.wp _ _ _ _ (wa.alloc (.cells #[.int .i64 ((n:Int)+1),.int .i64 (g+1)] 48))
     rw [← hw1]
     clear hw1
     have F1:=hid_ (FA.out.then_none f1)
     clear f1 v1
     replace BV:=hid_ (BV.out.fr F1.out id)
     replace BR:=hid_ (BR.out.fr F1.out id)
     replace BA:=hid_ (BA.out.fr F1.out id)
     replace BX:=hid_ (BX.out.fr F1.out id)
     replace H:=hid_ (H.out.keep F1.out)
     replace HR:=hid_ (HR.out.keep F1.out)
     obtain ⟨i0,hi0,hx0⟩:=Option.map_eq_some_iff.1 rput_info
     injection hx0 with hz0 hx0
     injection hx0 with hs0 hb0
     have Hi:=hid_ (And.intro hi0 (And.intro hz0 (And.intro hs0 hb0)))
     clear hi0 hz0 hs0 hb0
     have FW1:=hid_ (Fr.refl none_ w1)
     go_cut [44] (fun u wq=>∃ (A2:Option Addr) (c2:Nat),u=.slice A2 (L.length+1) c2∧wq.ownsRow w1.heap.size 156 18 (.slice A2 (L.length+1) c2) (L.length+1) (ptFlat L ++ ptLA (⟨(n:Int)+1,g+1,R,A',ca,B',cb,true⟩:RaP))∧Blk wq w.heap.size 35 #[.int .i64 slots,.int .i64 last,.slice A2 (L.length+1) c2]∧Fr (only w.heap.size) w1 wq)
     case first =>
      have v2:w1.cell? ⟨w.heap.size,2,none⟩=some (.slice A L.length c):=BV.out.cell' rfl
      have t0:w1.cell? ⟨wa.heap.size,0,none⟩=some (.int .i64 ((n:Int)+1)):=BT.out.cell' rfl
      have t1:w1.cell? ⟨wa.heap.size,1,none⟩=some (.int .i64 (g+1)):=BT.out.cell' rfl
      have r0:w1.cell? ⟨w.heap.size+1,0,none⟩=some (.int .i64 R.kind):=BR.out.cell' rfl
      have r1:w1.cell? ⟨w.heap.size+1,1,none⟩=some (.string R.low):=BR.out.cell' rfl
      have r2:w1.cell? ⟨w.heap.size+1,2,none⟩=some (.string R.high):=BR.out.cell' rfl
      have r3:w1.cell? ⟨w.heap.size+1,3,none⟩=some (.bool R.unb):=BR.out.cell' rfl
      have r4:w1.cell? ⟨w.heap.size+1,4,none⟩=some (.int .i64 R.right):=BR.out.cell' rfl
      have r5:w1.cell? ⟨w.heap.size+1,5,none⟩=some ((.slice A' R.rows.length ca)):=BR.out.cell' rfl
      have r6:w1.cell? ⟨w.heap.size+1,6,none⟩=some ((.slice B' R.ents.length cb)):=BR.out.cell' rfl
      have r7:w1.cell? ⟨w.heap.size+1,7,none⟩=some (.string R.key):=BR.out.cell' rfl
      have r8:w1.cell? ⟨w.heap.size+1,8,none⟩=some (.string R.val):=BR.out.cell' rfl
      have r9:w1.cell? ⟨w.heap.size+1,9,none⟩=some (.int .i64 R.page):=BR.out.cell' rfl
      have r10:w1.cell? ⟨w.heap.size+1,10,none⟩=some (.int .i64 R.hpage):=BR.out.cell' rfl
      have r11:w1.cell? ⟨w.heap.size+1,11,none⟩=some (.int .i64 R.hleft):=BR.out.cell' rfl
      have r12:w1.cell? ⟨w.heap.size+1,12,none⟩=some (.string R.hkey):=BR.out.cell' rfl
      have r13:w1.cell? ⟨w.heap.size+1,13,none⟩=some (.int .i64 R.nslot):=BR.out.cell' rfl
      have r14:w1.cell? ⟨w.heap.size+1,14,none⟩=some (.int .i64 R.ngen):=BR.out.cell' rfl
      have hS:(fun w':World=>Fr none_ w1 w') w1.drew:=(Fr.refl none_ w1).drew
      refine wp_region_U (m:=10) (S:=(fun w':World=>Fr none_ w1 w')) (by kernel_rfl) ?_
      refine wpAnyU_take2 (i:=1) (v:=_) rfl (by kernel_rfl) (by kernel_rfl) (by kernel_rfl) (by kernel_rfl) (fun _ _ _ h=>h) (.inl ⟨by kernel_rfl,fun w' hS=>by go_simp;rfl⟩) hS ?_
      refine wpAnyU_take2 (i:=2) (v:=_) rfl (by kernel_rfl) (by kernel_rfl) (by kernel_rfl) (by kernel_rfl) (fun _ _ _ h=>h) (.inl ⟨by kernel_rfl,fun w' hS=>by have s_:=cellFr v2 hS;go_simp;rfl⟩) hS ?_
      refine wpAnyU_take2 (i:=4) (v:=_) rfl (by kernel_rfl) (by kernel_rfl) (by kernel_rfl) (by kernel_rfl) (fun _ _ _ h=>h) (.inl ⟨by kernel_rfl,fun w' hS=>by have s_:=cellFr t0 hS;have s_1:=cellFr t1 hS;go_simp;rfl⟩) hS ?_
      refine wpAnyU_take2 (i:=5) (v:=_) rfl (by kernel_rfl) (by kernel_rfl) (by kernel_rfl) (by kernel_rfl) (fun _ _ _ h=>h) (.inl ⟨by kernel_rfl,fun w' hS=>by have s_0:=cellFr r0 hS;have s_1:=cellFr r1 hS;have s_2:=cellFr r2 hS;have s_3:=cellFr r3 hS;have s_4:=cellFr r4 hS;have s_5:=cellFr r5 hS;have s_6:=cellFr r6 hS;have s_7:=cellFr r7 hS;have s_8:=cellFr r8 hS;have s_9:=cellFr r9 hS;have s_10:=cellFr r10 hS;have s_11:=cellFr r11 hS;have s_12:=cellFr r12 hS;have s_13:=cellFr r13 hS;have s_14:=cellFr r14 hS;go_simp;rfl⟩) hS ?_
      refine wpAnyU_take2 (i:=6) (v:=_) rfl (by kernel_rfl) (by kernel_rfl) (by kernel_rfl) (by kernel_rfl) (fun _ _ _ h=>h) (.inl ⟨by kernel_rfl,fun w' hS=>by go_simp;rfl⟩) hS ?_
      clear v2 t0 t1 r0 r1 r2 r3 r4 r5 r6 r7 r8 r9 r10 r11 r12 r13 r14
      replace hS:Fr none_ w1 w1.drew:=hS
      refine wpAnyU_two (i:=0) (j:=7) rfl rfl rfl rfl (by kernel_rfl) ?_ ?_
      ·go_simp
       obtain ⟨y1,hy1⟩:∃ z,z=(w1.alloc (.cells #[] 156)).drew:=⟨_,rfl⟩
       have sy1:w1.heap.size < y1.heap.size:=by rw [hy1];simp [World.size_alloc]
       have fy2:Fr none_ w1 y1:=by rw [hy1];exact ((Fr.refl none_ _).alloc _).drew
       have OE:Hid (y1.ownsRow w1.heap.size 156 18 (.slice (some ⟨w1.heap.size,0,none⟩) 0 0) 0 []):=hid_ (by rw [hy1];exact own_none (own_empty w1 _ _ _ (Nat.le_refl _)) (Fr.refl none_ _).drew)
       have F3:=fy2
       change _∧wpAnyU _ _ _ _ _ _ _ _ _ ((w1.alloc (.cells #[] 156)).drew)
       rw [← hy1]
       refine ⟨F3,?_⟩
       clear hy1 
       refine wpAnyU_two (i:=3) (j:=7) rfl rfl rfl rfl (by kernel_rfl) ?_ ?_
       ·skip
        refine wp_append_any _ (.tmp 36) (.tmp 38) 33 rfl w1.heap.size 156 i0 _ 18 216 Tryz.underlying33 Hi.out.1 Hi.out.2.1 Hi.out.2.2.1 Hi.out.2.2.2 rfl (by omega) (.slice (some ⟨w1.heap.size,0,none⟩) 0 0) 0 [] rfl OE.out A L.length c (ptFlat L) rfl (H.out.rd.none_fr F3) (ptFlat_one L) (by simp only [maxLen];omega) (by omega) F3.size ?_
        intro A1 c1 y4 hown hgr
        simp only [Nat.zero_add,List.nil_append] at hown ⊢
        have O1:=hid_ hown
        have F5:=F3.grown hgr (fun k hk=>.inr (by have:=(OE.out.lt k hk).1;omega))
        refine ⟨.inr F5,?_⟩
        clear hown hgr
        refine wpAnyU_oneR (i:=7) rfl (by kernel_rfl) (by kernel_rfl) ?_
        go_simp
        obtain ⟨y6,hy6⟩:∃ z,z=y4.alloc (.cells (ptLA (⟨(n:Int)+1,g+1,R,A',ca,B',cb,true⟩:RaP)).toArray 156):=⟨_,rfl⟩
        have sy6:y4.heap.size < y6.heap.size:=by rw [hy6];simp [World.size_alloc]
        have fy7:Fr none_ y4 y6:=by rw [hy6];exact ((Fr.refl none_ _).alloc _)
        replace O1:=hid_ (own_none O1.out fy7)
        have BE:Hid (Blk y6 y4.heap.size 156 (ptLA (⟨(n:Int)+1,g+1,R,A',ca,B',cb,true⟩:RaP)).toArray):=hid_ (by rw [hy6];exact (Blk.new _ _ _))
        have F8:=F5.then_none fy7
        change _∧wpAnyU _ _ _ _ _ _ _ _ _ (y4.alloc (.cells (ptLA (⟨(n:Int)+1,g+1,R,A',ca,B',cb,true⟩:RaP)).toArray 156))
        rw [← hy6]
        refine ⟨F8,?_⟩
        clear hy6 fy7
        refine wpAnyU_oneR (i:=8) rfl (by kernel_rfl) (by kernel_rfl) ?_
        refine wp_append_any _ (.tmp 39) (.tmp 43) 33 rfl w1.heap.size 156 i0 _ 18 216 Tryz.underlying33 Hi.out.1 Hi.out.2.1 Hi.out.2.2.1 Hi.out.2.2.2 rfl (by omega) (.slice A1 L.length c1) L.length (ptFlat L) rfl O1.out (some ⟨y4.heap.size,0,none⟩) 1 1 (ptLA (⟨(n:Int)+1,g+1,R,A',ca,B',cb,true⟩:RaP)) rfl (reads_blk4 BE.out) (pt_one _) (by simp only [maxLen];omega) (by omega) F8.size ?_
        intro A2 c2 y9 hown hgr
        have O2:=hid_ hown
        have F10:=F8.grown hgr (fun k hk=>.inr (O1.out.lt k hk).1)
        refine ⟨.inr F10,?_⟩
        clear hown hgr
        have BZ:=BV.out.fr F10 id
        have z2:=BZ.cell' (i:=2) rfl
        have z2f:=BZ.frozen 2
        refine wpAnyU_take2 (i:=9) (v:=_) rfl (by kernel_rfl) (by kernel_rfl) (by kernel_rfl) (by kernel_rfl) (fun _ _ _ h=>h) (.inl ⟨by kernel_rfl,fun w' hS=>by go_simp;rfl⟩) F10 ?_
        refine wpAnyU_oneR (i:=10) rfl (by kernel_rfl) (by kernel_rfl) ?_
        go_simp
        have hst:Fr (only w.heap.size) y9 (y9.setCell ⟨w.heap.size,2,none⟩ (.slice A2 (L.length+1) c2)):=Fr.setCell (p:=⟨w.heap.size,2,none⟩) (Fr.refl (only w.heap.size) y9) (.inl rfl) _
        refine wpAnyU_done (by kernel_rfl) ?_ _
        go_wp2_with fail
        go_meet
        refine ⟨A2,c2,rfl,own_fr O2.out hst (fun k hk=>?_),BZ.set_ 2 _,Fr.setCell (p:=⟨w.heap.size,2,none⟩) ((Fr.refl (only w.heap.size) w1).then_none F10) (.inl rfl) _⟩
        ·have:=(O2.out.lt k hk).1
         exact only_ne (by omega)
       ·go_simp
        obtain ⟨y11,hy11⟩:∃ z,z=y1.alloc (.cells (ptLA (⟨(n:Int)+1,g+1,R,A',ca,B',cb,true⟩:RaP)).toArray 156):=⟨_,rfl⟩
        have sy11:y1.heap.size < y11.heap.size:=by rw [hy11];simp [World.size_alloc]
        have fy12:Fr none_ y1 y11:=by rw [hy11];exact ((Fr.refl none_ _).alloc _)
        replace OE:=hid_ (own_none OE.out fy12)
        have BE:Hid (Blk y11 y1.heap.size 156 (ptLA (⟨(n:Int)+1,g+1,R,A',ca,B',cb,true⟩:RaP)).toArray):=hid_ (by rw [hy11];exact (Blk.new _ _ _))
        have F13:=F3.then_none fy12
        change _∧wpAnyU _ _ _ _ _ _ _ _ _ (y1.alloc (.cells (ptLA (⟨(n:Int)+1,g+1,R,A',ca,B',cb,true⟩:RaP)).toArray 156))
        rw [← hy11]
        refine ⟨F13,?_⟩
        clear hy11 fy12
        refine wpAnyU_oneR (i:=3) rfl (by kernel_rfl) (by kernel_rfl) ?_
        refine wp_append_any _ (.tmp 36) (.tmp 38) 33 rfl w1.heap.size 156 i0 _ 18 216 Tryz.underlying33 Hi.out.1 Hi.out.2.1 Hi.out.2.2.1 Hi.out.2.2.2 rfl (by omega) (.slice (some ⟨w1.heap.size,0,none⟩) 0 0) 0 [] rfl OE.out A L.length c (ptFlat L) rfl (H.out.rd.none_fr F13) (ptFlat_one L) (by simp only [maxLen];omega) (by omega) F13.size ?_
        intro A1 c1 y14 hown hgr
        simp only [Nat.zero_add,List.nil_append] at hown ⊢
        have O1:=hid_ hown
        have F15:=F13.grown hgr (fun k hk=>.inr (by have:=(OE.out.lt k hk).1;omega))
        have sy14:=hgr.size
        replace BE:=hid_ (BE.out.fr (Fr.grown (S:=fun b=>(Value.slice (some ⟨w1.heap.size,0,none⟩) 0 0).ownBlock=some b) (Fr.refl _ _) hgr (fun k hk=>.inl hk)) (fun hk=>by simp [Value.ownBlock] at hk;omega))
        refine ⟨.inr F15,?_⟩
        clear hown hgr
        refine wpAnyU_oneR (i:=8) rfl (by kernel_rfl) (by kernel_rfl) ?_
        refine wp_append_any _ (.tmp 39) (.tmp 43) 33 rfl w1.heap.size 156 i0 _ 18 216 Tryz.underlying33 Hi.out.1 Hi.out.2.1 Hi.out.2.2.1 Hi.out.2.2.2 rfl (by omega) (.slice A1 L.length c1) L.length (ptFlat L) rfl O1.out (some ⟨y1.heap.size,0,none⟩) 1 1 (ptLA (⟨(n:Int)+1,g+1,R,A',ca,B',cb,true⟩:RaP)) rfl (reads_blk4 BE.out) (pt_one _) (by simp only [maxLen];omega) (by omega) F15.size ?_
        intro A2 c2 y16 hown hgr
        have O2:=hid_ hown
        have F17:=F15.grown hgr (fun k hk=>.inr (O1.out.lt k hk).1)
        refine ⟨.inr F17,?_⟩
        clear hown hgr
        have BZ:=BV.out.fr F17 id
        have z2:=BZ.cell' (i:=2) rfl
        have z2f:=BZ.frozen 2
        refine wpAnyU_take2 (i:=9) (v:=_) rfl (by kernel_rfl) (by kernel_rfl) (by kernel_rfl) (by kernel_rfl) (fun _ _ _ h=>h) (.inl ⟨by kernel_rfl,fun w' hS=>by go_simp;rfl⟩) F17 ?_
        refine wpAnyU_oneR (i:=10) rfl (by kernel_rfl) (by kernel_rfl) ?_
        go_simp
        have hst:Fr (only w.heap.size) y16 (y16.setCell ⟨w.heap.size,2,none⟩ (.slice A2 (L.length+1) c2)):=Fr.setCell (p:=⟨w.heap.size,2,none⟩) (Fr.refl (only w.heap.size) y16) (.inl rfl) _
        refine wpAnyU_done (by kernel_rfl) ?_ _
        go_wp2_with fail
        go_meet
        refine ⟨A2,c2,rfl,own_fr O2.out hst (fun k hk=>?_),BZ.set_ 2 _,Fr.setCell (p:=⟨w.heap.size,2,none⟩) ((Fr.refl (only w.heap.size) w1).then_none F17) (.inl rfl) _⟩
        ·have:=(O2.out.lt k hk).1
         exact only_ne (by omega)
      ·go_simp
       obtain ⟨y18,hy18⟩:∃ z,z=(w1.alloc (.cells (ptLA (⟨(n:Int)+1,g+1,R,A',ca,B',cb,true⟩:RaP)).toArray 156)).drew:=⟨_,rfl⟩
       have sy18:w1.heap.size < y18.heap.size:=by rw [hy18];simp [World.size_alloc]
       have fy19:Fr none_ w1 y18:=by rw [hy18];exact ((Fr.refl none_ _).alloc _).drew
       have BE:Hid (Blk y18 w1.heap.size 156 (ptLA (⟨(n:Int)+1,g+1,R,A',ca,B',cb,true⟩:RaP)).toArray):=hid_ (by rw [hy18];exact (Blk.new _ _ _).drew)
       have F20:=fy19
       change _∧wpAnyU _ _ _ _ _ _ _ _ _ ((w1.alloc (.cells (ptLA (⟨(n:Int)+1,g+1,R,A',ca,B',cb,true⟩:RaP)).toArray 156)).drew)
       rw [← hy18]
       refine ⟨F20,?_⟩
       clear hy18 
       refine wpAnyU_oneR (i:=0) rfl (by kernel_rfl) (by kernel_rfl) ?_
       go_simp
       obtain ⟨y21,hy21⟩:∃ z,z=y18.alloc (.cells #[] 156):=⟨_,rfl⟩
       have sy21:y18.heap.size < y21.heap.size:=by rw [hy21];simp [World.size_alloc]
       have fy22:Fr none_ y18 y21:=by rw [hy21];exact ((Fr.refl none_ _).alloc _)
       replace BE:=hid_ (BE.out.fr fy22 id)
       have OE:Hid (y21.ownsRow w1.heap.size 156 18 (.slice (some ⟨y18.heap.size,0,none⟩) 0 0) 0 []):=hid_ (by rw [hy21];exact own_empty y18 _ _ _ F20.size)
       have F23:=F20.then_none fy22
       change _∧wpAnyU _ _ _ _ _ _ _ _ _ (y18.alloc (.cells #[] 156))
       rw [← hy21]
       refine ⟨F23,?_⟩
       clear hy21 fy22
       refine wpAnyU_oneR (i:=3) rfl (by kernel_rfl) (by kernel_rfl) ?_
       refine wp_append_any _ (.tmp 36) (.tmp 38) 33 rfl w1.heap.size 156 i0 _ 18 216 Tryz.underlying33 Hi.out.1 Hi.out.2.1 Hi.out.2.2.1 Hi.out.2.2.2 rfl (by omega) (.slice (some ⟨y18.heap.size,0,none⟩) 0 0) 0 [] rfl OE.out A L.length c (ptFlat L) rfl (H.out.rd.none_fr F23) (ptFlat_one L) (by simp only [maxLen];omega) (by omega) F23.size ?_
       intro A1 c1 y24 hown hgr
       simp only [Nat.zero_add,List.nil_append] at hown ⊢
       have O1:=hid_ hown
       have F25:=F23.grown hgr (fun k hk=>.inr (by have:=(OE.out.lt k hk).1;omega))
       have sy24:=hgr.size
       replace BE:=hid_ (BE.out.fr (Fr.grown (S:=fun b=>(Value.slice (some ⟨y18.heap.size,0,none⟩) 0 0).ownBlock=some b) (Fr.refl _ _) hgr (fun k hk=>.inl hk)) (fun hk=>by simp [Value.ownBlock] at hk;omega))
       refine ⟨.inr F25,?_⟩
       clear hown hgr
       refine wpAnyU_oneR (i:=8) rfl (by kernel_rfl) (by kernel_rfl) ?_
       refine wp_append_any _ (.tmp 39) (.tmp 43) 33 rfl w1.heap.size 156 i0 _ 18 216 Tryz.underlying33 Hi.out.1 Hi.out.2.1 Hi.out.2.2.1 Hi.out.2.2.2 rfl (by omega) (.slice A1 L.length c1) L.length (ptFlat L) rfl O1.out (some ⟨w1.heap.size,0,none⟩) 1 1 (ptLA (⟨(n:Int)+1,g+1,R,A',ca,B',cb,true⟩:RaP)) rfl (reads_blk4 BE.out) (pt_one _) (by simp only [maxLen];omega) (by omega) F25.size ?_
       intro A2 c2 y26 hown hgr
       have O2:=hid_ hown
       have F27:=F25.grown hgr (fun k hk=>.inr (O1.out.lt k hk).1)
       refine ⟨.inr F27,?_⟩
       clear hown hgr
       have BZ:=BV.out.fr F27 id
       have z2:=BZ.cell' (i:=2) rfl
       have z2f:=BZ.frozen 2
       refine wpAnyU_take2 (i:=9) (v:=_) rfl (by kernel_rfl) (by kernel_rfl) (by kernel_rfl) (by kernel_rfl) (fun _ _ _ h=>h) (.inl ⟨by kernel_rfl,fun w' hS=>by go_simp;rfl⟩) F27 ?_
       refine wpAnyU_oneR (i:=10) rfl (by kernel_rfl) (by kernel_rfl) ?_
       go_simp
       have hst:Fr (only w.heap.size) y26 (y26.setCell ⟨w.heap.size,2,none⟩ (.slice A2 (L.length+1) c2)):=Fr.setCell (p:=⟨w.heap.size,2,none⟩) (Fr.refl (only w.heap.size) y26) (.inl rfl) _
       refine wpAnyU_done (by kernel_rfl) ?_ _
       go_wp2_with fail
       go_meet
       refine ⟨A2,c2,rfl,own_fr O2.out hst (fun k hk=>?_),BZ.set_ 2 _,Fr.setCell (p:=⟨w.heap.size,2,none⟩) ((Fr.refl (only w.heap.size) w1).then_none F27) (.inl rfl) _⟩
       ·have:=(O2.out.lt k hk).1
        exact only_ne (by omega)
     case rest =>
      obtain ⟨A2,c2,rfl,hown,hbv,hf⟩:=hcut
      have O2:=hid_ hown
      have HP:=own_parts hown
      have BW:=hid_ hbv
      have FW:=hid_ (Fr.refl none_ wc)
      replace BT:=hid_ (BT.out.fr hf (only_ne (by omega)))
      replace BA:=hid_ (BA.out.fr hf (only_ne (by omega)))
      replace BX:=hid_ (BX.out.fr hf (only_ne (by omega)))
      have F2:Hid (Fr none_ w wc):=hid_ ((F0.out.then_none F1.out).then_only hf (.inr (Nat.le_refl _)))
      clear hown hbv hf
      have v0:wc.cell? ⟨w.heap.size,0,none⟩=some (.int .i64 slots):=BW.out.cell' rfl
      have v1:wc.cell? ⟨w.heap.size,1,none⟩=some (.int .i64 last):=BW.out.cell' rfl
      have v2:wc.cell? ⟨w.heap.size,2,none⟩=some (.slice A2 (L.length+1) c2):=BW.out.cell' rfl
      have t0:wc.cell? ⟨wa.heap.size,0,none⟩=some (.int .i64 ((n:Int)+1)):=BT.out.cell' rfl
      have t1:wc.cell? ⟨wa.heap.size,1,none⟩=some (.int .i64 (g+1)):=BT.out.cell' rfl
      have ho2:∀ k,(Value.slice A2 (L.length+1) c2).ownBlock=some k→w1.heap.size≤k:=fun k hk=>(O2.out.lt k hk).1
      go_upto_region 9 with fail
      have hS:(fun w':World=>Blk w' w.heap.size 35 #[.int .i64 slots,.int .i64 last,.slice A2 (L.length+1) c2]∧Blk w' wa.heap.size 48 #[.int .i64 ((n:Int)+1),.int .i64 (g+1)]) wc.drew:=⟨BW.out.drew,BT.out.drew⟩
      refine wp_region_U (m:=5) (S:=(fun w':World=>Blk w' w.heap.size 35 #[.int .i64 slots,.int .i64 last,.slice A2 (L.length+1) c2]∧Blk w' wa.heap.size 48 #[.int .i64 ((n:Int)+1),.int .i64 (g+1)])) (by kernel_rfl) ?_
      refine wpAnyU_take2 (i:=0) (v:=_) rfl (by kernel_rfl) (by kernel_rfl) (by kernel_rfl) (by kernel_rfl) (fun _ _ _ h=>h) (.inl ⟨by kernel_rfl,fun w' hS=>by have s_0:=hS.1.cell' (i:=0) rfl;have s_1:=hS.1.cell' (i:=1) rfl;have s_2:=hS.1.cell' (i:=2) rfl;go_simp;rfl⟩) hS ?_
      refine wpAnyU_take2 (i:=1) (v:=_) rfl (by kernel_rfl) (by kernel_rfl) (by kernel_rfl) (by kernel_rfl) (fun _ _ _ h=>h) (.inl ⟨by kernel_rfl,fun w' hS=>by have s_0:=hS.2.cell' (i:=0) rfl;have s_1:=hS.2.cell' (i:=1) rfl;go_simp;rfl⟩) hS ?_
      replace BT:=hid_ BT.out.drew
      replace BW:=hid_ BW.out.drew
      replace BA:=hid_ BA.out.drew
      replace BX:=hid_ BX.out.drew
      replace F2:=hid_ F2.out.drew
      clear hS v0 v1 v2 t0 t1
      have hsz:=F2.out.size
      have FO:=hid_ ((Fr.refl (fun b=>b=w.heap.size+1+1∨b=w.heap.size+1+1+1) wc).drew)
      refine wpAnyU_oneR (i:=2) rfl (by kernel_rfl) (by kernel_rfl) ?_
      refine wp_store_mid 35 (.tmp 4) (.tmp 46) rfl (w.heap.size+1+1) 0 #[.int .i64 slots,.int .i64 last,.slice A2 (L.length+1) c2] rfl rfl (BA.out.there4 rfl) (by kernel_rfl) (by simp [Value.oneCell']) ?_
      obtain ⟨e1,he1⟩:∃ z,z=wc.drew.setCells (w.heap.size+1+1) 0 [.int .i64 slots,.int .i64 last,.slice A2 (L.length+1) c2]:=⟨_,rfl⟩
      have ove1:=Blk.over4 BA.out [.int .i64 slots,.int .i64 last,.slice A2 (L.length+1) c2] rfl
      rw [← he1] at ove1
      change _∧wpAnyU _ _ _ _ _ _ _ _ _ (wc.drew.setCells (w.heap.size+1+1) 0 [.int .i64 slots,.int .i64 last,.slice A2 (L.length+1) c2])
      rw [← he1]
      clear he1
      replace BX:=hid_ (BX.out.fr ove1.2 (only_ne (by omega)))
      replace BW:=hid_ (BW.out.fr ove1.2 (only_ne (by omega)))
      replace BT:=hid_ (BT.out.fr ove1.2 (only_ne (by omega)))
      replace FO:=hid_ (FO.out.then_only ove1.2 (.inl (by show _=_∨_=_;omega)))
      replace BA:=hid_ ove1.1
      replace F2:=hid_ (F2.out.then_only ove1.2 (.inr (by omega)))
      refine ⟨.inr ⟨BW.out,BT.out⟩,?_⟩
      refine wpAnyU_oneR (i:=3) rfl (by kernel_rfl) (by kernel_rfl) ?_
      refine wp_store_mid 48 (.tmp 5) (.tmp 47) rfl (w.heap.size+1+1+1) 0 #[.int .i64 ((n:Int)+1),.int .i64 (g+1)] rfl rfl (BX.out.there4 rfl) (by kernel_rfl) (by simp [Value.oneCell']) ?_
      obtain ⟨e2,he2⟩:∃ z,z=e1.setCells (w.heap.size+1+1+1) 0 [.int .i64 ((n:Int)+1),.int .i64 (g+1)]:=⟨_,rfl⟩
      have ove2:=Blk.over4 BX.out [.int .i64 ((n:Int)+1),.int .i64 (g+1)] rfl
      rw [← he2] at ove2
      change _∧wpAnyU _ _ _ _ _ _ _ _ _ (e1.setCells (w.heap.size+1+1+1) 0 [.int .i64 ((n:Int)+1),.int .i64 (g+1)])
      rw [← he2]
      clear he2
      replace BA:=hid_ (BA.out.fr ove2.2 (only_ne (by omega)))
      replace BW:=hid_ (BW.out.fr ove2.2 (only_ne (by omega)))
      replace BT:=hid_ (BT.out.fr ove2.2 (only_ne (by omega)))
      replace FO:=hid_ (FO.out.then_only ove2.2 (.inl (by show _=_∨_=_;omega)))
      replace BX:=hid_ ove2.1
      replace F2:=hid_ (F2.out.then_only ove2.2 (.inr (by omega)))
      refine ⟨.inr ⟨BW.out,BT.out⟩,?_⟩
      refine wpAnyU_oneR (i:=4) rfl (by kernel_rfl) (by kernel_rfl) ?_
      go_simp
      refine ⟨⟨BW.out,BT.out⟩,?_⟩
      refine wpAnyU_done (by kernel_rfl) ?_ _
      go_wp2_with fail
      have a0:=BA.out.cell' (i:=0) rfl
      have a1:=BA.out.cell' (i:=1) rfl
      have a2:=BA.out.cell' (i:=2) rfl
      have x0:=BX.out.cell' (i:=0) rfl
      have x1:=BX.out.cell' (i:=1) rfl
      have hln:(L ++ [(⟨(n:Int)+1,g+1,R,A',ca,B',cb,true⟩:RaP)]).length=L.length+1:=by simp
      refine bodyPost_ret (v:=.tuple #[.agg #[.int .i64 slots,.int .i64 last,.slice A2 (L.length+1) c2],.agg #[.int .i64 ((n:Int)+1),.int .i64 (g+1)],.int .i64 0]) ?_ rfl (Or.inl ⟨n,A2,c2,hlt,NO.out,HGU.out.2,(show (slotP L ((n:Int)+1)).1 < last by rw [HGU.out.1];exact hgl),?_,?_,(fun ad had=>by have:=ho2 ad.block (by rw [had];rfl);have:=FA.out.size;have:=F0.out.size;omega),F2.out⟩)
      ·simp [results,Tryz.results34,go_sem,a0,a1,a2,x0,x1]
      ·show _=Ending.returned (.tuple #[raV slots last (L ++ [⟨(n:Int)+1,(slotP L ((n:Int)+1)).1+1,R,A',ca,B',cb,true⟩]) A2 c2,.agg #[.int .i64 ((n:Int)+1),.int .i64 ((slotP L ((n:Int)+1)).1+1)],.int .i64 0])
       rw [HGU.out.1,show raV slots last (L ++ [(⟨(n:Int)+1,g+1,R,A',ca,B',cb,true⟩:RaP)]) A2 c2=.agg #[.int .i64 slots,.int .i64 last,.slice A2 (L.length+1) c2] by rw [raV,raA,hln]]
      ·show RaIn e2 (L ++ [⟨(n:Int)+1,(slotP L ((n:Int)+1)).1+1,R,A',ca,B',cb,true⟩]) A2 c2
       rw [HGU.out.1]
       obtain ⟨A3,c3,e3,hc3,hm3,-⟩:=HP
       cases e3
       have hO:e2.ownsRow w1.heap.size 156 18 (.slice A2 (L.length+1) c2) (L.length+1) (ptFlat L ++ ptLA (⟨(n:Int)+1,g+1,R,A',ca,B',cb,true⟩:RaP)):=own_fr O2.out FO.out (fun k hk=>by
        have:=ho2 k hk
        show ¬ (_=_∨_=_)
        omega)
       refine ⟨?_,by rw [hln];exact hc3,hm3,by rw [hln];omega,fun p hp=>?_,fun p hp=>?_⟩
       ·rw [hln,ptFlat_snoc];exact Reads.of_own hO
       ·rcases List.mem_append.1 hp with hp | hp
        ·exact (HW.out.recs p hp).keep F2.out
        ·obtain rfl:=List.mem_singleton.1 hp
         exact HRW.out.keep F2.out
       ·rcases List.mem_append.1 hp with hp | hp
        ·exact HW.out.sz p hp
        ·obtain rfl:=List.mem_singleton.1 hp
         exact HZ.out
    ·have hd2:decide (g < last)=false:=by simpa using hgl
     have hgl':last≤g:=by omega
     go_wp2_with fail
     go_roundw
     case rel=>exact ⟨n+1,by omega,by go_num,by rw [whyTo,if_pos (show (slotP L ((n:Int)+1)).2=false from HGU.out.2)],NO.out.snoc (.inr (show last≤(slotP L ((n:Int)+1)).1 by rw [HGU.out.1];exact hgl')),FA.out⟩
     case measure=>simp [intOf];omega
  ·have hd:decide ((n:Int)+1≤slots)=false:=by simpa using hlt
   obtain rfl:n=slots.toNat:=by omega
   replace BA:=hid_ (BA.out.fr FR.out id)
   replace BX:=hid_ (BX.out.fr FR.out id)
   have F2:=hid_ (F0.out.then_none FR.out)
   have hsz:=F2.out.size
   go_wp2_with (first | (refine wpList_store_mid rfl 35 (.tmp 4) (.tmp 50) rfl (w.heap.size+1+1) 0 #[.int .i64 slots,.int .i64 last,.slice A L.length c] rfl rfl (BA.out.there4 rfl) (by kernel_rfl) (by simp [Value.oneCell']) ?_;obtain ⟨e1,he1⟩:∃ z,z=wr.setCells (w.heap.size+1+1) 0 [.int .i64 slots,.int .i64 last,.slice A L.length c]:=⟨_,rfl⟩;have ove1:=Blk.over4 BA.out [.int .i64 slots,.int .i64 last,.slice A L.length c] rfl;rw [← he1] at ove1;change wpList _ _ _ _ _ (wr.setCells (w.heap.size+1+1) 0 [.int .i64 slots,.int .i64 last,.slice A L.length c]);rw [← he1];clear he1;replace BX:=hid_ (BX.out.fr ove1.2 (only_ne (by omega)));replace BA:=hid_ ove1.1;replace F2:=hid_ (F2.out.then_only ove1.2 (.inr (by omega)))) | (refine wpList_store_mid rfl 48 (.tmp 5) (.tmp 51) rfl (w.heap.size+1+1+1) 0 #[.int .i64 0,.int .i64 0] rfl rfl (BX.out.there4 rfl) (by kernel_rfl) (by simp [Value.oneCell']) ?_;obtain ⟨e2,he2⟩:∃ z,z=e1.setCells (w.heap.size+1+1+1) 0 [.int .i64 0,.int .i64 0]:=⟨_,rfl⟩;have ove2:=Blk.over4 BX.out [.int .i64 0,.int .i64 0] rfl;rw [← he2] at ove2;change wpList _ _ _ _ _ (e1.setCells (w.heap.size+1+1+1) 0 [.int .i64 0,.int .i64 0]);rw [← he2];clear he2;replace BA:=hid_ (BA.out.fr ove2.2 (only_ne (by omega)));replace BX:=hid_ ove2.1;replace F2:=hid_ (F2.out.then_only ove2.2 (.inr (by omega)))))
   have a0:=BA.out.cell' (i:=0) rfl
   have a1:=BA.out.cell' (i:=1) rfl
   have a2:=BA.out.cell' (i:=2) rfl
   have x0:=BX.out.cell' (i:=0) rfl
   have x1:=BX.out.cell' (i:=1) rfl
   refine bodyPost_ret (v:=.tuple #[raV slots last L A c,.agg #[.int .i64 0,.int .i64 0],.int .i64 (whyTo L slots.toNat)]) ?_ rfl (Or.inr ⟨NO.out,rfl,?_,F2.out⟩)
   ·simp [results,Tryz.results34,go_sem,a0,a1,a2,x0,x1]
   ·exact HW.out.keep F2.out
end Go.Proofs.YthcpccddcgbanaaGreatDoor

/- Texts of one proof, merged: Few12. -/
import Derived.Test.YthcpccddcgbanaaGreatDoorPiR
import Derived.Test.YthcpccddcgbanaaGreatDoorPiYG
namespace Go.Proofs.YthcpccddcgbanaaGreatDoor
open Go.RowKit
set_option maxRecDepth 100000
set_option linter.unusedVariables false

structure JobRaw (W:World) (J:Jd) (q:Jl):Prop where
  r:0 < q.Cs.length→∃ b off,q.A=some ⟨b,off,none⟩∧b < W.heap.size∧∀ (k:Nat) (C:Cr),q.Cs[k]?=some C→W.rangeAt b (off+k * 15) (crA C).toList
  o:∀ C ∈ q.Cs,RecReads W C.R C.A C.B
  cs:q.Cs.map (·.R)=J.bases
  hd:RecReads W J.head q.Ah q.Eh
theorem JobRaw.keep {W W':World} {J:Jd} {q:Jl} (h:JobRaw W J q) (hf:Fr none_ W W'):JobRaw W' J q:=
  ⟨fun hn=>by
    obtain ⟨b,off,hA,hb,hc⟩:=h.r hn
    exact ⟨b,off,hA,by have:=hf.size;omega,fun k C hC j v hv=>cellFr (hc k C hC j v hv) hf⟩,fun C hC=>(h.o C hC).keep hf,h.cs,h.hd.keep hf⟩
structure JSm (J:Jd) (q:Jl):Prop where
  b:q.Cs.length≤6
  h1:J.head.rows.length≤20
  h2:J.head.ents.length≤20
  c:∀ C ∈ q.Cs,C.R.rows.length≤20∧C.R.ents.length≤20
theorem JobRaw.rd {W:World} {J:Jd} {q:Jl} (h:JobRaw W J q) (hs:JSm J q):JobRd W J q:=
  ⟨⟨h.r,h.o,fun C hC=>by have:=hs.c C hC;exact ⟨by omega,by omega⟩⟩,h.cs,h.hd,⟨by have:=hs.h1;omega,by have:=hs.h2;omega⟩,hs.b⟩
theorem JobRaw.rows {W:World} {J:Jd} {q:Jl} (h:JobRaw W J q) (hs:JSm J q):RowsOk J.head∧∀ R ∈ J.bases,RowsOk R:=by
  refine ⟨⟨by have:=hs.h1;omega,by have:=hs.h2;omega⟩,fun R hR=>?_⟩
  rw [← h.cs] at hR
  obtain ⟨C,hC,rfl⟩:=List.mem_map.1 hR
  have:=hs.c C hC
  exact ⟨by omega,by omega⟩
abbrev Jq:=Jd × Jl
def JobsIn (w:World) (A:Option Addr) (n:Nat) (L:List Jq):Prop:=
  L.length=n∧(0 < n→∃ b off,A=some ⟨b,off,none⟩∧b < w.heap.size∧∀ (k:Nat) (p:Jq),L[k]?=some p→w.rangeAt b (off+k * 21) (jobB p.1 p.2).toList∧JobRaw w p.1 p.2)
theorem JobsIn.keep {w w':World} {A:Option Addr} {n:Nat} {L:List Jq} (h:JobsIn w A n L) (hf:Fr none_ w w'):JobsIn w' A n L:=
  ⟨h.1,fun hn=>by
    obtain ⟨b,off,hA,hb,hc⟩:=h.2 hn
    exact ⟨b,off,hA,by have:=hf.size;omega,fun k p hp=>⟨fun j v hv=>cellFr ((hc k p hp).1 j v hv) hf,(hc k p hp).2.keep hf⟩⟩⟩
theorem JobsIn.at_ {w:World} {A:Option Addr} {n:Nat} {L:List Jq} (h:JobsIn w A n L) {k:Nat} {p:Jq} (hp:L[k]?=some p):∃ b off,A=some ⟨b,off,none⟩∧b < w.heap.size∧w.rangeAt b (off+k * 21) (jobB p.1 p.2).toList∧JobRaw w p.1 p.2:=by
  obtain ⟨b,off,hA,hb,hc⟩:=h.2 (by have:=(List.getElem?_eq_some_iff.1 hp).1;have:=h.1;omega)
  exact ⟨b,off,hA,hb,hc k p hp⟩
abbrev jobZ:Array Value:=#[.int .i64 0,.int .i64 0,.int .i64 0,.int .i64 0,.slice none 0 0,.int .i64 0,.string nilS,.string nilS,.bool false,.int .i64 0,.slice none 0 0,.slice none 0 0,.string nilS,.string nilS,.int .i64 0,.int .i64 0,.int .i64 0,.string nilS,.int .i64 0,.int .i64 0,.int .i64 0]
theorem jb_size:(Tryz.prog.info? 57).map (·.size)=some 21:=by kernel_rfl
structure FewOk12 (s p tt r c q:Int) (L:List Jq) (n tn:Nat):Prop where
  n:n≤6
  t:tn≤150
  R:4≤s∧s≤60∧3≤p∧p≤60∧1≤tt∧tt≤64∧2≤r∧r≤64∧2≤c∧c≤64∧8≤q∧q≤1099511627776
  j:∀ p ∈ L,JSm p.1 p.2
def FewP12 (s p tt r c q:Int) (L:List Jq) (n tn:Nat) (w:World) (e:Ending) (w':World):Prop:=(∃ b:Bool,e=.returned (.bool b)∧(b=true→FewOk12 s p tt r c q L n tn))∧Fr none_ w w'
set_option maxHeartbeats 16000000 in
theorem few12_ok (s p tt r c q:Int) (A:Option Addr) (n cap:Nat) (L:List Jq) (T:Option Addr) (tn tc:Nat) (w:World) (h:JobsIn w A n L) (hn:n≤maxLen) (htn:tn≤maxLen):Calls Tryz.prog 4 #[.agg #[.int .i64 s,.int .i64 p,.int .i64 tt,.int .i64 r,.int .i64 c,.int .i64 q],.slice A n cap,.slice T tn tc] w (FewP12 s p tt r c q L n tn w):=by
 unfold maxLen at hn htn
 have H:=hid_ h
 have hln:=h.1
 clear h
 go_enter Tryz.func4,Tryz.ntmps4
 go_upto_region 1 with fail
 obtain ⟨w0,hw0⟩:∃ z,z=w.alloc (.cells #[.int .i64 s,.int .i64 p,.int .i64 tt,.int .i64 r,.int .i64 c,.int .i64 q] 23):=⟨_,rfl⟩
 have f0:Fr none_ w w0:=by rw [hw0];exact (Fr.refl none_ w).alloc _
 have BL:Hid (Blk w0 w.heap.size 23 #[.int .i64 s,.int .i64 p,.int .i64 tt,.int .i64 r,.int .i64 c,.int .i64 q]):=hid_ (by rw [hw0];exact Blk.new w _ _)
 replace H:=hid_ (H.out.keep f0)
 have F0:=hid_ f0
 change Code.wp _ _ _ _ (w.alloc (.cells #[.int .i64 s,.int .i64 p,.int .i64 tt,.int .i64 r,.int .i64 c,.int .i64 q] 23))
 rw [← hw0]
 clear hw0 f0
 go_wp2_with fail
 go_loopw [13] (fun u wr=>∃ k:Nat,k≤n∧u=.int .i64 k∧(∀ (j:Nat) (x:Jq),j < k→L[j]?=some x→JSm x.1 x.2)∧Fr none_ w0 wr) (fun u _=>n - (intOf u).toNat)
 case atStart=>exact ⟨0,Nat.zero_le _,rfl,fun j x hj=>by omega,Fr.refl _ _⟩
 case round =>
  obtain ⟨k,hk,rfl,hall,hfr⟩:=hrel
  have HA:=hid_ hall
  have F:=hid_ hfr
  clear hall hfr
  have hi0:(0:Int)≤(k:Int):=Int.natCast_nonneg _
  by_cases hlt:k < n
  ·obtain ⟨⟨J,z⟩,hp⟩:∃ x,L[k]?=some x:=⟨_,List.getElem?_eq_getElem (by omega)⟩
   obtain ⟨b,off,rfl,hb,hR,hJ⟩:=(H.out.keep F.out).at_ hp
   have HR:=hid_ hR
   have HJ:=hid_ hJ
   have HP:=hid_ hp
   have hi1:(k:Int) < (n:Int):=by omega
   clear hR hJ hp hb
   go_upto_region 4 with (first | (refine wpList_load_mid rfl 57 (.tmp 15) rfl b (off+k * 21) rfl (jobB J z).toList _ HR.out Tryz.underlying57 rfl jb_size ?_) | (refine wpList_store_mid rfl 57 (.tmp 8) (.tmp 16) rfl wr.heap.size 0 (jobB J z) rfl rfl (new_there wr _ jobZ) jb_size (by simp [Value.oneCell']) ?_;obtain ⟨w1,hw1⟩:∃ y,y=(wr.alloc (.cells jobZ 57)).setCells wr.heap.size 0 (jobB J z).toList:=⟨_,rfl⟩;change wpList _ _ _ _ _ ((wr.alloc (.cells jobZ 57)).setCells wr.heap.size 0 (jobB J z).toList);rw [← hw1];have P1:Hid (Blk w1 wr.heap.size 57 (jobB J z)∧Fr none_ wr w1):=hid_ (by rw [hw1];exact new_copy wr _ jobZ (jobB J z).toList rfl);clear hw1))
   have hf1:=P1.out.2.size
   have b4:w1.cell? ⟨wr.heap.size,4,none⟩=some (.slice z.A z.Cs.length z.c):=P1.out.1.cell' rfl
   have b10:w1.cell? ⟨wr.heap.size,10,none⟩=some (.slice z.Ah J.head.rows.length z.ch):=P1.out.1.cell' rfl
   have b11:w1.cell? ⟨wr.heap.size,11,none⟩=some (.slice z.Eh J.head.ents.length z.dh):=P1.out.1.cell' rfl
   by_cases c0:6 < z.Cs.length
   ·have d0a:decide ((6:Int) < ((z.Cs.length:Nat):Int))=true:=by simp;omega
    have d0b:decide (6 < z.Cs.length)=true:=by simp;omega
    clear c0
    go_wp2_with fail
    go_ret
    exact ⟨⟨false,rfl,(fun h=>by cases h)⟩,((F0.out.then_none F.out).then_none P1.out.2)⟩
   have d0a:decide ((6:Int) < ((z.Cs.length:Nat):Int))=false:=by simp;omega
   have d0b:decide (6 < z.Cs.length)=false:=by simp;omega
   by_cases c1:20 < J.head.rows.length
   ·have d1a:decide ((20:Int) < ((J.head.rows.length:Nat):Int))=true:=by simp;omega
    have d1b:decide (20 < J.head.rows.length)=true:=by simp;omega
    clear c1
    go_wp2_with fail
    go_ret
    exact ⟨⟨false,rfl,(fun h=>by cases h)⟩,((F0.out.then_none F.out).then_none P1.out.2)⟩
   have d1a:decide ((20:Int) < ((J.head.rows.length:Nat):Int))=false:=by simp;omega
   have d1b:decide (20 < J.head.rows.length)=false:=by simp;omega
   by_cases c2:20 < J.head.ents.length
   ·have d2a:decide ((20:Int) < ((J.head.ents.length:Nat):Int))=true:=by simp;omega
    have d2b:decide (20 < J.head.ents.length)=true:=by simp;omega
    clear c2
    go_wp2_with fail
    go_ret
    exact ⟨⟨false,rfl,(fun h=>by cases h)⟩,((F0.out.then_none F.out).then_none P1.out.2)⟩
   have d2a:decide ((20:Int) < ((J.head.ents.length:Nat):Int))=false:=by simp;omega
   have d2b:decide (20 < J.head.ents.length)=false:=by simp;omega
   obtain ⟨wx,rfl⟩:∃ wx:World,wx=wr:=⟨_,rfl⟩
   go_wp2_with fail
   clear d0a d0b d1a d1b d2a d2b
   go_loopw [38] (fun u wr=>∃ k2:Nat,k2≤z.Cs.length∧u=.int .i64 k2∧(∀ (j:Nat) (C:Cr),j < k2→z.Cs[j]?=some C→C.R.rows.length≤20∧C.R.ents.length≤20)∧Fr none_ w1 wr) (fun u _=>z.Cs.length - (intOf u).toNat)
   case atStart=>exact ⟨0,Nat.zero_le _,rfl,fun j x hj=>by omega,Fr.refl _ _⟩
   case round =>
    obtain ⟨k2,hk2,rfl,hall2,hfr2⟩:=hrel
    have HA2:=hid_ hall2
    have F2:=hid_ hfr2
    clear hall2 hfr2
    have hj0:(0:Int)≤(k2:Int):=Int.natCast_nonneg _
    by_cases hlt2:k2 < z.Cs.length
    ·obtain ⟨C,hC⟩:∃ C,z.Cs[k2]?=some C:=⟨_,List.getElem?_eq_getElem (by omega)⟩
     obtain ⟨b2,off2,hzA,hb2,hR2⟩:=HJ.out.r (by omega)
     have HR2:=hid_ (show wr.rangeAt b2 (off2+k2 * 15) (crA C).toList from fun j v hv=>cellFr (cellFr (hR2 k2 C hC j v hv) P1.out.2) F2.out)
     have hj1:(k2:Int) < (z.Cs.length:Int):=by omega
     have HC:=hid_ hC
     clear hC hb2 hR2
     rw [hzA]
     go_upto_region 9 with (first | (refine wpList_load_mid rfl 55 (.tmp 40) rfl b2 (off2+k2 * 15) rfl (crA C).toList _ HR2.out Tryz.underlying55 rfl rec_size ?_) | (refine wpList_store_mid rfl 55 (.tmp 10) (.tmp 41) rfl wr.heap.size 0 (crA C) rfl rfl (new_there wr _ recZ) rec_size (by simp [Value.oneCell']) ?_;obtain ⟨w2,hw2⟩:∃ y,y=(wr.alloc (.cells recZ 55)).setCells wr.heap.size 0 (crA C).toList:=⟨_,rfl⟩;change wpList _ _ _ _ _ ((wr.alloc (.cells recZ 55)).setCells wr.heap.size 0 (crA C).toList);rw [← hw2];have P2:Hid (Blk w2 wr.heap.size 55 (crA C)∧Fr none_ wr w2):=hid_ (by rw [hw2];exact new_copy wr _ recZ (crA C).toList rfl);clear hw2))
     have hf2:=P2.out.2.size
     have e5:w2.cell? ⟨wr.heap.size,5,none⟩=some (.slice C.A C.R.rows.length C.c):=P2.out.1.cell' rfl
     have e6:w2.cell? ⟨wr.heap.size,6,none⟩=some (.slice C.B C.R.ents.length C.d):=P2.out.1.cell' rfl
     by_cases c0:20 < C.R.rows.length
     ·have d0a:decide ((20:Int) < ((C.R.rows.length:Nat):Int))=true:=by simp;omega
      have d0b:decide (20 < C.R.rows.length)=true:=by simp;omega
      clear c0
      go_wp2_with fail
      go_ret
      exact ⟨⟨false,rfl,(fun h=>by cases h)⟩,((((F0.out.then_none F.out).then_none P1.out.2).then_none F2.out).then_none P2.out.2)⟩
     have d0a:decide ((20:Int) < ((C.R.rows.length:Nat):Int))=false:=by simp;omega
     have d0b:decide (20 < C.R.rows.length)=false:=by simp;omega
     by_cases c1:20 < C.R.ents.length
     ·have d1a:decide ((20:Int) < ((C.R.ents.length:Nat):Int))=true:=by simp;omega
      have d1b:decide (20 < C.R.ents.length)=true:=by simp;omega
      clear c1
      go_wp2_with fail
      go_ret
      exact ⟨⟨false,rfl,(fun h=>by cases h)⟩,((((F0.out.then_none F.out).then_none P1.out.2).then_none F2.out).then_none P2.out.2)⟩
     have d1a:decide ((20:Int) < ((C.R.ents.length:Nat):Int))=false:=by simp;omega
     have d1b:decide (20 < C.R.ents.length)=false:=by simp;omega
     have HS:=hid_ (show ∀ (j:Nat) (X:Cr),j < k2+1→z.Cs[j]?=some X→X.R.rows.length≤20∧X.R.ents.length≤20 from fun j X hj hX=>by
      rcases Nat.lt_or_ge j k2 with h1 | h1
      ·exact HA2.out j X h1 hX
      ·obtain rfl:j=k2:=by omega
       obtain rfl:=Option.some.inj (HC.out.symm.trans hX)
       exact ⟨by omega,by omega⟩)
     clear c0 c1
     go_wp2_with fail
     go_roundw
     case rel=>exact ⟨k2+1,by omega,by go_num,HS.out,F2.out.then_none P2.out.2⟩
     case measure=>simp [intOf];omega
    ·obtain rfl:k2=z.Cs.length:=by omega
     have HS:=hid_ (show ∀ (j:Nat) (x:Jq),j < k+1→L[j]?=some x→JSm x.1 x.2 from fun j x hj hx=>by
      rcases Nat.lt_or_ge j k with h1 | h1
      ·exact HA.out j x h1 hx
      ·obtain rfl:j=k:=by omega
       obtain rfl:=Option.some.inj (HP.out.symm.trans hx)
       exact ⟨Nat.le_of_not_lt c0,Nat.le_of_not_lt c1,Nat.le_of_not_lt c2,fun C hC=>by
        obtain ⟨y,hy⟩:=List.mem_iff_getElem?.1 hC
        exact HA2.out y C (List.getElem?_eq_some_iff.1 hy).1 hy⟩)
     go_wp2_with fail
     go_roundw
     case rel=>exact ⟨k+1,by omega,by go_num,HS.out,(F.out.then_none P1.out.2).then_none F2.out⟩
     case measure=>simp [intOf];omega
  ·obtain rfl:k=n:=by omega
   have BLr:=hid_ (BL.out.fr F.out id)
   have v0:wr.cell? ⟨w.heap.size,0,none⟩=some (.int .i64 s):=BLr.out.cell' rfl
   have v1:wr.cell? ⟨w.heap.size,1,none⟩=some (.int .i64 p):=BLr.out.cell' rfl
   have v2:wr.cell? ⟨w.heap.size,2,none⟩=some (.int .i64 tt):=BLr.out.cell' rfl
   have v3:wr.cell? ⟨w.heap.size,3,none⟩=some (.int .i64 r):=BLr.out.cell' rfl
   have v4:wr.cell? ⟨w.heap.size,4,none⟩=some (.int .i64 c):=BLr.out.cell' rfl
   have v5:wr.cell? ⟨w.heap.size,5,none⟩=some (.int .i64 q):=BLr.out.cell' rfl
   by_cases a0:k≤6
   rotate_left
   ·have d0a:decide (((k:Nat):Int)≤(6:Int))=false:=by simp;omega
    have d0b:decide (k≤6)=false:=by simp;omega
    clear a0
    go_wp2_with fail
    go_ret
    exact ⟨⟨false,rfl,(fun h=>by cases h)⟩,F0.out.then_none F.out⟩
   have d0a:decide (((k:Nat):Int)≤(6:Int))=true:=by simp;omega
   have d0b:decide (k≤6)=true:=by simp;omega
   by_cases a1:tn≤150
   rotate_left
   ·have d1a:decide (((tn:Nat):Int)≤(150:Int))=false:=by simp;omega
    have d1b:decide (tn≤150)=false:=by simp;omega
    clear a0 a1
    go_wp2_with fail
    go_ret
    exact ⟨⟨false,rfl,(fun h=>by cases h)⟩,F0.out.then_none F.out⟩
   have d1a:decide (((tn:Nat):Int)≤(150:Int))=true:=by simp;omega
   have d1b:decide (tn≤150)=true:=by simp;omega
   by_cases a2:s≤60∧p≤60∧(4≤s∧s≤4096∧3≤p∧p≤256∧1≤tt∧tt≤64∧2≤r∧r≤64∧2≤c∧c≤64∧8≤q∧q≤1099511627776)
   ·have d2:decide (s≤60)=true:=by simpa using a2.1
    have d3:decide (p≤60)=true:=by simpa using a2.2.1
    have E:=decide_eq_true a2.2.2
    have FO:=hid_ (show FewOk12 s p tt r c q L k tn from ⟨a0,a1,⟨by omega,by omega,by omega,by omega,by omega,by omega,by omega,by omega,by omega,by omega,by omega,by omega⟩,fun x hx=>by
     obtain ⟨y,hy⟩:=List.mem_iff_getElem?.1 hx
     exact HA.out y x (by have:=(List.getElem?_eq_some_iff.1 hy).1;omega) hy⟩)
    have EE:=hid_ E
    clear a0 a1 a2 E
    go_wp2_with fail
    refine (rright12 s p tt r c q _).mono ?_
    rintro e w2 ⟨rfl,hf2⟩
    rw [EE.out]
    have F2:=hid_ hf2
    clear hf2 v0 v1 v2 v3 v4 v5
    replace BLr:=hid_ (BLr.out.fr F2.out id)
    have v0:w2.cell? ⟨w.heap.size,0,none⟩=some (.int .i64 s):=BLr.out.cell' rfl
    have v1:w2.cell? ⟨w.heap.size,1,none⟩=some (.int .i64 p):=BLr.out.cell' rfl
    go_wp2_with fail
    go_ret
    exact ⟨⟨true,rfl,fun _=>FO.out⟩,(F0.out.then_none F.out).then_none F2.out⟩
   by_cases a3:(4≤s∧s≤4096∧3≤p∧p≤256∧1≤tt∧tt≤64∧2≤r∧r≤64∧2≤c∧c≤64∧8≤q∧q≤1099511627776)
   ·have EE:=hid_ (decide_eq_true a3)
    have A3:=hid_ (show ¬ (s≤60∧p≤60) from fun e=>a2 ⟨e.1,e.2,a3⟩)
    clear a0 a1 a2 a3
    go_wp2_with fail
    refine (rright12 s p tt r c q _).mono ?_
    rintro e w2 ⟨rfl,hf2⟩
    rw [EE.out]
    have F2:=hid_ hf2
    clear hf2 v0 v1 v2 v3 v4 v5
    replace BLr:=hid_ (BLr.out.fr F2.out id)
    have v0:w2.cell? ⟨w.heap.size,0,none⟩=some (.int .i64 s):=BLr.out.cell' rfl
    have v1:w2.cell? ⟨w.heap.size,1,none⟩=some (.int .i64 p):=BLr.out.cell' rfl
    by_cases a4:s≤60
    ·have d2:decide (s≤60)=true:=by simpa using a4
     have d3:decide (p≤60)=false:=by have:=A3.out;simp;omega
     clear a4
     go_wp2_with fail
     go_ret
     exact ⟨⟨false,rfl,(fun h=>by cases h)⟩,(F0.out.then_none F.out).then_none F2.out⟩
    ·have d2:decide (s≤60)=false:=by simpa using a4
     clear a4
     go_wp2_with fail
     go_ret
     exact ⟨⟨false,rfl,(fun h=>by cases h)⟩,(F0.out.then_none F.out).then_none F2.out⟩
   have EE:=hid_ (decide_eq_false a3)
   clear a0 a1 a2 a3
   go_wp2_with fail
   refine (rright12 s p tt r c q _).mono ?_
   rintro e w2 ⟨rfl,hf2⟩
   rw [EE.out]
   have F2:=hid_ hf2
   clear hf2 v0 v1 v2 v3 v4 v5
   go_wp2_with fail
   go_ret
   exact ⟨⟨false,rfl,(fun h=>by cases h)⟩,(F0.out.then_none F.out).then_none F2.out⟩
end Go.Proofs.YthcpccddcgbanaaGreatDoor

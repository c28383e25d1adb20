/- Texts of one proof, merged: Rlf7. -/
import Derived.Test.YthpkbppaaagaoaaGreatMhW
import Derived.Test.YthpkbppaaagaoaaGreatMhV
namespace Go.Proofs.YthpkbppaaagaoaaGreat
open Go.RowKit Go.BigFrame
set_option maxRecDepth 100000
set_option linter.unusedVariables false

set_option maxHeartbeats 16000000 in
theorem rfoldL_ok (A:Option Addr) (n cap:Nat) (L:List Ch) (w:World) (h:ChReads w A n L) (hn:n≤400) (hs:RwOkL L) (hcp:RwCap L) :
  Calls Tryz.prog 31 #[.slice A n cap] w (RFoldPostL (L.map (·.R)) w):=by
 obtain ⟨i0,hi0,hz0,hs0,hb0⟩:=info_parts row_info
 have Hi:=hid_ (And.intro hi0 (And.intro hz0 (And.intro hs0 hb0)))
 clear hi0 hz0 hs0 hb0
 have hln:=h.1
 have HLN:=hid_ hln
 obtain ⟨w0,hw0⟩:∃ w0,w0=w.alloc (.cells lwZ 72):=⟨_,rfl⟩
 have f0:Fr none_ w w0:=by rw [hw0];exact (Fr.refl none_ w).alloc _
 have BO:Hid (Blk w0 w.heap.size 72 lwZ):=hid_ (by rw [hw0];exact Blk.new w _ _)
 have F0:=hid_ f0
 have H:=hid_ h
 have HS:=hid_ hs
 have HCP:=hid_ hcp
 have hsz0:w.heap.size < w0.heap.size:=BO.out.lt
 clear h f0 hs hcp
 go_enter Tryz.func31,Tryz.ntmps31
 go_wp2_with fail
 change Code.wp _ _ _ _ (w.alloc (.cells lwZ 72))
 rw [← hw0]
 clear hw0
 go_loopw [4] (fun i wr=>∃ k:Nat,k≤n∧i=.int .i64 k∧(∀ (j:Nat) C,j < k→L[j]?=some C→KindL C.R)∧Fr none_ w0 wr) (fun i _=>n - (intOf i).toNat)
 case atStart=>exact ⟨0,Nat.zero_le _,rfl,fun j C hj=>by omega,Fr.refl _ _⟩
 case round =>
  obtain ⟨k,hk,rfl,hall,hF⟩:=hrel
  have HA:=hid_ hall
  have F:=hid_ hF
  have BO1:=hid_ (BO.out.fr hF id)
  have F1:=hid_ (F0.out.then_none hF)
  have hsz1:=hF.size
  clear hall hF
  have hi0:(0:Int)≤(k:Int):=Int.natCast_nonneg _
  have s0:wr.cell? ⟨w.heap.size,0,none⟩=some (.string nilS):=BO1.out.cell' rfl
  have zs0:=BO1.out.frozen 0
  have s1:wr.cell? ⟨w.heap.size,1,none⟩=some (.string nilS):=BO1.out.cell' rfl
  have zs1:=BO1.out.frozen 1
  have s2:wr.cell? ⟨w.heap.size,2,none⟩=some (.bool false):=BO1.out.cell' rfl
  have zs2:=BO1.out.frozen 2
  have s3:wr.cell? ⟨w.heap.size,3,none⟩=some (.int .i64 0):=BO1.out.cell' rfl
  have zs3:=BO1.out.frozen 3
  have s4:wr.cell? ⟨w.heap.size,4,none⟩=some (.slice none 0 0):=BO1.out.cell' rfl
  have zs4:=BO1.out.frozen 4
  have s5:wr.cell? ⟨w.heap.size,5,none⟩=some (.bool false):=BO1.out.cell' rfl
  have zs5:=BO1.out.frozen 5
  by_cases hlt:k < n
  ·obtain ⟨C,hC⟩:∃ C,L[k]?=some C:=⟨_,List.getElem?_eq_getElem (by omega)⟩
   obtain ⟨b,off,rfl,hb,hR,hO⟩:=(H.out.keep F1.out).at_ hC
   have hi1:(k:Int) < (n:Int):=by omega
   have k0:wr.cell? ⟨b,off+k * 15,none⟩=some (.int .i64 C.R.kind):=hR 0 _ rfl
   have HC:=hid_ hC
   clear hR hO hC
   by_cases h7:C.R.kind < 1
   ·have hno:∃ R ∈ L.map (·.R),¬ KindL R:=⟨C.R,List.mem_map.2 ⟨C,List.mem_of_getElem? HC.out,rfl⟩,fun hh=>by have:=hh.1;omega⟩
    have HNO:=hid_ hno
    clear hno
    go_wp2_with fail
    clear s0 zs0 s1 zs1 s2 zs2 s3 zs3 s4 zs4 s5 zs5
    obtain ⟨qb,qf⟩:=box6 BO1.out (.string nilS) (.string nilS) (.bool false) (.int .i64 0) (.slice none 0 0) (.bool false)
    have q0:=qb.cell' (i:=0) rfl
    have q1:=qb.cell' (i:=1) rfl
    have q2:=qb.cell' (i:=2) rfl
    have q3:=qb.cell' (i:=3) rfl
    have q4:=qb.cell' (i:=4) rfl
    have q5:=qb.cell' (i:=5) rfl
    refine bodyPost_ret (v:=.tuple #[lwV Lw.zero (.slice none 0 0),.int .i64 9]) ?_ rfl (.inr ⟨9,.inl ⟨rfl,HNO.out⟩,rfl,F1.out.then_only qf (.inr (Nat.le_refl _))⟩)
    simp [results,Tryz.results31,go_sem,Lw.zero,q0,q1,q2,q3,q4,q5]
   by_cases h11:6 < C.R.kind
   ·have hno:∃ R ∈ L.map (·.R),¬ KindL R:=⟨C.R,List.mem_map.2 ⟨C,List.mem_of_getElem? HC.out,rfl⟩,fun hh=>by have:=hh.2;omega⟩
    have HNO:=hid_ hno
    clear hno
    go_wp2_with fail
    clear s0 zs0 s1 zs1 s2 zs2 s3 zs3 s4 zs4 s5 zs5
    obtain ⟨qb,qf⟩:=box6 BO1.out (.string nilS) (.string nilS) (.bool false) (.int .i64 0) (.slice none 0 0) (.bool false)
    have q0:=qb.cell' (i:=0) rfl
    have q1:=qb.cell' (i:=1) rfl
    have q2:=qb.cell' (i:=2) rfl
    have q3:=qb.cell' (i:=3) rfl
    have q4:=qb.cell' (i:=4) rfl
    have q5:=qb.cell' (i:=5) rfl
    refine bodyPost_ret (v:=.tuple #[lwV Lw.zero (.slice none 0 0),.int .i64 9]) ?_ rfl (.inr ⟨9,.inl ⟨rfl,HNO.out⟩,rfl,F1.out.then_only qf (.inr (Nat.le_refl _))⟩)
    simp [results,Tryz.results31,go_sem,Lw.zero,q0,q1,q2,q3,q4,q5]
   clear s0 zs0 s1 zs1 s2 zs2 s3 zs3 s4 zs4 s5 zs5
   go_wp2_with fail
   go_roundw
   case rel=>exact ⟨k+1,by omega,by go_num,fun j C' hj hC'=>by
    rcases Nat.lt_succ_iff_lt_or_eq.1 hj with hj | rfl
    ·exact HA.out j C' hj hC'
    ·rw [HC.out] at hC';cases hC';exact ⟨by omega,by omega⟩,F.out⟩
   case measure=>simp [intOf];omega
  ·obtain rfl:k=n:=by omega
   have HK:Hid (∀ R ∈ L.map (·.R),KindL R):=hid_ (kind_of hln HA.out)
   clear hlt hi0 BO F0
   by_cases hk0:k=0
   ·have hno:foldL (L.map (·.R))=none:=by rw [List.eq_nil_of_length_eq_zero (by omega:L.length=0)];rfl
    have HNO:=hid_ hno
    subst hk0
    clear hno
    go_wp2_with fail
    clear s0 zs0 s1 zs1 s2 zs2 s3 zs3 s4 zs4 s5 zs5
    obtain ⟨qb,qf⟩:=box6 BO1.out (.string nilS) (.string nilS) (.bool false) (.int .i64 0) (.slice none 0 0) (.bool false)
    have q0:=qb.cell' (i:=0) rfl
    have q1:=qb.cell' (i:=1) rfl
    have q2:=qb.cell' (i:=2) rfl
    have q3:=qb.cell' (i:=3) rfl
    have q4:=qb.cell' (i:=4) rfl
    have q5:=qb.cell' (i:=5) rfl
    refine bodyPost_ret (v:=.tuple #[lwV Lw.zero (.slice none 0 0),.int .i64 10]) ?_ rfl (.inr ⟨10,.inr ⟨rfl,HK.out,HNO.out⟩,rfl,F1.out.then_only qf (.inr (Nat.le_refl _))⟩)
    simp [results,Tryz.results31,go_sem,Lw.zero,q0,q1,q2,q3,q4,q5]
   clear s0 zs0 s1 zs1 s2 zs2 s3 zs3 s4 zs4 s5 zs5
   obtain ⟨m,rfl⟩:∃ m,k=m+1:=⟨k - 1,by omega⟩
   have hw1:IntKind.i64.wrap ((m:Int)+1 - 1)=(m:Int):=by rw [show (m:Int)+1 - 1=(m:Int) by omega];exact IntWalk.i64_in _ (by omega)
   have hm0:((m:Int)+1==0)=false:=neB (by omega)
   clear hk0
   go_wp2_with fail
   obtain ⟨wv,rfl⟩:∃ z:World,z=wr:=⟨_,rfl⟩
   go_loopw [5] (fun i wq=>∃ k:Nat,k≤m+1∧i=.int .i64 k∧(∀ (j:Nat) C,j < k→L[j]?=some C→(C.R.kind=1 ↔ j=m)∧(C.R.kind=5→j=0))∧Fr none_ wv wq) (fun i _=>m+1 - (intOf i).toNat)
   case atStart=>exact ⟨0,Nat.zero_le _,rfl,fun j C hj=>by omega,Fr.refl _ _⟩
   case round =>
    obtain ⟨k,hk,rfl,hall,hF⟩:=hrel
    have HA2:=hid_ hall
    have FW:=hid_ hF
    have BO2:=hid_ (BO1.out.fr hF id)
    have F2:=hid_ (F1.out.then_none hF)
    clear hall hF
    have hi0:(0:Int)≤(k:Int):=Int.natCast_nonneg _
    by_cases hlt:k < m+1
    ·obtain ⟨C,hC⟩:∃ C,L[k]?=some C:=⟨_,List.getElem?_eq_getElem (by omega)⟩
     obtain ⟨b,off,rfl,hb,hR,hO⟩:=(H.out.keep F2.out).at_ hC
     have hi1:(k:Int) < (m:Int)+1:=by omega
     have k0:wr.cell? ⟨b,off+k * 15,none⟩=some (.int .i64 C.R.kind):=hR 0 _ rfl
     have HC:=hid_ hC
     clear hR hO hC
     have s0:wr.cell? ⟨w.heap.size,0,none⟩=some (.string nilS):=BO2.out.cell' rfl
     have zs0:=BO2.out.frozen 0
     have s1:wr.cell? ⟨w.heap.size,1,none⟩=some (.string nilS):=BO2.out.cell' rfl
     have zs1:=BO2.out.frozen 1
     have s2:wr.cell? ⟨w.heap.size,2,none⟩=some (.bool false):=BO2.out.cell' rfl
     have zs2:=BO2.out.frozen 2
     have s3:wr.cell? ⟨w.heap.size,3,none⟩=some (.int .i64 0):=BO2.out.cell' rfl
     have zs3:=BO2.out.frozen 3
     have s4:wr.cell? ⟨w.heap.size,4,none⟩=some (.slice none 0 0):=BO2.out.cell' rfl
     have zs4:=BO2.out.frozen 4
     have s5:wr.cell? ⟨w.heap.size,5,none⟩=some (.bool false):=BO2.out.cell' rfl
     have zs5:=BO2.out.frozen 5
     by_cases h1:C.R.kind=1
     ·have e1:(C.R.kind==1)=true:=eqB h1
      by_cases h2:k=m
      ·have e2:((k:Int)==(m:Int))=true:=eqB (by omega)
       have e5:(C.R.kind==5)=false:=neB (by omega)
       have HQ:Hid ((C.R.kind=1 ↔ k=m)∧(C.R.kind=5→k=0)):=hid_ ⟨⟨fun _=>h2,fun _=>h1⟩,fun h=>by omega⟩
       clear h1 h2
       clear s0 zs0 s1 zs1 s2 zs2 s3 zs3 s4 zs4 s5 zs5
       go_wp2_with fail
       go_roundw
       case rel=>exact ⟨k+1,by omega,by go_num,fun j C' hj hC'=>by
        rcases Nat.lt_succ_iff_lt_or_eq.1 hj with hj | rfl
        ·exact HA2.out j C' hj hC'
        ·rw [HC.out] at hC';cases hC';exact HQ.out,FW.out⟩
       case measure=>simp [intOf];omega
      ·have e2:((k:Int)==(m:Int))=false:=neB (by omega)
       have hno:foldL (L.map (·.R))=none:=foldL_no1 (ch_at HC.out) (by rw [List.length_map];omega) h1
       have HNO:=hid_ hno
       clear hno h1 h2
       go_wp2_with fail
       clear s0 zs0 s1 zs1 s2 zs2 s3 zs3 s4 zs4 s5 zs5
       obtain ⟨qb,qf⟩:=box6 BO2.out (.string nilS) (.string nilS) (.bool false) (.int .i64 0) (.slice none 0 0) (.bool false)
       have q0:=qb.cell' (i:=0) rfl
       have q1:=qb.cell' (i:=1) rfl
       have q2:=qb.cell' (i:=2) rfl
       have q3:=qb.cell' (i:=3) rfl
       have q4:=qb.cell' (i:=4) rfl
       have q5:=qb.cell' (i:=5) rfl
       refine bodyPost_ret (v:=.tuple #[lwV Lw.zero (.slice none 0 0),.int .i64 10]) ?_ rfl (.inr ⟨10,.inr ⟨rfl,HK.out,HNO.out⟩,rfl,F2.out.then_only qf (.inr (Nat.le_refl _))⟩)
       simp [results,Tryz.results31,go_sem,Lw.zero,q0,q1,q2,q3,q4,q5]
     ·have e1:(C.R.kind==1)=false:=neB h1
      by_cases h2:k=m
      ·have e2:((k:Int)==(m:Int))=true:=eqB (by omega)
       have hno:foldL (L.map (·.R))=none:=foldL_noL (m:=m) (R:=C.R) (ch_at (k:=m) (by rw [← h2];exact HC.out)) (by rw [List.length_map];omega) h1
       have HNO:=hid_ hno
       clear hno h1 h2
       go_wp2_with fail
       clear s0 zs0 s1 zs1 s2 zs2 s3 zs3 s4 zs4 s5 zs5
       obtain ⟨qb,qf⟩:=box6 BO2.out (.string nilS) (.string nilS) (.bool false) (.int .i64 0) (.slice none 0 0) (.bool false)
       have q0:=qb.cell' (i:=0) rfl
       have q1:=qb.cell' (i:=1) rfl
       have q2:=qb.cell' (i:=2) rfl
       have q3:=qb.cell' (i:=3) rfl
       have q4:=qb.cell' (i:=4) rfl
       have q5:=qb.cell' (i:=5) rfl
       refine bodyPost_ret (v:=.tuple #[lwV Lw.zero (.slice none 0 0),.int .i64 10]) ?_ rfl (.inr ⟨10,.inr ⟨rfl,HK.out,HNO.out⟩,rfl,F2.out.then_only qf (.inr (Nat.le_refl _))⟩)
       simp [results,Tryz.results31,go_sem,Lw.zero,q0,q1,q2,q3,q4,q5]
      ·have e2:((k:Int)==(m:Int))=false:=neB (by omega)
       by_cases h5:C.R.kind=5
       ·have e5:(C.R.kind==5)=true:=eqB h5
        by_cases hk0:0 < k
        ·have e6:decide (0 < k)=true:=decide_eq_true hk0
         have hno:foldL (L.map (·.R))=none:=foldL_no5 (ch_at HC.out) hk0 h5
         have HNO:=hid_ hno
         clear hno h1 h2 h5 hk0
         go_wp2_with fail
         clear s0 zs0 s1 zs1 s2 zs2 s3 zs3 s4 zs4 s5 zs5
         obtain ⟨qb,qf⟩:=box6 BO2.out (.string nilS) (.string nilS) (.bool false) (.int .i64 0) (.slice none 0 0) (.bool false)
         have q0:=qb.cell' (i:=0) rfl
         have q1:=qb.cell' (i:=1) rfl
         have q2:=qb.cell' (i:=2) rfl
         have q3:=qb.cell' (i:=3) rfl
         have q4:=qb.cell' (i:=4) rfl
         have q5:=qb.cell' (i:=5) rfl
         refine bodyPost_ret (v:=.tuple #[lwV Lw.zero (.slice none 0 0),.int .i64 10]) ?_ rfl (.inr ⟨10,.inr ⟨rfl,HK.out,HNO.out⟩,rfl,F2.out.then_only qf (.inr (Nat.le_refl _))⟩)
         simp [results,Tryz.results31,go_sem,Lw.zero,q0,q1,q2,q3,q4,q5]
        ·have e6:decide (0 < k)=false:=decide_eq_false hk0
         have HQ:Hid ((C.R.kind=1 ↔ k=m)∧(C.R.kind=5→k=0)):=hid_ ⟨⟨fun h=>absurd h h1,fun h=>absurd h h2⟩,fun _=>by omega⟩
         clear h1 h2 h5 hk0
         clear s0 zs0 s1 zs1 s2 zs2 s3 zs3 s4 zs4 s5 zs5
         go_wp2_with fail
         go_roundw
         case rel=>exact ⟨k+1,by omega,by go_num,fun j C' hj hC'=>by
          rcases Nat.lt_succ_iff_lt_or_eq.1 hj with hj | rfl
          ·exact HA2.out j C' hj hC'
          ·rw [HC.out] at hC';cases hC';exact HQ.out,FW.out⟩
         case measure=>simp [intOf];omega
       ·have e5:(C.R.kind==5)=false:=neB h5
        have HQ:Hid ((C.R.kind=1 ↔ k=m)∧(C.R.kind=5→k=0)):=hid_ ⟨⟨fun h=>absurd h h1,fun h=>absurd h h2⟩,fun h=>absurd h h5⟩
        clear h1 h2 h5
        clear s0 zs0 s1 zs1 s2 zs2 s3 zs3 s4 zs4 s5 zs5
        go_wp2_with fail
        go_roundw
        case rel=>exact ⟨k+1,by omega,by go_num,fun j C' hj hC'=>by
         rcases Nat.lt_succ_iff_lt_or_eq.1 hj with hj | rfl
         ·exact HA2.out j C' hj hC'
         ·rw [HC.out] at hC';cases hC';exact HQ.out,FW.out⟩
        case measure=>simp [intOf];omega
    ·obtain rfl:k=m+1:=by omega
     clear hlt hi0 BO1 F1 F FW
     obtain ⟨D,hD⟩:∃ D,L[m]?=some D:=⟨_,List.getElem?_eq_getElem (by omega)⟩
     obtain ⟨b,off,rfl,hb,hR,hO⟩:=(H.out.keep F2.out).at_ hD
     have HD:=hid_ hD
     have HR:=hid_ hR
     have HO:=hid_ hO
     have HDS:=hid_ (HS.out D (List.mem_of_getElem? hD))
     have HDC:=hid_ (HCP.out D (List.mem_of_getElem? hD))
     have hDs:=HDS.out.2.2
     have H7:Hid (D.R.kind=1):=hid_ (((HA2.out m D (by omega) hD).1).2 rfl)
     have hLD:(L.map (·.R)).drop m=[D.R]:=foldU_last (by rw [List.length_map];omega) (ch_at hD)
     have HLD:=hid_ hLD
     have hsrc:0 < D.R.rows.length→∀ ad,D.A=some ad→ad.block < w.heap.size:=fun h0 ad e=>by
      obtain ⟨_,_,_,_,_,hO0⟩:=H.out.at_ hD
      obtain ⟨p,hp⟩:∃ p,D.R.rows[0]?=some p:=⟨_,List.getElem?_eq_getElem h0⟩
      obtain ⟨b',off',e',hb',_⟩:=rw_at hO0.rd.r hp
      rw [e] at e';cases e';exact hb'
     have HSRC:=hid_ hsrc
     have hi0:(0:Int)≤(m:Int):=Int.natCast_nonneg _
     have hi1:(m:Int) < ((m+1:Nat):Int):=by omega
     have hi2:(m:Int) < (m:Int)+1:=by omega
     have hsz2:=F2.out.size
     clear hD hR hO hLD hsrc
     go_upto_region 16 with (first | (refine wpList_load_mid rfl 51 (.tmp 71) rfl b (off+m * 15) rfl (recL D) _ HR.out Tryz.underlying51 rfl rec_size8 ?_) | (refine wpList_store_mid rfl 51 (.tmp 6) (.tmp 72) rfl wr.heap.size 0 (recL D).toArray rfl rfl (new_there wr _ recZ8) rec_size8 (rec_one D) ?_;obtain ⟨w1,hw1⟩:∃ w1,w1=(wr.alloc (.cells recZ8 51)).setCells wr.heap.size 0 (recL D):=⟨_,rfl⟩;change wpList _ _ _ _ _ ((wr.alloc (.cells recZ8 51)).setCells wr.heap.size 0 (recL D));rw [← hw1];have P1:Hid (Blk w1 wr.heap.size 51 (recL D).toArray∧Fr none_ wr w1):=hid_ (by rw [hw1];exact new_copy wr _ recZ8 _ rfl);clear hw1))
     have BO3:=hid_ (BO2.out.fr P1.out.2 id)
     have F3:=hid_ (F2.out.then_none P1.out.2)
     have hsz3:=P1.out.2.size
     have g1:w1.cell? ⟨wr.heap.size,1,none⟩=some (.string D.R.low):=P1.out.1.cell' rfl
     have g2:w1.cell? ⟨wr.heap.size,2,none⟩=some (.string D.R.high):=P1.out.1.cell' rfl
     have g3:w1.cell? ⟨wr.heap.size,3,none⟩=some (.bool D.R.unb):=P1.out.1.cell' rfl
     have g4:w1.cell? ⟨wr.heap.size,4,none⟩=some (.int .i64 D.R.right):=P1.out.1.cell' rfl
     have g5:w1.cell? ⟨wr.heap.size,5,none⟩=some (.slice D.A D.R.rows.length D.c):=P1.out.1.cell' rfl
     have hb1:=P1.out.1.lt
     go_upto_region 17 with (refine wpList_store_mid rfl 72 (.tmp 7) (.tmp 83) rfl w1.heap.size 0 (lwA (baseL D.R) (.slice D.A D.R.rows.length D.c)) rfl rfl (new_there w1 _ lwZ) rview_size7 (by simp [Value.oneCell']) ?_;obtain ⟨w2,hw2⟩:∃ w2,w2=(w1.alloc (.cells lwZ 72)).setCells w1.heap.size 0 (lwA (baseL D.R) (.slice D.A D.R.rows.length D.c)).toList:=⟨_,rfl⟩;change wpList _ _ _ _ _ ((w1.alloc (.cells lwZ 72)).setCells w1.heap.size 0 (lwA (baseL D.R) (.slice D.A D.R.rows.length D.c)).toList);rw [← hw2];have P2:Hid (Blk w2 w1.heap.size 72 (lwA (baseL D.R) (.slice D.A D.R.rows.length D.c))∧Fr none_ w1 w2):=hid_ (by rw [hw2];exact new_copy w1 _ lwZ _ rfl);clear hw2)
     clear g1 g2 g3 g4 g5
     have BO4:=hid_ (BO3.out.fr P2.out.2 id)
     have F4:=hid_ (F3.out.then_none P2.out.2)
     have hsz4:=P2.out.2.size
     have BD:=hid_ (P1.out.1.fr P2.out.2 id)
     obtain ⟨X,hX⟩:∃ X,X=w1.heap.size:=⟨_,rfl⟩
     rw [← hX] at P2
     rw [← hX]
     have hXw:w.heap.size < X:=by omega
     clear hX
     have g1:w2.cell? ⟨wr.heap.size,1,none⟩=some (.string D.R.low):=BD.out.cell' rfl
     have g2:w2.cell? ⟨wr.heap.size,2,none⟩=some (.string D.R.high):=BD.out.cell' rfl
     have g3:w2.cell? ⟨wr.heap.size,3,none⟩=some (.bool D.R.unb):=BD.out.cell' rfl
     have g5:w2.cell? ⟨wr.heap.size,5,none⟩=some (.slice D.A D.R.rows.length D.c):=BD.out.cell' rfl
     clear BO2 BO3 F2 F3
     go_wp2_with fail
     refine (rsound_ok D.R.rows D.A D.c D.R.low D.R.high D.R.unb w2 (HO.out.rd.r.none_fr (P1.out.2.then_none P2.out.2)) HDS.out.2.1 HO.out.low HO.out.high).mono ?_
     rintro e w3 ⟨bs,rfl,hbs,hf3⟩
     have F5:=hid_ (F4.out.then_none hf3)
     have LD5:=hid_ (HO.out.rd.r.none_fr ((P1.out.2.then_none P2.out.2).then_none hf3))
     have hst:RFoldCut w L X m bs w3:=by
      cases bs with
      | true=>exact .inl ⟨rfl,baseL D.R,D.A,D.c,by rw [List.map_drop,HLD.out];exact foldL_one D.R H7.out (hbs.1 rfl),P2.out.1.fr hf3 id,BO4.out.fr hf3 id,⟨LD5.out,HDC.out.1,HDC.out.2,⟨HO.out.low,HO.out.high,HDS.out.2.1⟩,.inl HSRC.out⟩,by show D.R.rows.length≤_;omega,F5.out⟩
      | false=>exact .inr ⟨rfl,by rw [List.map_drop,HLD.out];exact foldL_one_no _ (fun h=>by have:=hbs.2 h.2;cases this),BO4.out.fr hf3 id,F5.out⟩
     have ST:=hid_ hst
     clear hst hbs hf3 g1 g2 g3 g5 BO4 F4 LD5 BD P1 P2 HSRC F5
     clear hsz0 hsz1 hsz2 hsz3 hsz4 hDs
     go_wp2_with fail
     obtain ⟨wu,rfl⟩:∃ z:World,z=wr:=⟨_,rfl⟩
     have hw2:IntKind.i64.wrap ((m:Int)+1 - 2)=(m:Int) - 1:=by rw [show (m:Int)+1 - 2=(m:Int) - 1 by omega];exact IntWalk.i64_in _ (by omega)
     go_loopw [8,9] (fun okv i wr=>∃ k:Nat,k≤m∧i=.int .i64 ((k:Int) - 1)∧∃ bb:Bool,okv=.bool bb∧RFoldCut w L X k bb wr) (fun _ i _=>(intOf i+1).toNat)
     case atStart=>exact ⟨m,Nat.le_refl _,by first | rfl | (congr 1;omega),bs,rfl,ST.out⟩
     case round =>
      obtain ⟨k,hk,rfl,bb,rfl,hcut⟩:=hrel
      clear hw2 ST
      have hm1:L.length=m+1:=HLN.out
      cases bb with
      | false =>
       obtain ⟨h,_⟩ | ⟨_,hno,hbo,hfr⟩:=hcut
       ·cases h
       have hno:foldL (L.map (·.R))=none:=foldL_no (k:=k) (by rw [List.length_map];omega) (by rw [← List.map_drop];exact hno)
       have HNO:=hid_ hno
       have BO1:=hid_ hbo
       have F1:=hid_ hfr
       clear hno hbo hfr
       have s0:wr.cell? ⟨w.heap.size,0,none⟩=some (.string nilS):=BO1.out.cell' rfl
       have zs0:=BO1.out.frozen 0
       have s1:wr.cell? ⟨w.heap.size,1,none⟩=some (.string nilS):=BO1.out.cell' rfl
       have zs1:=BO1.out.frozen 1
       have s2:wr.cell? ⟨w.heap.size,2,none⟩=some (.bool false):=BO1.out.cell' rfl
       have zs2:=BO1.out.frozen 2
       have s3:wr.cell? ⟨w.heap.size,3,none⟩=some (.int .i64 0):=BO1.out.cell' rfl
       have zs3:=BO1.out.frozen 3
       have s4:wr.cell? ⟨w.heap.size,4,none⟩=some (.slice none 0 0):=BO1.out.cell' rfl
       have zs4:=BO1.out.frozen 4
       have s5:wr.cell? ⟨w.heap.size,5,none⟩=some (.bool false):=BO1.out.cell' rfl
       have zs5:=BO1.out.frozen 5
       by_cases hk0:0 < k
       ·have e1:decide ((0:Int)≤(k:Int) - 1)=true:=decide_eq_true (by omega)
        have e2:decide ((1:Int)≤(k:Int))=true:=decide_eq_true (by omega)
        have e3:decide (0 < k)=true:=decide_eq_true (by omega)
        have e4:decide (1≤k)=true:=decide_eq_true (by omega)
        clear hk
        go_wp2_with fail
        clear s0 zs0 s1 zs1 s2 zs2 s3 zs3 s4 zs4 s5 zs5
        obtain ⟨qb,qf⟩:=box6 BO1.out (.string nilS) (.string nilS) (.bool false) (.int .i64 0) (.slice none 0 0) (.bool false)
        have q0:=qb.cell' (i:=0) rfl
        have q1:=qb.cell' (i:=1) rfl
        have q2:=qb.cell' (i:=2) rfl
        have q3:=qb.cell' (i:=3) rfl
        have q4:=qb.cell' (i:=4) rfl
        have q5:=qb.cell' (i:=5) rfl
        refine bodyPost_ret (v:=.tuple #[lwV Lw.zero (.slice none 0 0),.int .i64 10]) ?_ rfl (.inr ⟨10,.inr ⟨rfl,HK.out,HNO.out⟩,rfl,F1.out.then_only qf (.inr (Nat.le_refl _))⟩)
        simp [results,Tryz.results31,go_sem,Lw.zero,q0,q1,q2,q3,q4,q5]
       ·have e1:decide ((0:Int)≤(k:Int) - 1)=false:=decide_eq_false (by omega)
        have e2:decide ((1:Int)≤(k:Int))=false:=decide_eq_false (by omega)
        have e3:decide (0 < k)=false:=decide_eq_false (by omega)
        have e4:decide (1≤k)=false:=decide_eq_false (by omega)
        clear hk
        go_wp2_with fail
        clear s0 zs0 s1 zs1 s2 zs2 s3 zs3 s4 zs4 s5 zs5
        obtain ⟨qb,qf⟩:=box6 BO1.out (.string nilS) (.string nilS) (.bool false) (.int .i64 0) (.slice none 0 0) (.bool false)
        have q0:=qb.cell' (i:=0) rfl
        have q1:=qb.cell' (i:=1) rfl
        have q2:=qb.cell' (i:=2) rfl
        have q3:=qb.cell' (i:=3) rfl
        have q4:=qb.cell' (i:=4) rfl
        have q5:=qb.cell' (i:=5) rfl
        refine bodyPost_ret (v:=.tuple #[lwV Lw.zero (.slice none 0 0),.int .i64 10]) ?_ rfl (.inr ⟨10,.inr ⟨rfl,HK.out,HNO.out⟩,rfl,F1.out.then_only qf (.inr (Nat.le_refl _))⟩)
        simp [results,Tryz.results31,go_sem,Lw.zero,q0,q1,q2,q3,q4,q5]
      | true =>
       obtain ⟨_,V,A2,c2,hst⟩ | ⟨h,_⟩:=hcut
       rotate_left
       ·cases h
       have S2:=hid_ hst
       clear hst
       by_cases hk0:k=0
       ·have hfo:foldL (L.map (·.R))=some V:=by have:=S2.out.fo;rw [hk0] at this;exact this
        have HFO:=hid_ hfo
        subst hk0
        clear hfo
        have e1:decide ((0:Int)≤((0:Nat):Int) - 1)=false:=by decide
        have v0:wr.cell? ⟨X,0,none⟩=some (.string V.low):=S2.out.bx.cell' rfl
        have v1:wr.cell? ⟨X,1,none⟩=some (.string V.high):=S2.out.bx.cell' rfl
        have v2:wr.cell? ⟨X,2,none⟩=some (.bool V.unb):=S2.out.bx.cell' rfl
        have v3:wr.cell? ⟨X,3,none⟩=some (.int .i64 V.right):=S2.out.bx.cell' rfl
        have v4:wr.cell? ⟨X,4,none⟩=some (.slice A2 V.rows.length c2):=S2.out.bx.cell' rfl
        have v5:wr.cell? ⟨X,5,none⟩=some (.bool V.gone):=S2.out.bx.cell' rfl
        have s0:wr.cell? ⟨w.heap.size,0,none⟩=some (.string nilS):=S2.out.bo.cell' rfl
        have zs0:=S2.out.bo.frozen 0
        have s1:wr.cell? ⟨w.heap.size,1,none⟩=some (.string nilS):=S2.out.bo.cell' rfl
        have zs1:=S2.out.bo.frozen 1
        have s2:wr.cell? ⟨w.heap.size,2,none⟩=some (.bool false):=S2.out.bo.cell' rfl
        have zs2:=S2.out.bo.frozen 2
        have s3:wr.cell? ⟨w.heap.size,3,none⟩=some (.int .i64 0):=S2.out.bo.cell' rfl
        have zs3:=S2.out.bo.frozen 3
        have s4:wr.cell? ⟨w.heap.size,4,none⟩=some (.slice none 0 0):=S2.out.bo.cell' rfl
        have zs4:=S2.out.bo.frozen 4
        have s5:wr.cell? ⟨w.heap.size,5,none⟩=some (.bool false):=S2.out.bo.cell' rfl
        have zs5:=S2.out.bo.frozen 5
        go_wp2_with fail
        clear s0 zs0 s1 zs1 s2 zs2 s3 zs3 s4 zs4 s5 zs5
        clear v0 v1 v2 v3 v4 v5 
        obtain ⟨qb,qf⟩:=box6 S2.out.bo (.string V.low) (.string V.high) (.bool V.unb) (.int .i64 V.right) (.slice A2 V.rows.length c2) (.bool V.gone)
        have q0:=qb.cell' (i:=0) rfl
        have q1:=qb.cell' (i:=1) rfl
        have q2:=qb.cell' (i:=2) rfl
        have q3:=qb.cell' (i:=3) rfl
        have q4:=qb.cell' (i:=4) rfl
        have q5:=qb.cell' (i:=5) rfl
        refine bodyPost_ret (v:=.tuple #[lwV V (.slice A2 V.rows.length c2),.int .i64 0]) ?_ rfl (.inl ⟨V,A2,c2,HK.out,HFO.out,rfl,S2.out.vin.far S2.out.bo (by decide) (Nat.le_refl _) qf,S2.out.fr.then_only qf (.inr (Nat.le_refl _))⟩)
        simp [results,Tryz.results31,go_sem,q0,q1,q2,q3,q4,q5]
       ·obtain ⟨j,rfl⟩:∃ j,k=j+1:=⟨k - 1,by omega⟩
        have hjm:j < m:=by omega
        obtain ⟨C,hC⟩:∃ C,L[j]?=some C:=⟨_,List.getElem?_eq_getElem (by omega)⟩
        obtain ⟨b2,off2,hA,hb2,hR2,hO2⟩:=(H.out.keep S2.out.fr).at_ hC
        obtain ⟨rfl,rfl⟩:b=b2∧off=off2:=by injection hA with hA;injection hA with e1 e2;exact ⟨e1,e2⟩
        have hkd:=kind_of hm1 (fun j C hj h=>HK.out _ (List.mem_map.2 ⟨C,List.mem_of_getElem? h,rfl⟩)) C.R (List.mem_map.2 ⟨C,List.mem_of_getElem? hC,rfl⟩)
        have hk1:C.R.kind≠1:=fun h=>by have:=((HA2.out j C (by omega) hC).1).1 h;omega
        have hk5:=(HA2.out j C (by omega) hC).2
        have HGO:Hid (V.gone=false):=hid_ (fold_gone S2.out hjm hm1 HA2.out)
        have HUP:=hid_ (fold_up S2.out hC (by omega))
        have HG:=hid_ (foldL_good S2.out.fo)
        have HR2:=hid_ hR2
        have HCO:=hid_ hO2
        have HCS:=hid_ (HS.out C (List.mem_of_getElem? hC))
        have HCC:=hid_ (HCP.out C (List.mem_of_getElem? hC))
        have hCs:=HCS.out.2.2
        have hlen:=S2.out.len
        have hi0:(0:Int)≤(j:Int):=Int.natCast_nonneg _
        have hi1:(j:Int) < (m:Int)+1:=by omega
        have e1:decide ((0:Int)≤(j:Int))=true:=decide_eq_true (by omega)
        have hw3:IntKind.i64.wrap ((j:Int) - 1)=(j:Int) - 1:=IntWalk.i64_in _ (by omega)
        rw [show ((j+1:Nat):Int) - 1=(j:Int) by omega]
        have HKD:=hid_ (And.intro hkd (And.intro hk1 hk5))
        clear hR2 hO2 hA hC hkd hk1 hk5 hk0 hk
        go_upto_region 22 with (first | (refine wpList_load_mid rfl 51 (.tmp 105) rfl b (off+j * 15) rfl (recL C) _ HR2.out Tryz.underlying51 rfl rec_size8 ?_) | (refine wpList_store_mid rfl 51 (.tmp 10) (.tmp 106) rfl wr.heap.size 0 (recL C).toArray rfl rfl (new_there wr _ recZ8) rec_size8 (rec_one C) ?_;obtain ⟨w1,hw1⟩:∃ w1,w1=(wr.alloc (.cells recZ8 51)).setCells wr.heap.size 0 (recL C):=⟨_,rfl⟩;change wpList _ _ _ _ _ ((wr.alloc (.cells recZ8 51)).setCells wr.heap.size 0 (recL C));rw [← hw1];have P1:Hid (Blk w1 wr.heap.size 51 (recL C).toArray∧Fr none_ wr w1):=hid_ (by rw [hw1];exact new_copy wr _ recZ8 _ rfl);clear hw1))
        have S3:=hid_ (S2.out.keep P1.out.2)
        have BR:=hid_ P1.out.1
        have hsz3:=P1.out.2.size
        have hsS:=S2.out.fr.size
        have HCO3:=hid_ (HCO.out.keep P1.out.2)
        have hXl:=S2.out.bx.lt
        obtain ⟨hkd,hk1,hk5⟩:=HKD.out
        clear HKD HR2
        have r0:w1.cell? ⟨wr.heap.size,0,none⟩=some (.int .i64 C.R.kind):=BR.out.cell' rfl
        have hcases:C.R.kind=2∨C.R.kind=3∨C.R.kind=4∨C.R.kind=5∨C.R.kind=6:=by have:=hkd.1;have:=hkd.2;omega
        clear hkd hk1
        rcases hcases with h2 | h2 | h2 | h2 | h2
        ·rw [h2] at r0
         have H2:=hid_ h2
         clear h2 hk5
         as_aux_lemma =>
          have r7:w1.cell? ⟨wr.heap.size,7,none⟩=some (.string C.R.key):=BR.out.cell' rfl
          have r8:w1.cell? ⟨wr.heap.size,8,none⟩=some (.string C.R.val):=BR.out.cell' rfl
          go_upto_region 24 with (refine wpList_store_mid rfl 25 (.tmp 11) (.tmp 114) rfl w1.heap.size 0 #[.string C.R.key,.string C.R.val] rfl rfl (new_there w1 _ #[.string nilS,.string nilS]) row_size7 (by simp [Value.oneCell']) ?_;obtain ⟨w2,hw2⟩:∃ w2,w2=(w1.alloc (.cells #[.string nilS,.string nilS] 25)).setCells w1.heap.size 0 [.string C.R.key,.string C.R.val]:=⟨_,rfl⟩;change wpList _ _ _ _ _ ((w1.alloc (.cells #[.string nilS,.string nilS] 25)).setCells w1.heap.size 0 [.string C.R.key,.string C.R.val]);rw [← hw2];have P2:Hid (Blk w2 w1.heap.size 25 #[.string C.R.key,.string C.R.val]∧Fr none_ w1 w2):=hid_ (by rw [hw2];exact new_copy w1 _ #[.string nilS,.string nilS] _ rfl);clear hw2)
          have S4:=hid_ (S3.out.keep P2.out.2)
          have BR4:=hid_ (BR.out.fr P2.out.2 id)
          have hsz4:=P2.out.2.size
          clear r0 r7 r8 S3 BR
          go_frame
          go_cut [8] (fun v wq=>∃ bb:Bool,v=.bool bb∧UpOk V C.R { V with rows:=putR V.rows (C.R.key,C.R.val) } bb∧Fr none_ w2 wq)
          case first =>
           have y0:w2.cell? ⟨w1.heap.size,0,none⟩=some (.string C.R.key):=P2.out.1.cell' rfl
           have y1:w2.cell? ⟨w1.heap.size,1,none⟩=some (.string C.R.val):=P2.out.1.cell' rfl
           have hu:=upL_2 H2.out HGO.out
           have HU:=hid_ hu
           clear hu
           go_wp2_with fail
           refine (rfits_ok (C.R.key,C.R.val) w2 HCO3.out.key HCS.out.1).mono ?_
           rintro e w3 ⟨rfl,hf⟩
           have F3:=hid_ hf
           replace S4:=hid_ (S4.out.keep hf)
           replace BR4:=hid_ (BR4.out.fr hf id)
           clear hf y0 y1
           cases hfit:fitsR (C.R.key,C.R.val) with
           | false =>
            have hu:=HU.out
            rw [hfit] at hu
            have HU2:=hid_ hu
            clear hu hfit
            go_wp2_with fail
            go_meet
            case rel=>exact ⟨false,rfl,HU2.out,F3.out⟩
           | true =>
            have hu:=HU.out
            rw [hfit] at hu
            have HU2:=hid_ hu
            clear hu hfit
            have v0:w3.cell? ⟨X,0,none⟩=some (.string V.low):=S4.out.bx.cell' rfl
            have v1:w3.cell? ⟨X,1,none⟩=some (.string V.high):=S4.out.bx.cell' rfl
            have v2:w3.cell? ⟨X,2,none⟩=some (.bool V.unb):=S4.out.bx.cell' rfl
            have v3:w3.cell? ⟨X,3,none⟩=some (.int .i64 V.right):=S4.out.bx.cell' rfl
            have v4:w3.cell? ⟨X,4,none⟩=some (.slice A2 V.rows.length c2):=S4.out.bx.cell' rfl
            have v5:w3.cell? ⟨X,5,none⟩=some (.bool V.gone):=S4.out.bx.cell' rfl
            have r7:w3.cell? ⟨wr.heap.size,7,none⟩=some (.string C.R.key):=BR4.out.cell' rfl
            go_wp2_with fail
            refine (rhasL_ok V (.slice A2 V.rows.length c2) C.R.key w3 S4.out.vin.ok.low S4.out.vin.ok.high HCO3.out.key).mono ?_
            rintro e w4 ⟨rfl,hf⟩
            clear v0 v1 v2 v3 v4 v5 r7
            have F4:=hid_ (F3.out.then_none hf)
            clear hf
            go_wp2_with fail
            go_meet
            case rel=>exact ⟨_,rfl,HU2.out,F4.out⟩
          case rest =>
          obtain ⟨bb,rfl,hbb,hf⟩:=hcut
          obtain ⟨w3,rfl⟩:∃ z:World,z=wc:=⟨_,rfl⟩
          have HB:=hid_ hbb
          have S5:=hid_ (S4.out.keep hf)
          have hsz5:=hf.size
          have P5:=hid_ (P2.out.1.fr hf id)
          have BR5:=hid_ (BR4.out.fr hf id)
          clear hbb hf S4 P2 BR4
          have v4:w3.cell? ⟨X,4,none⟩=some (.slice A2 V.rows.length c2):=S5.out.bx.cell' rfl
          have y0:w3.cell? ⟨w1.heap.size,0,none⟩=some (.string C.R.key):=P5.out.cell' rfl
          have y1:w3.cell? ⟨w1.heap.size,1,none⟩=some (.string C.R.val):=P5.out.cell' rfl
          go_wp2_with fail
          refine (rput_ok V.rows A2 c2 (C.R.key,C.R.val) w3 S5.out.vin.rd S5.out.vin.ok.rows S5.out.vin.cap S5.out.vin.capm ⟨HCO3.out.key,HCS.out.1⟩).mono ?_
          rintro e w4 ⟨A',c',rfl,hown,hf⟩
          have S6:=hid_ (S5.out.keep hf)
          have BR6:=hid_ (BR5.out.fr hf id)
          have hs6:=S5.out.fr.size
          have O6:=hid_ (own_base hown (by omega:w.heap.size≤w3.heap.size))
          clear hown hf y0 y1 S5 BR5 v4
          have hln2:=putR_len V.rows (C.R.key,C.R.val)
          have HRK:=hid_ (S6.out.vin.ok.rows.put (r:=(C.R.key,C.R.val)) (by omega:V.rows.length < 300000) ⟨HCO3.out.key,HCS.out.1⟩)
          obtain ⟨L2,hL2⟩:∃ L2,L2=putR V.rows (C.R.key,C.R.val):=⟨_,rfl⟩
          rw [← hL2] at O6 HB HRK hln2
          rw [← hL2]
          clear hL2
          have v4:w4.cell? ⟨X,4,none⟩=some (.slice A2 V.rows.length c2):=S6.out.bx.cell' rfl
          have zv4:=S6.out.bx.frozen 4
          go_upto_region 26 with fail
          obtain ⟨w5,hw5⟩:∃ z,z=w4.setCell ⟨X,4,none⟩ (.slice A' L2.length c'):=⟨_,rfl⟩
          have fw5:Fr (only X) w4 w5:=by rw [hw5];exact Fr.only1 w4 ⟨X,4,none⟩ _
          have BX5:Hid (Blk w5 X 72 (lwA { V with rows:=L2 } (.slice A' L2.length c'))):=hid_ (by rw [hw5];exact S6.out.bx.set_ 4 _)
          change Code.wp _ _ _ _ (w4.setCell ⟨X,4,none⟩ (.slice A' L2.length c'))
          rw [← hw5]
          clear hw5
          have BR7:=hid_ (BR6.out.fr fw5 (only_ne (by omega)))
          have hvin:LwRd w.heap.size w5 { V with rows:=L2 } A' c':=LwRd.of_own (V:={ V with rows:=L2 }) (own_fr O6.out fw5 (fun k hk e=>own_blk_ne O6.out S6.out.bx (by decide) (by rw [hk,show k=X from e]))) ⟨S6.out.vin.ok.low,S6.out.vin.ok.high,HRK.out⟩
          have hbo:=S6.out.bo.fr fw5 (only_ne (by omega))
          have hfr:=S6.out.fr.then_only fw5 (.inr (by omega))
          have hln:L2.length≤(L.length - j) * 501:=by omega
          clear v4 zv4 fw5
          have hcut:=cut_of HUP.out HB.out BX5.out hbo hvin hln hfr
          have HCUT:=hid_ hcut
          have r0:w5.cell? ⟨wr.heap.size,0,none⟩=some (.int .i64 C.R.kind):=BR7.out.cell' rfl
          rw [H2.out] at r0
          clear hcut hfr hbo hvin hln
          go_wp2_with fail
          go_roundw
          case rel=>exact ⟨j,by omega,by first | rfl | (congr 1;omega),_,rfl,HCUT.out⟩
          case measure=>first | (simp [intOf];done) | (simp [intOf];omega)
        ·rw [h2] at r0
         have H2:=hid_ h2
         clear h2 hk5
         as_aux_lemma =>
          have v0:w1.cell? ⟨X,0,none⟩=some (.string V.low):=S3.out.bx.cell' rfl
          have v1:w1.cell? ⟨X,1,none⟩=some (.string V.high):=S3.out.bx.cell' rfl
          have v2:w1.cell? ⟨X,2,none⟩=some (.bool V.unb):=S3.out.bx.cell' rfl
          have v3:w1.cell? ⟨X,3,none⟩=some (.int .i64 V.right):=S3.out.bx.cell' rfl
          have v4:w1.cell? ⟨X,4,none⟩=some (.slice A2 V.rows.length c2):=S3.out.bx.cell' rfl
          have v5:w1.cell? ⟨X,5,none⟩=some (.bool V.gone):=S3.out.bx.cell' rfl
          have r7:w1.cell? ⟨wr.heap.size,7,none⟩=some (.string C.R.key):=BR.out.cell' rfl
          go_wp2_with fail
          refine (rhasL_ok V (.slice A2 V.rows.length c2) C.R.key w1 S3.out.vin.ok.low S3.out.vin.ok.high HCO3.out.key).mono ?_
          rintro e w2 ⟨rfl,hf⟩
          clear v0 v1 v2 v3 v4 v5 r7
          clear r0
          have S4:=hid_ (S3.out.keep hf)
          have BR4:=hid_ (BR.out.fr hf id)
          have hsz4:=hf.size
          have hu:=upL_3 H2.out HGO.out
          obtain ⟨bb,hbb⟩:∃ bb,bb=inS V.low V.high V.unb C.R.key:=⟨_,rfl⟩
          rw [← hbb] at hu
          rw [← hbb]
          have HB:=hid_ hu
          clear hu hbb hf S3 BR
          have v4:w2.cell? ⟨X,4,none⟩=some (.slice A2 V.rows.length c2):=S4.out.bx.cell' rfl
          have r7:w2.cell? ⟨wr.heap.size,7,none⟩=some (.string C.R.key):=BR4.out.cell' rfl
          go_wp2_with fail
          refine (rdrop_ok V.rows A2 c2 C.R.key w2 S4.out.vin.rd S4.out.vin.ok.rows S4.out.vin.cap S4.out.vin.capm HCO3.out.key).mono ?_
          rintro e w3 ⟨A',c',rfl,hd1,hd2,hd3,hd4,hf⟩
          have hsw:=S4.out.fr.size
          have HV:=hid_ (S4.out.vin.dropped hsw hf hd1 hd2 hd3 hd4)
          have S6:=hid_ (S4.out.keep hf)
          have BR6:=hid_ (BR4.out.fr hf id)
          have hsz5:=hf.size
          clear hd1 hd2 hd3 hd4 hf S4 BR4 v4 r7
          have hln2:=dropR_len V.rows C.R.key
          obtain ⟨L2,hL2⟩:∃ L2,L2=dropR V.rows C.R.key:=⟨_,rfl⟩
          rw [← hL2] at HV HB hln2
          rw [← hL2]
          clear hL2
          have v4:w3.cell? ⟨X,4,none⟩=some (.slice A2 V.rows.length c2):=S6.out.bx.cell' rfl
          have zv4:=S6.out.bx.frozen 4
          go_upto_region 29 with fail
          obtain ⟨w5,hw5⟩:∃ z,z=w3.setCell ⟨X,4,none⟩ (.slice A' L2.length c'):=⟨_,rfl⟩
          have fw5:Fr (only X) w3 w5:=by rw [hw5];exact Fr.only1 w3 ⟨X,4,none⟩ _
          have BX5:Hid (Blk w5 X 72 (lwA { V with rows:=L2 } (.slice A' L2.length c'))):=hid_ (by rw [hw5];exact S6.out.bx.set_ 4 _)
          change Code.wp _ _ _ _ (w3.setCell ⟨X,4,none⟩ (.slice A' L2.length c'))
          rw [← hw5]
          clear hw5
          have BR7:=hid_ (BR6.out.fr fw5 (only_ne (by omega)))
          have hvin:=HV.out.far S6.out.bx (by decide) (by omega) fw5
          have hbo:=S6.out.bo.fr fw5 (only_ne (by omega))
          have hfr:=S6.out.fr.then_only fw5 (.inr (by omega))
          have hln:L2.length≤(L.length - j) * 501:=by omega
          clear v4 zv4 fw5
          have hcut:=cut_of HUP.out HB.out BX5.out hbo hvin hln hfr
          have HCUT:=hid_ hcut
          have r0:w5.cell? ⟨wr.heap.size,0,none⟩=some (.int .i64 C.R.kind):=BR7.out.cell' rfl
          rw [H2.out] at r0
          clear hcut hfr hbo hvin hln
          go_wp2_with fail
          go_roundw
          case rel=>exact ⟨j,by omega,by first | rfl | (congr 1;omega),_,rfl,HCUT.out⟩
          case measure=>first | (simp [intOf];done) | (simp [intOf];omega)
        ·rw [h2] at r0
         have H2:=hid_ h2
         clear h2 hk5
         as_aux_lemma =>
          have hu:=upL_4 H2.out HGO.out HG.out
          have HU:=hid_ hu
          clear hu
          go_upto_region 30 with fail
          clear r0
          go_cut [8] (fun v wq=>∃ bb:Bool,v=.bool bb∧UpOk V C.R { V with rows:=ahR V.rows C.R.key,high:=C.R.key,unb:=false,right:=C.R.page } bb∧Fr none_ w1 wq)
          case first =>
           have v0:w1.cell? ⟨X,0,none⟩=some (.string V.low):=S3.out.bx.cell' rfl
           have v1:w1.cell? ⟨X,1,none⟩=some (.string V.high):=S3.out.bx.cell' rfl
           have v2:w1.cell? ⟨X,2,none⟩=some (.bool V.unb):=S3.out.bx.cell' rfl
           have v3:w1.cell? ⟨X,3,none⟩=some (.int .i64 V.right):=S3.out.bx.cell' rfl
           have v4:w1.cell? ⟨X,4,none⟩=some (.slice A2 V.rows.length c2):=S3.out.bx.cell' rfl
           have v5:w1.cell? ⟨X,5,none⟩=some (.bool V.gone):=S3.out.bx.cell' rfl
           have r7:w1.cell? ⟨wr.heap.size,7,none⟩=some (.string C.R.key):=BR.out.cell' rfl
           go_wp2_with fail
           refine (rhasL_ok V (.slice A2 V.rows.length c2) C.R.key w1 S3.out.vin.ok.low S3.out.vin.ok.high HCO3.out.key).mono ?_
           rintro e w2 ⟨rfl,hf⟩
           clear v0 v1 v2 v3 v4 v5 r7
           have F4:=hid_ hf
           cases hin:inS V.low V.high V.unb C.R.key with
           | false =>
            have hu:=HU.out
            rw [hin] at hu
            have HU2:=hid_ hu
            clear hu hin hf
            go_wp2_with fail
            go_meet
            case rel=>exact ⟨false,rfl,HU2.out,F4.out⟩
           | true =>
            have hu:=HU.out
            rw [hin] at hu
            have HU2:=hid_ hu
            have v0:w2.cell? ⟨X,0,none⟩=some (.string V.low):=(S3.out.bx.fr hf id).cell' rfl
            have r7:w2.cell? ⟨wr.heap.size,7,none⟩=some (.string C.R.key):=(BR.out.fr hf id).cell' rfl
            clear hu hin hf
            go_wp2_with fail
            go_meet
            case rel=>exact ⟨!sEq C.R.key V.low,rfl,HU2.out,F4.out⟩
          case rest =>
          obtain ⟨bb,rfl,hbb,hf⟩:=hcut
          obtain ⟨w3,rfl⟩:∃ z:World,z=wc:=⟨_,rfl⟩
          have HB:=hid_ hbb
          have S5:=hid_ (S3.out.keep hf)
          have hsz5:=hf.size
          have BR5:=hid_ (BR.out.fr hf id)
          clear hbb hf S3 BR
          have v4:w3.cell? ⟨X,4,none⟩=some (.slice A2 V.rows.length c2):=S5.out.bx.cell' rfl
          have r7:w3.cell? ⟨wr.heap.size,7,none⟩=some (.string C.R.key):=BR5.out.cell' rfl
          go_wp2_with fail
          refine (rahead_ok V.rows A2 c2 C.R.key w3 S5.out.vin.rd S5.out.vin.ok.rows HCO3.out.key).mono ?_
          rintro e w4 ⟨A',c',rfl,hown,hf⟩
          have S6:=hid_ (S5.out.keep hf)
          have BR6:=hid_ (BR5.out.fr hf id)
          have hs6:=S5.out.fr.size
          have O6:=hid_ (own_base hown (by omega:w.heap.size≤w3.heap.size))
          clear hown hf S5 BR5 v4 r7
          have hln2:=ahR_le V.rows C.R.key
          have hrk:RwsOk (ahR V.rows C.R.key):=⟨by have:=S6.out.vin.ok.rows.1;omega,fun p hp=>S6.out.vin.ok.rows.2 p (List.mem_filter.1 hp).1⟩
          have HRK:=hid_ hrk
          clear hrk
          obtain ⟨L2,hL2⟩:∃ L2,L2=ahR V.rows C.R.key:=⟨_,rfl⟩
          rw [← hL2] at O6 HB HRK hln2
          rw [← hL2]
          clear hL2
          have v4:w4.cell? ⟨X,4,none⟩=some (.slice A2 V.rows.length c2):=S6.out.bx.cell' rfl
          have zv4:=S6.out.bx.frozen 4
          go_upto_region 32 with fail
          obtain ⟨w5,hw5⟩:∃ z,z=w4.setCell ⟨X,4,none⟩ (.slice A' L2.length c'):=⟨_,rfl⟩
          have fw5:Fr (only X) w4 w5:=by rw [hw5];exact Fr.only1 w4 ⟨X,4,none⟩ _
          have BXw5:Hid (Blk w5 X 72 (lwA { V with rows:=L2 } (.slice A' L2.length c'))):=hid_ (by rw [hw5];exact S6.out.bx.set_ 4 _)
          change Code.wp _ _ _ _ (w4.setCell ⟨X,4,none⟩ (.slice A' L2.length c'))
          rw [← hw5]
          clear hw5
          have BRw5:=hid_ (BR6.out.fr fw5 (only_ne (by omega)))
          clear v4 zv4
          have v1:w5.cell? ⟨X,1,none⟩=some (.string V.high):=BXw5.out.cell' rfl
          have zv1:=BXw5.out.frozen 1
          have r7:w5.cell? ⟨wr.heap.size,7,none⟩=some (.string C.R.key):=BRw5.out.cell' rfl
          go_upto_region 33 with fail
          obtain ⟨w6,hw6⟩:∃ z,z=w5.setCell ⟨X,1,none⟩ (.string C.R.key):=⟨_,rfl⟩
          have fw6:Fr (only X) w5 w6:=by rw [hw6];exact Fr.only1 w5 ⟨X,1,none⟩ _
          have BXw6:Hid (Blk w6 X 72 (lwA { V with rows:=L2,high:=C.R.key } (.slice A' L2.length c'))):=hid_ (by rw [hw6];exact BXw5.out.set_ 1 _)
          change Code.wp _ _ _ _ (w5.setCell ⟨X,1,none⟩ (.string C.R.key))
          rw [← hw6]
          clear hw6
          have BRw6:=hid_ (BRw5.out.fr fw6 (only_ne (by omega)))
          clear v1 zv1 r7
          have v2:w6.cell? ⟨X,2,none⟩=some (.bool V.unb):=BXw6.out.cell' rfl
          have zv2:=BXw6.out.frozen 2
          go_upto_region 34 with fail
          obtain ⟨w7,hw7⟩:∃ z,z=w6.setCell ⟨X,2,none⟩ (.bool false):=⟨_,rfl⟩
          have fw7:Fr (only X) w6 w7:=by rw [hw7];exact Fr.only1 w6 ⟨X,2,none⟩ _
          have BXw7:Hid (Blk w7 X 72 (lwA { V with rows:=L2,high:=C.R.key,unb:=false } (.slice A' L2.length c'))):=hid_ (by rw [hw7];exact BXw6.out.set_ 2 _)
          change Code.wp _ _ _ _ (w6.setCell ⟨X,2,none⟩ (.bool false))
          rw [← hw7]
          clear hw7
          have BRw7:=hid_ (BRw6.out.fr fw7 (only_ne (by omega)))
          clear v2 zv2
          have v3:w7.cell? ⟨X,3,none⟩=some (.int .i64 V.right):=BXw7.out.cell' rfl
          have zv3:=BXw7.out.frozen 3
          have r9:w7.cell? ⟨wr.heap.size,9,none⟩=some (.int .i64 C.R.page):=BRw7.out.cell' rfl
          go_upto_region 35 with fail
          obtain ⟨w8,hw8⟩:∃ z,z=w7.setCell ⟨X,3,none⟩ (.int .i64 C.R.page):=⟨_,rfl⟩
          have fw8:Fr (only X) w7 w8:=by rw [hw8];exact Fr.only1 w7 ⟨X,3,none⟩ _
          have BXw8:Hid (Blk w8 X 72 (lwA { V with rows:=L2,high:=C.R.key,unb:=false,right:=C.R.page } (.slice A' L2.length c'))):=hid_ (by rw [hw8];exact BXw7.out.set_ 3 _)
          change Code.wp _ _ _ _ (w7.setCell ⟨X,3,none⟩ (.int .i64 C.R.page))
          rw [← hw8]
          clear hw8
          have BRw8:=hid_ (BRw7.out.fr fw8 (only_ne (by omega)))
          clear v3 zv3 r9
          have fAll:Fr (only X) w4 w8:=(((fw5.then_only fw6 (.inl rfl)).then_only fw7 (.inl rfl)).then_only fw8 (.inl rfl))
          have hvin:LwRd w.heap.size w8 { V with rows:=L2,high:=C.R.key,unb:=false,right:=C.R.page } A' c':=LwRd.of_own (V:={ V with rows:=L2,high:=C.R.key,unb:=false,right:=C.R.page }) (own_fr O6.out fAll (fun k hk e=>own_blk_ne O6.out S6.out.bx (by decide) (by rw [hk,show k=X from e]))) ⟨S6.out.vin.ok.low,HCO3.out.key,HRK.out⟩
          have hbo:=S6.out.bo.fr fAll (only_ne (by omega))
          have hfr:=S6.out.fr.then_only fAll (.inr (by omega))
          have hln:L2.length≤(L.length - j) * 501:=by omega
          clear fAll fw5 fw6 fw7 fw8
          have hcut:=cut_of HUP.out HB.out BXw8.out hbo hvin hln hfr
          have HCUT:=hid_ hcut
          have r0:w8.cell? ⟨wr.heap.size,0,none⟩=some (.int .i64 C.R.kind):=BRw8.out.cell' rfl
          rw [H2.out] at r0
          clear hcut hfr hbo hvin hln
          go_wp2_with fail
          go_roundw
          case rel=>exact ⟨j,by omega,by first | rfl | (congr 1;omega),_,rfl,HCUT.out⟩
          case measure=>first | (simp [intOf];done) | (simp [intOf];omega)
        ·rw [h2] at r0
         have H2:=hid_ h2
         clear h2 hk5
         as_aux_lemma =>
          have hu:=upL_5 H2.out HGO.out
          have HB:=hid_ hu
          clear hu
          have v5:w1.cell? ⟨X,5,none⟩=some (.bool V.gone):=S3.out.bx.cell' rfl
          have zv5:=S3.out.bx.frozen 5
          go_upto_region 37 with fail
          obtain ⟨w5,hw5⟩:∃ z,z=w1.setCell ⟨X,5,none⟩ (.bool true):=⟨_,rfl⟩
          have fw5:Fr (only X) w1 w5:=by rw [hw5];exact Fr.only1 w1 ⟨X,5,none⟩ _
          have BX5:Hid (Blk w5 X 72 (lwA { V with gone:=true } (.slice A2 V.rows.length c2))):=hid_ (by rw [hw5];exact S3.out.bx.set_ 5 _)
          change Code.wp _ _ _ _ (w1.setCell ⟨X,5,none⟩ (.bool true))
          rw [← hw5]
          clear hw5
          have BR7:=hid_ (BR.out.fr fw5 (only_ne (by omega)))
          have hv0:=S3.out.vin.far S3.out.bx (by decide) (by omega) fw5
          have hvin:LwRd w.heap.size w5 { V with gone:=true } A2 c2:=⟨hv0.rd,hv0.cap,hv0.capm,⟨hv0.ok.low,hv0.ok.high,hv0.ok.rows⟩,hv0.src⟩
          have hbo:=S3.out.bo.fr fw5 (only_ne (by omega))
          have hfr:=S3.out.fr.then_only fw5 (.inr (by omega))
          have hln:V.rows.length≤(L.length - j) * 501:=by omega
          clear v5 zv5 fw5 r0 hv0
          have hcut:=cut_of HUP.out HB.out BX5.out hbo hvin hln hfr
          have HCUT:=hid_ hcut
          have r0:w5.cell? ⟨wr.heap.size,0,none⟩=some (.int .i64 C.R.kind):=BR7.out.cell' rfl
          rw [H2.out] at r0
          clear hcut hfr hbo hvin hln
          go_wp2_with fail
          go_roundw
          case rel=>exact ⟨j,by omega,by first | rfl | (congr 1;omega),_,rfl,HCUT.out⟩
          case measure=>first | (simp [intOf];done) | (simp [intOf];omega)
        ·rw [h2] at r0
         have H2:=hid_ h2
         clear h2 hk5
         as_aux_lemma =>
          go_upto_region 38 with fail
          clear r0
          go_cut [8] (fun v wq=>∃ bb:Bool,v=.bool bb∧MergeB V C.R bb∧Fr none_ w1 wq)
          case first =>
           have v1:w1.cell? ⟨X,1,none⟩=some (.string V.high):=S3.out.bx.cell' rfl
           have v2:w1.cell? ⟨X,2,none⟩=some (.bool V.unb):=S3.out.bx.cell' rfl
           have r2:w1.cell? ⟨wr.heap.size,2,none⟩=some (.string C.R.high):=BR.out.cell' rfl
           have r3:w1.cell? ⟨wr.heap.size,3,none⟩=some (.bool C.R.unb):=BR.out.cell' rfl
           have r5:w1.cell? ⟨wr.heap.size,5,none⟩=some (.slice C.A C.R.rows.length C.c):=BR.out.cell' rfl
           have r7:w1.cell? ⟨wr.heap.size,7,none⟩=some (.string C.R.key):=BR.out.cell' rfl
           cases hu:V.unb with
           | true =>
            rw [hu] at v2
            have HU:=hid_ hu
            clear hu
            go_wp2_with fail
            go_meet
            case rel=>exact ⟨false,rfl,⟨(fun h=>by cases h),fun h=>by have:=h.1;rw [HU.out] at this;cases this⟩,Fr.refl _ _⟩
           | false =>
            rw [hu] at v2
            have HU:=hid_ hu
            clear hu
            by_cases he:V.high=C.R.key
            case neg =>
             have hse:(V.high.toList==C.R.key.toList)=false:=sEq_ne he
             have HE:=hid_ he
             clear he
             go_wp2_with fail
             go_meet
             case rel=>exact ⟨false,rfl,⟨(fun h=>by cases h),fun h=>absurd h.2.1 HE.out⟩,Fr.refl _ _⟩
            have hse:(V.high.toList==C.R.key.toList)=true:=sEq_iff.2 he
            have HE:=hid_ he
            clear he
            go_wp2_with fail
            refine (rsound_ok C.R.rows C.A C.c C.R.key C.R.high C.R.unb w1 HCO3.out.rd.r HCS.out.2.1 HCO3.out.key HCO3.out.high).mono ?_
            rintro e w2 ⟨bs,rfl,hbs,hf⟩
            have HBS:=hid_ hbs
            have F2:=hid_ hf
            have BR2:=hid_ (BR.out.fr hf id)
            clear hbs hf v1 v2 r2 r3 r5 r7
            cases bs with
            | false =>
             go_wp2_with fail
             go_meet
             case rel=>exact ⟨false,rfl,⟨(fun h=>by cases h),fun h=>by have:=HBS.out.2 h.2.2.1;cases this⟩,F2.out⟩
            | true =>
             have r2:w2.cell? ⟨wr.heap.size,2,none⟩=some (.string C.R.high):=BR2.out.cell' rfl
             have r3:w2.cell? ⟨wr.heap.size,3,none⟩=some (.bool C.R.unb):=BR2.out.cell' rfl
             have r7:w2.cell? ⟨wr.heap.size,7,none⟩=some (.string C.R.key):=BR2.out.cell' rfl
             cases hru:C.R.unb with
             | true =>
              rw [hru] at r3
              have HRU:=hid_ hru
              clear hru
              go_wp2_with fail
              go_meet
              case rel=>exact ⟨true,rfl,⟨fun _=>⟨HU.out,HE.out,HBS.out.1 (by simp),.inl HRU.out⟩,fun _=>rfl⟩,F2.out⟩
             | false =>
              rw [hru] at r3
              have HRU:=hid_ hru
              clear hru
              go_wp2_with fail
              refine (before_ok C.R.key C.R.high w2 HCO3.out.key.le HCO3.out.high.le).mono ?_
              rintro e w3 ⟨rfl,q,rfl⟩
              have F3:=hid_ (F2.out.drewN q)
              clear r2 r3 r7
              go_wp2_with fail
              go_meet
              case rel=>exact ⟨_,rfl,⟨fun h=>⟨HU.out,HE.out,HBS.out.1 (by simp),.inr h⟩,fun h=>by
               rcases h.2.2.2 with h | h
               ·rw [HRU.out] at h;cases h
               ·exact h⟩,F3.out⟩
          case rest =>
          obtain ⟨bb,rfl,hbb,hf⟩:=hcut
          obtain ⟨w3,rfl⟩:∃ z:World,z=wc:=⟨_,rfl⟩
          have HB:=hid_ hbb
          have S5:=hid_ (S3.out.keep hf)
          have hsz5:=hf.size
          replace HB:=hid_ (HB.out.ok H2.out HGO.out HG.out)
          have BR5:=hid_ (BR.out.fr hf id)
          have HCO5:=hid_ (HCO3.out.rd.r.none_fr hf)
          clear hbb hf S3 BR
          have hs6:=S5.out.fr.size
          have v4:w3.cell? ⟨X,4,none⟩=some (.slice A2 V.rows.length c2):=S5.out.bx.cell' rfl
          have r5:w3.cell? ⟨wr.heap.size,5,none⟩=some (.slice C.A C.R.rows.length C.c):=BR5.out.cell' rfl
          go_upto_region 39 with fail
          have hS0:(fun w':World=>Fr none_ w3 w') w3.drew:=(Fr.refl none_ w3).drew
          refine wp_region_U (m:=8) (S:=fun w':World=>Fr none_ w3 w') (by kernel_rfl) ?_
          refine wpAnyU_take2 (i:=1) (v:=_) rfl (by kernel_rfl) (by kernel_rfl) (by kernel_rfl) (by kernel_rfl) (fun _ _ _ h=>h) (.inl ⟨by kernel_rfl,fun w' hS=>by go_simp;rfl⟩) hS0 ?_
          refine wpAnyU_take2 (i:=2) (v:=_) rfl (by kernel_rfl) (by kernel_rfl) (by kernel_rfl) (by kernel_rfl) (fun _ _ _ h=>h) (.inl ⟨by kernel_rfl,fun w' hS=>by have s_v:=cellFr v4 hS;go_simp;rfl⟩) hS0 ?_
          refine wpAnyU_take2 (i:=4) (v:=_) rfl (by kernel_rfl) (by kernel_rfl) (by kernel_rfl) (by kernel_rfl) (fun _ _ _ h=>h) (.inl ⟨by kernel_rfl,fun w' hS=>by go_simp;rfl⟩) hS0 ?_
          refine wpAnyU_take2 (i:=5) (v:=_) rfl (by kernel_rfl) (by kernel_rfl) (by kernel_rfl) (by kernel_rfl) (fun _ _ _ h=>h) (.inl ⟨by kernel_rfl,fun w' hS=>by have s_r:=cellFr r5 hS;go_simp;rfl⟩) hS0 ?_
          clear hS0 v4 r5
          obtain ⟨y1,hy1⟩:∃ z,z=w3.drew:=⟨_,rfl⟩
          have F2:Hid (Fr none_ w3 y1):=hid_ (by rw [hy1];exact (Fr.refl none_ w3).drew)
          rw [← hy1]
          clear hy1
          refine wpAnyU_one7 (i:=0) rfl (by kernel_rfl) (by kernel_rfl) ?_
          go_simp
          obtain ⟨y3,hy3⟩:∃ z,z=y1.alloc (.cells #[] 25):=⟨_,rfl⟩
          have sy3:y1.heap.size < y3.heap.size:=by rw [hy3];simp [World.size_alloc]
          have f5:Fr none_ y1 y3:=by rw [hy3];exact (Fr.refl none_ _).alloc _
          have OE:Hid (y3.ownsRow w3.heap.size 25 2 (.slice (some ⟨y1.heap.size,0,none⟩) 0 0) 0 []):=hid_ (by rw [hy3];exact own_empty _ _ _ _ (by have:=F2.out.size;omega))
          have F4:=hid_ (F2.out.then_none f5)
          change _∧wpAnyU _ _ _ _ _ _ _ _ _ (y1.alloc (.cells #[] 25))
          rw [← hy3]
          refine ⟨F4.out,?_⟩
          clear hy3 f5
          refine wpAnyU_one7 (i:=3) rfl (by kernel_rfl) (by kernel_rfl) ?_
          refine wp_append_any _ (.tmp 213) (.tmp 215) 22 rfl w3.heap.size 25 i0 _ 2 32 Tryz.underlying22 Hi.out.1 Hi.out.2.1 Hi.out.2.2.1 Hi.out.2.2.2 rfl (by omega) (.slice (some ⟨y1.heap.size,0,none⟩) 0 0) (0) ([]) rfl OE.out (A2) (V.rows.length) (c2) (rwFlat V.rows) rfl (S5.out.vin.rd.none_fr F4.out) (rwFlat_one _) (by simp only [maxLen];omega) (by omega) (by have:=F4.out.size;omega) ?_
          intro A8 c9 y6 hown hgr
          simp only [Nat.zero_add,List.nil_append] at hown ⊢
          have sy6:=hgr.size
          have F7:=hid_ (F4.out.grown hgr (fun k hk=>.inr (by have:=(OE.out.lt k hk).1;omega)))
          have O10:=hid_ hown
          refine ⟨.inr F7.out,?_⟩
          clear hown hgr OE
          have O3a:=O10
          clear O10
          refine wpAnyU_one7 (i:=6) rfl (by kernel_rfl) (by kernel_rfl) ?_
          refine wp_append_any _ (.tmp 216) (.tmp 218) 22 rfl w3.heap.size 25 i0 _ 2 32 Tryz.underlying22 Hi.out.1 Hi.out.2.1 Hi.out.2.2.1 Hi.out.2.2.2 rfl (by omega) (.slice A8 (V.rows.length) c9) (V.rows.length) (rwFlat V.rows) rfl O3a.out (C.A) (C.R.rows.length) (C.c) (rwFlat C.R.rows) rfl (HCO5.out.none_fr F7.out) (rwFlat_one _) (by simp only [maxLen];omega) (by omega) (by have:=F7.out.size;omega) ?_
          intro A13 c14 y11 hown hgr
          have sy11:=hgr.size
          have F12:=hid_ (F7.out.grown hgr (fun k hk=>.inr (by have:=(O3a.out.lt k hk).1;omega)))
          have O15:=hid_ hown
          refine ⟨.inr F12.out,?_⟩
          clear hown hgr O3a
          have O6a:=O15
          clear O15
          refine wpAnyU_one7 (i:=7) rfl (by kernel_rfl) (by kernel_rfl) ?_
          go_simp
          refine ⟨F12.out,?_⟩
          refine wpAnyU_one7 (i:=8) rfl (by kernel_rfl) (by kernel_rfl) ?_
          have S6:=hid_ (S5.out.keep F12.out)
          have BR6:=hid_ (BR5.out.fr F12.out id)
          have hsz7:=F12.out.size
          have v4:y11.cell? ⟨X,4,none⟩=some (.slice A2 V.rows.length c2):=S6.out.bx.cell' rfl
          have zv4:=S6.out.bx.frozen 4
          go_simp
          refine wpAnyU_done (by kernel_rfl) ?_ _
          obtain ⟨A',hA'⟩:∃ z,z=A13:=⟨_,rfl⟩
          obtain ⟨c',hc'⟩:∃ z,z=c14:=⟨_,rfl⟩
          have O6:=hid_ (own_base O6a.out hs6)
          rw [← hA',← hc'] at O6
          rw [← hA',← hc']
          clear hA' hc' O6a S5 BR5 HCO5
          have hlen:(V.rows ++ C.R.rows).length=V.rows.length+C.R.rows.length:=List.length_append
          have HFL:=hid_ (rwFlat_app V.rows C.R.rows)
          have HRK:=hid_ (S6.out.vin.ok.rows.app HCS.out.2.1 (by omega))
          obtain ⟨L2,hL2⟩:∃ L2,L2=V.rows ++ C.R.rows:=⟨_,rfl⟩
          rw [← hL2] at HFL HRK hlen HB
          rw [← hlen,← HFL.out] at O6
          rw [← hlen]
          clear hL2
          obtain ⟨w5,hw5⟩:∃ z,z=y11.setCell ⟨X,4,none⟩ (.slice A' L2.length c'):=⟨_,rfl⟩
          have fw5:Fr (only X) y11 w5:=by rw [hw5];exact Fr.only1 y11 ⟨X,4,none⟩ _
          have BXw5:Hid (Blk w5 X 72 (lwA { V with rows:=L2 } (.slice A' L2.length c'))):=hid_ (by rw [hw5];exact S6.out.bx.set_ 4 _)
          change Exit.then _ _ _ _ (y11.setCell ⟨X,4,none⟩ (.slice A' L2.length c'))
          rw [← hw5]
          clear hw5
          have BRw5:=hid_ (BR6.out.fr fw5 (only_ne (by omega)))
          clear v4 zv4
          have v1:w5.cell? ⟨X,1,none⟩=some (.string V.high):=BXw5.out.cell' rfl
          have zv1:=BXw5.out.frozen 1
          have r2:w5.cell? ⟨wr.heap.size,2,none⟩=some (.string C.R.high):=BRw5.out.cell' rfl
          go_upto_region 41 with fail
          obtain ⟨w6,hw6⟩:∃ z,z=w5.setCell ⟨X,1,none⟩ (.string C.R.high):=⟨_,rfl⟩
          have fw6:Fr (only X) w5 w6:=by rw [hw6];exact Fr.only1 w5 ⟨X,1,none⟩ _
          have BXw6:Hid (Blk w6 X 72 (lwA { V with rows:=L2,high:=C.R.high } (.slice A' L2.length c'))):=hid_ (by rw [hw6];exact BXw5.out.set_ 1 _)
          change Code.wp _ _ _ _ (w5.setCell ⟨X,1,none⟩ (.string C.R.high))
          rw [← hw6]
          clear hw6
          have BRw6:=hid_ (BRw5.out.fr fw6 (only_ne (by omega)))
          clear v1 zv1 r2
          have v2:w6.cell? ⟨X,2,none⟩=some (.bool V.unb):=BXw6.out.cell' rfl
          have zv2:=BXw6.out.frozen 2
          have r3:w6.cell? ⟨wr.heap.size,3,none⟩=some (.bool C.R.unb):=BRw6.out.cell' rfl
          go_upto_region 42 with fail
          obtain ⟨w7,hw7⟩:∃ z,z=w6.setCell ⟨X,2,none⟩ (.bool C.R.unb):=⟨_,rfl⟩
          have fw7:Fr (only X) w6 w7:=by rw [hw7];exact Fr.only1 w6 ⟨X,2,none⟩ _
          have BXw7:Hid (Blk w7 X 72 (lwA { V with rows:=L2,high:=C.R.high,unb:=C.R.unb } (.slice A' L2.length c'))):=hid_ (by rw [hw7];exact BXw6.out.set_ 2 _)
          change Code.wp _ _ _ _ (w6.setCell ⟨X,2,none⟩ (.bool C.R.unb))
          rw [← hw7]
          clear hw7
          have BRw7:=hid_ (BRw6.out.fr fw7 (only_ne (by omega)))
          clear v2 zv2 r3
          have v3:w7.cell? ⟨X,3,none⟩=some (.int .i64 V.right):=BXw7.out.cell' rfl
          have zv3:=BXw7.out.frozen 3
          have r4:w7.cell? ⟨wr.heap.size,4,none⟩=some (.int .i64 C.R.right):=BRw7.out.cell' rfl
          go_upto_region 20 with fail
          obtain ⟨w8,hw8⟩:∃ z,z=w7.setCell ⟨X,3,none⟩ (.int .i64 C.R.right):=⟨_,rfl⟩
          have fw8:Fr (only X) w7 w8:=by rw [hw8];exact Fr.only1 w7 ⟨X,3,none⟩ _
          have BXw8:Hid (Blk w8 X 72 (lwA { V with rows:=L2,high:=C.R.high,unb:=C.R.unb,right:=C.R.right } (.slice A' L2.length c'))):=hid_ (by rw [hw8];exact BXw7.out.set_ 3 _)
          change Code.wp _ _ _ _ (w7.setCell ⟨X,3,none⟩ (.int .i64 C.R.right))
          rw [← hw8]
          clear hw8
          have BRw8:=hid_ (BRw7.out.fr fw8 (only_ne (by omega)))
          clear v3 zv3 r4
          have fAll:Fr (only X) y11 w8:=(((fw5.then_only fw6 (.inl rfl)).then_only fw7 (.inl rfl)).then_only fw8 (.inl rfl))
          have hvin:LwRd w.heap.size w8 { V with rows:=L2,high:=C.R.high,unb:=C.R.unb,right:=C.R.right } A' c':=LwRd.of_own (V:={ V with rows:=L2,high:=C.R.high,unb:=C.R.unb,right:=C.R.right }) (own_fr O6.out fAll (fun k hk e=>own_blk_ne O6.out S6.out.bx (by decide) (by rw [hk,show k=X from e]))) ⟨S6.out.vin.ok.low,HCO3.out.high,HRK.out⟩
          have hbo:=S6.out.bo.fr fAll (only_ne (by omega))
          have hfr:=S6.out.fr.then_only fAll (.inr (by omega))
          have hln:L2.length≤(L.length - j) * 501:=by omega
          clear fAll fw5 fw6 fw7 fw8
          have hcut:=cut_of HUP.out HB.out BXw8.out hbo hvin hln hfr
          have HCUT:=hid_ hcut
          have r0:w8.cell? ⟨wr.heap.size,0,none⟩=some (.int .i64 C.R.kind):=BRw8.out.cell' rfl
          rw [H2.out] at r0
          clear hcut hfr hbo hvin hln
          go_wp2_with fail
          go_roundw
          case rel=>exact ⟨j,by omega,by first | rfl | (congr 1;omega),_,rfl,HCUT.out⟩
          case measure=>first | (simp [intOf];done) | (simp [intOf];omega)
end Go.Proofs.YthpkbppaaagaoaaGreat

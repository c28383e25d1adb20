/- Texts of one proof, merged: FoldO10. -/
import Derived.Test.YtfihfjbakfadkaaGreatDoorMvG
import Derived.Test.YtfihfjbakfadkaaGreatDoorMvK
namespace Go.Proofs.YtfihfjbakfadkaaGreatDoor
open Go.RowKit Go.BigFrame
set_option maxRecDepth 100000
set_option linter.unusedVariables false

structure VwO (b0:Nat) (w:World) (V:Vw) (A:Option Addr) (c:Nat):Prop where
  vin:VwIn w V A c
  own:w.ownsRow b0 59 2 (.slice A V.ents.length c) V.ents.length (etFlat V.ents)
theorem VwO.keep {b0:Nat} {w w':World} {V:Vw} {A:Option Addr} {c:Nat} (h:VwO b0 w V A c) (hf:Fr none_ w w'):VwO b0 w' V A c:=⟨h.vin.keep hf,own_none h.own hf⟩
theorem vwO_of {w:World} {b0 b n c:Nat} {A:Option Addr} {V:Vw} (h:w.ownsRow b 59 2 (.slice A n c) n (etFlat V.ents)) (hn:V.ents.length=n) (ho:V.Ok) (hb:b0≤b):VwO b0 w V A c:=by
  subst hn
  exact ⟨vin_of_own h rfl ho,own_base h hb⟩
theorem VwO.turned {b0:Nat} {w w':World} {V:Vw} {A:Option Addr} {c X:Nat} {t:TypeId} {cs:Array Value} (h:VwO b0 w V A c) (hX:Blk w X t cs) (ht:59≠t) (hf:Fr (only X) w w'):VwO b0 w' V A c:=by
  have ho:=own_fr h.own hf (fun k hk e=>own_blk_ne h.own hX ht (by rw [hk,show k=X from e]))
  exact ⟨vin_of_own ho rfl h.vin.ok,ho⟩
theorem VwO.far {b0:Nat} {w w':World} {V:Vw} {A:Option Addr} {c X:Nat} {cs:Array Value} (h:VwO b0 w V A c) (hX:Blk w X 38 cs) (hf:Fr (only X) w w'):VwO b0 w' V A c:=h.turned hX (by decide) hf
def FoldPostO (l:List Rc) (w:World) (e:Ending) (w':World):Prop:=
  (∃ V A c,(∀ R ∈ l,KindOk R)∧foldU l=some V∧e=.returned (.tuple #[vwV V (.slice A V.ents.length c),.nilIface])∧VwO w.heap.size w' V A c∧HeldOk V∧Fr none_ w w') ∨
  (∃ k:Int,((k=9∧∃ R ∈ l,¬ KindOk R)∨(k=10∧(∀ R ∈ l,KindOk R)∧foldU l=none))∧e=.returned (.tuple #[vwV Vw.zero (.slice none 0 0),errV k])∧Fr none_ w w')
theorem exK {l:List Rc} (h:¬ ∀ R ∈ l,KindOk R):∃ R ∈ l,¬ KindOk R:=by
  simpa using h
structure FoldStO (w:World) (L:List Ch) (X k:Nat) (V:Vw) (A:Option Addr) (c:Nat) (wr:World):Prop where
  fo:foldU ((L.drop k).map (·.R))=some V
  bx:Blk wr X 38 (vwA V (.slice A V.ents.length c))
  bo:Blk wr w.heap.size 38 (vwA Vw.zero (.slice none 0 0))
  vin:VwO w.heap.size wr V A c
  held:HeldOk V
  len:V.ents.length+k≤500+L.length
  fr:Fr none_ w wr
def FoldCutO (w:World) (L:List Ch) (X j:Nat) (bb:Bool) (wq:World):Prop:=
  (bb=true∧∃ (V:Vw) (A:Option Addr) (c:Nat),FoldStO w L X j V A c wq)∨(bb=false∧foldU ((L.drop j).map (·.R))=none∧Blk wq w.heap.size 38 (vwA Vw.zero (.slice none 0 0))∧Fr none_ w wq)
set_option maxHeartbeats 8000000 in
theorem fold_okO (A:Option Addr) (n cap:Nat) (L:List Ch) (w:World) (h:ChReads w A n L) (hn:n≤400) (hs:∀ C ∈ L,C.R.ents.length≤500) :
  Calls Tryz.prog 32 #[.slice A n cap] w (FoldPostO (L.map (·.R)) w):=by
 have hln:=h.1
 obtain ⟨w0,hw0⟩:∃ w0,w0=w.alloc (.cells (vwA Vw.zero (.slice none 0 0)) 38):=⟨_,rfl⟩
 have f0:Fr none_ w w0:=by rw [hw0];exact (Fr.refl none_ w).alloc _
 have BO:Hid (Blk w0 w.heap.size 38 (vwA Vw.zero (.slice none 0 0))):=hid_ (by rw [hw0];exact Blk.new w _ _)
 have F0:=hid_ f0
 have H:=hid_ h
 have HS:=hid_ hs
 have hsz0:w.heap.size < w0.heap.size:=BO.out.lt
 clear h f0 hs
 go_enter Tryz.func32,Tryz.ntmps32
 go_wp2_with fail
 change Code.wp _ _ _ _ (w.alloc (.cells (vwA Vw.zero (.slice none 0 0)) 38))
 rw [← hw0]
 clear hw0
 go_loopw [13] (fun i wr=>∃ k:Nat,k≤n∧i=.int .i64 k∧(∀ (j:Nat) C,j < k→L[j]?=some C→KindOk C.R)∧Fr none_ w0 wr) (fun i _=>n - (intOf i).toNat)
 case atStart=>exact ⟨0,Nat.zero_le _,rfl,fun j C hj=>by omega,Fr.refl _ _⟩
 case round =>
  obtain ⟨k,hk,rfl,hall,hF⟩:=hrel
  have HA:=hid_ hall
  have F:=hid_ hF
  clear hall hF
  have hi0:(0:Int)≤(k:Int):=Int.natCast_nonneg _
  by_cases hlt:k < n
  ·obtain ⟨C,hC⟩:∃ C,L[k]?=some C:=⟨_,List.getElem?_eq_getElem (by omega)⟩
   obtain ⟨b,off,rfl,hb,hR,hO⟩:=(H.out.keep (F0.out.then_none F.out)).at_ hC
   have hi1:(k:Int) < (n:Int):=by omega
   have HR:=hid_ hR
   have HC:=hid_ hC
   clear hR hO hC
   go_upto_region 4 with (first | (refine wpList_load_mid rfl 33 (.tmp 15) rfl b (off+k * 15) rfl (recL C) _ HR.out Tryz.underlying33 rfl rec_size8 ?_) | (refine wpList_store_mid rfl 33 (.tmp 5) (.tmp 16) rfl wr.heap.size 0 (recL C).toArray rfl rfl (new_there wr _ recZ8) rec_size8 (rec_one C) ?_;obtain ⟨w1,hw1⟩:∃ w1,w1=(wr.alloc (.cells recZ8 33)).setCells wr.heap.size 0 (recL C):=⟨_,rfl⟩;change wpList _ _ _ _ _ ((wr.alloc (.cells recZ8 33)).setCells wr.heap.size 0 (recL C));rw [← hw1];have P1:Hid (Blk w1 wr.heap.size 33 (recL C).toArray∧Fr none_ wr w1):=hid_ (by rw [hw1];exact new_copy wr _ recZ8 _ rfl);clear hw1))
   have BO1:=hid_ (BO.out.fr (F.out.then_none P1.out.2) id)
   have F1:=hid_ (F0.out.then_none (F.out.then_none P1.out.2))
   have c0:w1.cell? ⟨wr.heap.size,0,none⟩=some (.int .i64 C.R.kind):=P1.out.1.cell' rfl
   have s0:w1.cell? ⟨w.heap.size,0,none⟩=some (.string nilS):=BO1.out.cell' rfl
   have z0:=BO1.out.frozen 0
   have s1:w1.cell? ⟨w.heap.size,1,none⟩=some (.string nilS):=BO1.out.cell' rfl
   have z1:=BO1.out.frozen 1
   have s2:w1.cell? ⟨w.heap.size,2,none⟩=some (.bool false):=BO1.out.cell' rfl
   have z2:=BO1.out.frozen 2
   have s3:w1.cell? ⟨w.heap.size,3,none⟩=some (.int .i64 0):=BO1.out.cell' rfl
   have z3:=BO1.out.frozen 3
   have s4:w1.cell? ⟨w.heap.size,4,none⟩=some (.slice none 0 0):=BO1.out.cell' rfl
   have z4:=BO1.out.frozen 4
   have s5:w1.cell? ⟨w.heap.size,5,none⟩=some (.bool false):=BO1.out.cell' rfl
   have z5:=BO1.out.frozen 5
   have s6:w1.cell? ⟨w.heap.size,6,none⟩=some (.int .i64 0):=BO1.out.cell' rfl
   have z6:=BO1.out.frozen 6
   have s7:w1.cell? ⟨w.heap.size,7,none⟩=some (.int .i64 0):=BO1.out.cell' rfl
   have z7:=BO1.out.frozen 7
   have s8:w1.cell? ⟨w.heap.size,8,none⟩=some (.string nilS):=BO1.out.cell' rfl
   have z8:=BO1.out.frozen 8
   by_cases h7:C.R.kind < 7
   ·have hno:¬ ∀ R ∈ L.map (·.R),KindOk R:=fun hh=>by
     have:=(hh C.R (List.mem_map.2 ⟨C,List.mem_of_getElem? HC.out,rfl⟩)).1
     omega
    have HNO:=hid_ hno
    clear hno
    go_wp2_with fail
    clear s0 z0 s1 z1 s2 z2 s3 z3 s4 z4 s5 z5 s6 z6 s7 z7 s8 z8
    obtain ⟨qb,qf⟩:=box9 BO1.out (.string nilS) (.string nilS) (.bool false) (.int .i64 0) (.slice none 0 0) (.bool false) (.int .i64 0) (.int .i64 0) (.string nilS)
    have q0:=qb.cell' (i:=0) rfl
    have q1:=qb.cell' (i:=1) rfl
    have q2:=qb.cell' (i:=2) rfl
    have q3:=qb.cell' (i:=3) rfl
    have q4:=qb.cell' (i:=4) rfl
    have q5:=qb.cell' (i:=5) rfl
    have q6:=qb.cell' (i:=6) rfl
    have q7:=qb.cell' (i:=7) rfl
    have q8:=qb.cell' (i:=8) rfl
    refine bodyPost_ret (v:=.tuple #[vwV Vw.zero (.slice none 0 0),errV 9]) ?_ rfl (.inr ⟨9,.inl ⟨rfl,exK HNO.out⟩,rfl,F1.out.then_only qf (.inr (Nat.le_refl _))⟩)
    simp [results,Tryz.results32,go_sem,Vw.zero,q0,q1,q2,q3,q4,q5,q6,q7,q8]
   by_cases h11:11 < C.R.kind
   ·have hno:¬ ∀ R ∈ L.map (·.R),KindOk R:=fun hh=>by
     have:=(hh C.R (List.mem_map.2 ⟨C,List.mem_of_getElem? HC.out,rfl⟩)).2
     omega
    have HNO:=hid_ hno
    clear hno
    go_wp2_with fail
    clear s0 z0 s1 z1 s2 z2 s3 z3 s4 z4 s5 z5 s6 z6 s7 z7 s8 z8
    obtain ⟨qb,qf⟩:=box9 BO1.out (.string nilS) (.string nilS) (.bool false) (.int .i64 0) (.slice none 0 0) (.bool false) (.int .i64 0) (.int .i64 0) (.string nilS)
    have q0:=qb.cell' (i:=0) rfl
    have q1:=qb.cell' (i:=1) rfl
    have q2:=qb.cell' (i:=2) rfl
    have q3:=qb.cell' (i:=3) rfl
    have q4:=qb.cell' (i:=4) rfl
    have q5:=qb.cell' (i:=5) rfl
    have q6:=qb.cell' (i:=6) rfl
    have q7:=qb.cell' (i:=7) rfl
    have q8:=qb.cell' (i:=8) rfl
    refine bodyPost_ret (v:=.tuple #[vwV Vw.zero (.slice none 0 0),errV 9]) ?_ rfl (.inr ⟨9,.inl ⟨rfl,exK HNO.out⟩,rfl,F1.out.then_only qf (.inr (Nat.le_refl _))⟩)
    simp [results,Tryz.results32,go_sem,Vw.zero,q0,q1,q2,q3,q4,q5,q6,q7,q8]
   ·go_wp2_with fail
    go_roundw
    case rel=>exact ⟨k+1,by omega,by go_num,fun j C' hj hC'=>by
     rcases Nat.lt_succ_iff_lt_or_eq.1 hj with hj | rfl
     ·exact HA.out j C' hj hC'
     ·rw [HC.out] at hC';cases hC';exact ⟨by omega,by omega⟩,F.out.then_none P1.out.2⟩
    case measure=>simp [intOf];omega
  ·obtain rfl:k=n:=by omega
   have HK:Hid (∀ R ∈ L.map (·.R),KindOk R):=hid_ (fun R hR=>by
    obtain ⟨C,hC,rfl⟩:=List.mem_map.1 hR
    obtain ⟨j,hj,e⟩:=List.mem_iff_getElem.1 hC
    exact HA.out j C (by omega) (by rw [List.getElem?_eq_getElem hj,e]))
   have F1:=hid_ (F0.out.then_none F.out)
   have BO1:=hid_ (BO.out.fr F.out id)
   have hsz1:=F.out.size
   clear HA hlt hi0 BO F0
   by_cases hk0:k=0
   ·have hno:foldU (L.map (·.R))=none:=by rw [List.eq_nil_of_length_eq_zero (by omega:L.length=0)];rfl
    have HNO:=hid_ hno
    subst hk0
    clear hno
    have s0:wr.cell? ⟨w.heap.size,0,none⟩=some (.string nilS):=BO1.out.cell' rfl
    have z0:=BO1.out.frozen 0
    have s1:wr.cell? ⟨w.heap.size,1,none⟩=some (.string nilS):=BO1.out.cell' rfl
    have z1:=BO1.out.frozen 1
    have s2:wr.cell? ⟨w.heap.size,2,none⟩=some (.bool false):=BO1.out.cell' rfl
    have z2:=BO1.out.frozen 2
    have s3:wr.cell? ⟨w.heap.size,3,none⟩=some (.int .i64 0):=BO1.out.cell' rfl
    have z3:=BO1.out.frozen 3
    have s4:wr.cell? ⟨w.heap.size,4,none⟩=some (.slice none 0 0):=BO1.out.cell' rfl
    have z4:=BO1.out.frozen 4
    have s5:wr.cell? ⟨w.heap.size,5,none⟩=some (.bool false):=BO1.out.cell' rfl
    have z5:=BO1.out.frozen 5
    have s6:wr.cell? ⟨w.heap.size,6,none⟩=some (.int .i64 0):=BO1.out.cell' rfl
    have z6:=BO1.out.frozen 6
    have s7:wr.cell? ⟨w.heap.size,7,none⟩=some (.int .i64 0):=BO1.out.cell' rfl
    have z7:=BO1.out.frozen 7
    have s8:wr.cell? ⟨w.heap.size,8,none⟩=some (.string nilS):=BO1.out.cell' rfl
    have z8:=BO1.out.frozen 8
    go_wp2_with fail
    clear s0 z0 s1 z1 s2 z2 s3 z3 s4 z4 s5 z5 s6 z6 s7 z7 s8 z8
    obtain ⟨qb,qf⟩:=box9 BO1.out (.string nilS) (.string nilS) (.bool false) (.int .i64 0) (.slice none 0 0) (.bool false) (.int .i64 0) (.int .i64 0) (.string nilS)
    have q0:=qb.cell' (i:=0) rfl
    have q1:=qb.cell' (i:=1) rfl
    have q2:=qb.cell' (i:=2) rfl
    have q3:=qb.cell' (i:=3) rfl
    have q4:=qb.cell' (i:=4) rfl
    have q5:=qb.cell' (i:=5) rfl
    have q6:=qb.cell' (i:=6) rfl
    have q7:=qb.cell' (i:=7) rfl
    have q8:=qb.cell' (i:=8) rfl
    refine bodyPost_ret (v:=.tuple #[vwV Vw.zero (.slice none 0 0),errV 10]) ?_ rfl (.inr ⟨10,.inr ⟨rfl,HK.out,HNO.out⟩,rfl,F1.out.then_only qf (.inr (Nat.le_refl _))⟩)
    simp [results,Tryz.results32,go_sem,Vw.zero,q0,q1,q2,q3,q4,q5,q6,q7,q8]
   obtain ⟨m,rfl⟩:∃ m,k=m+1:=⟨k - 1,by omega⟩
   obtain ⟨D,hD⟩:∃ D,L[m]?=some D:=⟨_,List.getElem?_eq_getElem (by omega)⟩
   obtain ⟨b,off,rfl,hb,hR,hO⟩:=(H.out.keep F1.out).at_ hD
   have HD:=hid_ hD
   have HR:=hid_ hR
   have HO:=hid_ hO
   have hDs:D.R.ents.length≤500:=HS.out D (List.mem_of_getElem? hD)
   have hDm:(L.map (·.R))[m]?=some D.R:=by rw [List.getElem?_map,hD];rfl
   have hLD:(L.map (·.R)).drop m=[D.R]:=foldU_last (by rw [List.length_map];omega) hDm
   have HLD:=hid_ hLD
   have hi0:(0:Int)≤(m:Int):=Int.natCast_nonneg _
   have hi1:(m:Int) < ((m+1:Nat):Int):=by omega
   have hi2:(m:Int) < (m:Int)+1:=by omega
   have hw1:IntKind.i64.wrap ((m:Int)+1 - 1)=(m:Int):=by rw [show (m:Int)+1 - 1=(m:Int) by omega];exact IntWalk.i64_in _ (by omega)
   have k0:wr.cell? ⟨b,off+m * 15,none⟩=some (.int .i64 D.R.kind):=HR.out 0 _ rfl
   clear hD hR hO hDm hLD hk0
   by_cases h7:D.R.kind=7
   case neg =>
    have hno:foldU (L.map (·.R))=none:=by
     have:=foldU_none (l:=L.map (·.R)) (j:=m) (by rw [List.length_map];omega) (by rw [HLD.out];exact foldU_one_no _ (fun h=>h7 h.1)) 0 (Nat.zero_le _)
     simpa using this
    have HNO:=hid_ hno
    have h7':(D.R.kind != 7)=true:=by simpa using h7
    clear hno h7
    have s0:wr.cell? ⟨w.heap.size,0,none⟩=some (.string nilS):=BO1.out.cell' rfl
    have z0:=BO1.out.frozen 0
    have s1:wr.cell? ⟨w.heap.size,1,none⟩=some (.string nilS):=BO1.out.cell' rfl
    have z1:=BO1.out.frozen 1
    have s2:wr.cell? ⟨w.heap.size,2,none⟩=some (.bool false):=BO1.out.cell' rfl
    have z2:=BO1.out.frozen 2
    have s3:wr.cell? ⟨w.heap.size,3,none⟩=some (.int .i64 0):=BO1.out.cell' rfl
    have z3:=BO1.out.frozen 3
    have s4:wr.cell? ⟨w.heap.size,4,none⟩=some (.slice none 0 0):=BO1.out.cell' rfl
    have z4:=BO1.out.frozen 4
    have s5:wr.cell? ⟨w.heap.size,5,none⟩=some (.bool false):=BO1.out.cell' rfl
    have z5:=BO1.out.frozen 5
    have s6:wr.cell? ⟨w.heap.size,6,none⟩=some (.int .i64 0):=BO1.out.cell' rfl
    have z6:=BO1.out.frozen 6
    have s7:wr.cell? ⟨w.heap.size,7,none⟩=some (.int .i64 0):=BO1.out.cell' rfl
    have z7:=BO1.out.frozen 7
    have s8:wr.cell? ⟨w.heap.size,8,none⟩=some (.string nilS):=BO1.out.cell' rfl
    have z8:=BO1.out.frozen 8
    go_wp2_with fail
    clear s0 z0 s1 z1 s2 z2 s3 z3 s4 z4 s5 z5 s6 z6 s7 z7 s8 z8
    obtain ⟨qb,qf⟩:=box9 BO1.out (.string nilS) (.string nilS) (.bool false) (.int .i64 0) (.slice none 0 0) (.bool false) (.int .i64 0) (.int .i64 0) (.string nilS)
    have q0:=qb.cell' (i:=0) rfl
    have q1:=qb.cell' (i:=1) rfl
    have q2:=qb.cell' (i:=2) rfl
    have q3:=qb.cell' (i:=3) rfl
    have q4:=qb.cell' (i:=4) rfl
    have q5:=qb.cell' (i:=5) rfl
    have q6:=qb.cell' (i:=6) rfl
    have q7:=qb.cell' (i:=7) rfl
    have q8:=qb.cell' (i:=8) rfl
    refine bodyPost_ret (v:=.tuple #[vwV Vw.zero (.slice none 0 0),errV 10]) ?_ rfl (.inr ⟨10,.inr ⟨rfl,HK.out,HNO.out⟩,rfl,F1.out.then_only qf (.inr (Nat.le_refl _))⟩)
    simp [results,Tryz.results32,go_sem,Vw.zero,q0,q1,q2,q3,q4,q5,q6,q7,q8]
   have h7':(D.R.kind != 7)=false:=by simpa using h7
   have H7:=hid_ h7
   clear h7
   go_upto_region 11 with (first | (refine wpList_load_mid rfl 33 (.tmp 45) rfl b (off+m * 15) rfl (recL D) _ HR.out Tryz.underlying33 rfl rec_size8 ?_) | (refine wpList_store_mid rfl 33 (.tmp 7) (.tmp 46) rfl wr.heap.size 0 (recL D).toArray rfl rfl (new_there wr _ recZ8) rec_size8 (rec_one D) ?_;obtain ⟨w1,hw1⟩:∃ w1,w1=(wr.alloc (.cells recZ8 33)).setCells wr.heap.size 0 (recL D):=⟨_,rfl⟩;change wpList _ _ _ _ _ ((wr.alloc (.cells recZ8 33)).setCells wr.heap.size 0 (recL D));rw [← hw1];have P1:Hid (Blk w1 wr.heap.size 33 (recL D).toArray∧Fr none_ wr w1):=hid_ (by rw [hw1];exact new_copy wr _ recZ8 _ rfl);clear hw1))
   go_frame
   have BO2:=hid_ (BO1.out.fr P1.out.2 id)
   have F2:=hid_ (F1.out.then_none P1.out.2)
   have HO2:=hid_ (HO.out.keep P1.out.2)
   have hsz2:=P1.out.2.size
   go_cut [8] (fun v wq=>∃ X A' c',v=.pointer (some ⟨X,0,none⟩)∧w.heap.size < X∧Blk wq X 38 (vwA (baseV D.R) (.slice A' D.R.ents.length c'))∧VwO w.heap.size wq (baseV D.R) A' c'∧Fr none_ w1 wq)
   case first =>
    have g1:w1.cell? ⟨wr.heap.size,1,none⟩=some (.string D.R.low):=P1.out.1.cell' rfl
    have g2:w1.cell? ⟨wr.heap.size,2,none⟩=some (.string D.R.high):=P1.out.1.cell' rfl
    have g3:w1.cell? ⟨wr.heap.size,3,none⟩=some (.bool D.R.unb):=P1.out.1.cell' rfl
    have g4:w1.cell? ⟨wr.heap.size,4,none⟩=some (.int .i64 D.R.right):=P1.out.1.cell' rfl
    have g6:w1.cell? ⟨wr.heap.size,6,none⟩=some (.slice D.B D.R.ents.length D.d):=P1.out.1.cell' rfl
    have hS0:(fun w':World=>Fr none_ w1 w') w1.drew:=(Fr.refl none_ w1).drew
    refine wp_region_T (m:=14) (S:=fun w':World=>Fr none_ w1 w') (by kernel_rfl) ?_
    refine wpAnyT_take2 (i:=0) (v:=_) rfl (by kernel_rfl) (by kernel_rfl) (by kernel_rfl) (by kernel_rfl) (fun _ _ _ h=>h) (.inl ⟨by simp [Region.wanted],fun w' hS=>by have s_g1:=cellFr g1 hS;have s_g2:=cellFr g2 hS;have s_g3:=cellFr g3 hS;have s_g4:=cellFr g4 hS;have s_g6:=cellFr g6 hS;go_simp;rfl⟩) hS0 ?_
    refine wpAnyT_take2 (i:=1) (v:=_) rfl (by kernel_rfl) (by kernel_rfl) (by kernel_rfl) (by kernel_rfl) (fun _ _ _ h=>h) (.inl ⟨by simp [Region.wanted],fun w' hS=>by have s_g1:=cellFr g1 hS;have s_g2:=cellFr g2 hS;have s_g3:=cellFr g3 hS;have s_g4:=cellFr g4 hS;have s_g6:=cellFr g6 hS;go_simp;rfl⟩) hS0 ?_
    refine wpAnyT_take2 (i:=2) (v:=_) rfl (by kernel_rfl) (by kernel_rfl) (by kernel_rfl) (by kernel_rfl) (fun _ _ _ h=>h) (.inl ⟨by simp [Region.wanted],fun w' hS=>by have s_g1:=cellFr g1 hS;have s_g2:=cellFr g2 hS;have s_g3:=cellFr g3 hS;have s_g4:=cellFr g4 hS;have s_g6:=cellFr g6 hS;go_simp;rfl⟩) hS0 ?_
    refine wpAnyT_take2 (i:=3) (v:=_) rfl (by kernel_rfl) (by kernel_rfl) (by kernel_rfl) (by kernel_rfl) (fun _ _ _ h=>h) (.inl ⟨by simp [Region.wanted],fun w' hS=>by have s_g1:=cellFr g1 hS;have s_g2:=cellFr g2 hS;have s_g3:=cellFr g3 hS;have s_g4:=cellFr g4 hS;have s_g6:=cellFr g6 hS;go_simp;rfl⟩) hS0 ?_
    refine wpAnyT_take2 (i:=4) (v:=_) rfl (by kernel_rfl) (by kernel_rfl) (by kernel_rfl) (by kernel_rfl) (fun _ _ _ h=>h) (.inl ⟨by simp [Region.wanted],fun w' hS=>by have s_g1:=cellFr g1 hS;have s_g2:=cellFr g2 hS;have s_g3:=cellFr g3 hS;have s_g4:=cellFr g4 hS;have s_g6:=cellFr g6 hS;go_simp;rfl⟩) hS0 ?_
    refine wpAnyT_take2 (i:=5) (v:=_) rfl (by kernel_rfl) (by kernel_rfl) (by kernel_rfl) (by kernel_rfl) (fun _ _ _ h=>h) (.inl ⟨by simp [Region.wanted],fun w' hS=>by have s_g1:=cellFr g1 hS;have s_g2:=cellFr g2 hS;have s_g3:=cellFr g3 hS;have s_g4:=cellFr g4 hS;have s_g6:=cellFr g6 hS;go_simp;rfl⟩) hS0 ?_
    refine wpAnyT_take2 (i:=6) (v:=_) rfl (by kernel_rfl) (by kernel_rfl) (by kernel_rfl) (by kernel_rfl) (fun _ _ _ h=>h) (.inl ⟨by simp [Region.wanted],fun w' hS=>by have s_g1:=cellFr g1 hS;have s_g2:=cellFr g2 hS;have s_g3:=cellFr g3 hS;have s_g4:=cellFr g4 hS;have s_g6:=cellFr g6 hS;go_simp;rfl⟩) hS0 ?_
    refine wpAnyT_take2 (i:=7) (v:=_) rfl (by kernel_rfl) (by kernel_rfl) (by kernel_rfl) (by kernel_rfl) (fun _ _ _ h=>h) (.inl ⟨by simp [Region.wanted],fun w' hS=>by have s_g1:=cellFr g1 hS;have s_g2:=cellFr g2 hS;have s_g3:=cellFr g3 hS;have s_g4:=cellFr g4 hS;have s_g6:=cellFr g6 hS;go_simp;rfl⟩) hS0 ?_
    refine wpAnyT_take2 (i:=8) (v:=_) rfl (by kernel_rfl) (by kernel_rfl) (by kernel_rfl) (by kernel_rfl) (fun _ _ _ h=>h) (.inl ⟨by simp [Region.wanted],fun w' hS=>by have s_g1:=cellFr g1 hS;have s_g2:=cellFr g2 hS;have s_g3:=cellFr g3 hS;have s_g4:=cellFr g4 hS;have s_g6:=cellFr g6 hS;go_simp;rfl⟩) hS0 ?_
    refine wpAnyT_take2 (i:=9) (v:=_) rfl (by kernel_rfl) (by kernel_rfl) (by kernel_rfl) (by kernel_rfl) (fun _ _ _ h=>h) (.inl ⟨by simp [Region.wanted],fun w' hS=>by have s_g1:=cellFr g1 hS;have s_g2:=cellFr g2 hS;have s_g3:=cellFr g3 hS;have s_g4:=cellFr g4 hS;have s_g6:=cellFr g6 hS;go_simp;rfl⟩) hS0 ?_
    refine wpAnyT_two (i:=10) (j:=13) rfl rfl rfl rfl (by kernel_rfl) ?_ ?_
    ·go_simp
     refine ⟨(by repeat (first | exact Fr.refl none_ w1 | apply Fr.drew | apply Fr.alloc)),?_⟩
     refine wpAnyT_two (i:=11) (j:=13) rfl rfl rfl rfl (by kernel_rfl) ?_ ?_
     ·skip
      go_simp
      obtain ⟨w3,hw3⟩:∃ w3,w3=(w1.alloc (.cells #[.slice D.B D.R.ents.length D.d] 29)).drew:=⟨_,rfl⟩
      have f3:Fr none_ w1 w3:=by rw [hw3];exact (by repeat (first | exact Fr.refl none_ w1 | apply Fr.drew | apply Fr.alloc))
      have B3:Hid (Blk w3 (w1.heap.size) 29 #[.slice D.B D.R.ents.length D.d]):=hid_ (by rw [hw3];exact (Blk.new w1 _ _).drew)
      have hws:=f3.size
      have RD:=hid_ (HO2.out.rd.e.none_fr f3)
      have F3:=hid_ f3
      rw [← hw3]
      clear hw3 f3
      refine (joined_ok (w1.heap.size) [(D.B,D.d,D.R.ents)] w3 ?_ ?_ ?_ ?_).mono ?_
      ·intro i x hx
       match i,hx with
       | 0,hx=>cases hx;rw [B3.out.cell];rfl
       | k+1,hx=>simp at hx
      ·intro x hx
       obtain rfl:x=(D.B,D.d,D.R.ents):=by simpa using hx
       exact RD.out
      ·simp [ptL];omega
      ·simp
      rintro e w4 ⟨A',c',rfl,ho,hf4⟩
      rw [show ptL [(D.B,D.d,D.R.ents)]=D.R.ents by simp [ptL]] at ho ⊢
      have O4:=hid_ ho
      have F4:=hid_ (F3.out.then_none hf4)
      have hs4:=hf4.size
      clear ho hf4 B3 RD
      refine ⟨F4.out,?_⟩
      refine wpAnyT_take2 (i:=12) (v:=_) rfl (by kernel_rfl) (by kernel_rfl) (by kernel_rfl) (by kernel_rfl) (fun _ _ _ h=>h) (.inl ⟨by simp [Region.wanted],fun w' hS=>by skip;go_simp;rfl⟩) F4.out ?_
      refine wpAnyT_one (i:=13) rfl rfl (by kernel_rfl) ?_
      go_simp
      obtain ⟨w5,hw5⟩:∃ w5,w5=w4.alloc (.cells #[.string ⟨#[]⟩,.string ⟨#[]⟩,.bool false,.int .i64 0,.slice none 0 0,.bool false,.int .i64 0,.int .i64 0,.string ⟨#[]⟩] 38):=⟨_,rfl⟩
      have X5:Hid (Blk w5 w4.heap.size 38 (vwA Vw.zero (.slice none 0 0))):=hid_ (by rw [hw5];exact Blk.new w4 _ _)
      have F5:Hid (Fr none_ w1 w5):=hid_ (by rw [hw5];exact F4.out.alloc _)
      have O5:=hid_ (own_none O4.out (by rw [hw5];exact (Fr.refl none_ w4).alloc (.cells #[.string ⟨#[]⟩,.string ⟨#[]⟩,.bool false,.int .i64 0,.slice none 0 0,.bool false,.int .i64 0,.int .i64 0,.string ⟨#[]⟩] 38):Fr none_ w4 w5))
      rw [← hw5]
      clear hw5
      refine ⟨F5.out,?_⟩
      have s0:w5.cell? ⟨w4.heap.size,0,none⟩=some (.string nilS):=X5.out.cell' rfl
      have z0:=X5.out.frozen 0
      have s1:w5.cell? ⟨w4.heap.size,1,none⟩=some (.string nilS):=X5.out.cell' rfl
      have z1:=X5.out.frozen 1
      have s2:w5.cell? ⟨w4.heap.size,2,none⟩=some (.bool false):=X5.out.cell' rfl
      have z2:=X5.out.frozen 2
      have s3:w5.cell? ⟨w4.heap.size,3,none⟩=some (.int .i64 0):=X5.out.cell' rfl
      have z3:=X5.out.frozen 3
      have s4:w5.cell? ⟨w4.heap.size,4,none⟩=some (.slice none 0 0):=X5.out.cell' rfl
      have z4:=X5.out.frozen 4
      have s5:w5.cell? ⟨w4.heap.size,5,none⟩=some (.bool false):=X5.out.cell' rfl
      have z5:=X5.out.frozen 5
      have s6:w5.cell? ⟨w4.heap.size,6,none⟩=some (.int .i64 0):=X5.out.cell' rfl
      have z6:=X5.out.frozen 6
      have s7:w5.cell? ⟨w4.heap.size,7,none⟩=some (.int .i64 0):=X5.out.cell' rfl
      have z7:=X5.out.frozen 7
      have s8:w5.cell? ⟨w4.heap.size,8,none⟩=some (.string nilS):=X5.out.cell' rfl
      have z8:=X5.out.frozen 8
      refine wpAnyT_one (i:=14) rfl rfl (by kernel_rfl) ?_
      go_simp
      refine wpAnyT_done (by kernel_rfl) ?_ _
      clear s0 z0 s1 z1 s2 z2 s3 z3 s4 z4 s5 z5 s6 z6 s7 z7 s8 z8
      obtain ⟨qb,qf⟩:=box9 X5.out (.string D.R.low) (.string D.R.high) (.bool D.R.unb) (.int .i64 D.R.right) (.slice A' D.R.ents.length c') (.bool false) (.int .i64 0) (.int .i64 0) (.string nilS)
      have hvin:=vwO_of (b0:=w.heap.size) (V:=baseV D.R) (own_fr O5.out qf (fun k hk e=>own_blk_ne O5.out X5.out (by decide) (by rw [hk,show k=w4.heap.size from e]))) rfl ⟨HO.out.low,HO.out.high,SzOk.nil,HO.out.ents⟩ (by omega)
      have hfr:=F5.out.then_only qf (.inr (by omega))
      have HREL:=hid_ (And.intro hvin (And.intro qb hfr))
      clear hvin qb qf hfr
      go_wp2
      go_meet
      case rel=>exact ⟨_,A',c',rfl,by omega,HREL.out.2.1,HREL.out.1,HREL.out.2.2⟩
     ·go_simp
      refine ⟨(by repeat (first | exact Fr.refl none_ w1 | apply Fr.drew | apply Fr.alloc)),?_⟩
      refine wpAnyT_one (i:=11) rfl rfl (by kernel_rfl) ?_
      go_simp
      obtain ⟨w3,hw3⟩:∃ w3,w3=((w1.alloc (.cells #[.slice D.B D.R.ents.length D.d] 29)).alloc (.cells #[.string ⟨#[]⟩,.string ⟨#[]⟩,.bool false,.int .i64 0,.slice none 0 0,.bool false,.int .i64 0,.int .i64 0,.string ⟨#[]⟩] 38)).drew:=⟨_,rfl⟩
      have f3:Fr none_ w1 w3:=by rw [hw3];exact (by repeat (first | exact Fr.refl none_ w1 | apply Fr.drew | apply Fr.alloc))
      have B3:Hid (Blk w3 (w1.heap.size) 29 #[.slice D.B D.R.ents.length D.d]):=hid_ (by rw [hw3];exact ((Blk.new w1 _ _).alloc _).drew)
      have X3:Hid (Blk w3 (w1.heap.size+1) 38 (vwA Vw.zero (.slice none 0 0))):=hid_ (by rw [hw3];exact (by have:=Blk.new (w1.alloc (.cells #[.slice D.B D.R.ents.length D.d] 29)) 38 (vwA Vw.zero (.slice none 0 0));rw [World.size_alloc] at this;exact this.drew))
      have hws:=f3.size
      have RD:=hid_ (HO2.out.rd.e.none_fr f3)
      have F3:=hid_ f3
      rw [← hw3]
      clear hw3 f3
      refine (joined_ok (w1.heap.size) [(D.B,D.d,D.R.ents)] w3 ?_ ?_ ?_ ?_).mono ?_
      ·intro i x hx
       match i,hx with
       | 0,hx=>cases hx;rw [B3.out.cell];rfl
       | k+1,hx=>simp at hx
      ·intro x hx
       obtain rfl:x=(D.B,D.d,D.R.ents):=by simpa using hx
       exact RD.out
      ·simp [ptL];omega
      ·simp
      rintro e w4 ⟨A',c',rfl,ho,hf4⟩
      rw [show ptL [(D.B,D.d,D.R.ents)]=D.R.ents by simp [ptL]] at ho ⊢
      have O4:=hid_ ho
      have F4:=hid_ (F3.out.then_none hf4)
      have X4:=hid_ (X3.out.fr hf4 id)
      have hs4:=hf4.size
      clear ho hf4 B3 RD
      refine ⟨F4.out,?_⟩
      refine wpAnyT_take2 (i:=12) (v:=_) rfl (by kernel_rfl) (by kernel_rfl) (by kernel_rfl) (by kernel_rfl) (fun _ _ _ h=>h) (.inl ⟨by simp [Region.wanted],fun w' hS=>by skip;go_simp;rfl⟩) F4.out ?_
      have s0:w4.cell? ⟨w1.heap.size+1,0,none⟩=some (.string nilS):=X4.out.cell' rfl
      have z0:=X4.out.frozen 0
      have s1:w4.cell? ⟨w1.heap.size+1,1,none⟩=some (.string nilS):=X4.out.cell' rfl
      have z1:=X4.out.frozen 1
      have s2:w4.cell? ⟨w1.heap.size+1,2,none⟩=some (.bool false):=X4.out.cell' rfl
      have z2:=X4.out.frozen 2
      have s3:w4.cell? ⟨w1.heap.size+1,3,none⟩=some (.int .i64 0):=X4.out.cell' rfl
      have z3:=X4.out.frozen 3
      have s4:w4.cell? ⟨w1.heap.size+1,4,none⟩=some (.slice none 0 0):=X4.out.cell' rfl
      have z4:=X4.out.frozen 4
      have s5:w4.cell? ⟨w1.heap.size+1,5,none⟩=some (.bool false):=X4.out.cell' rfl
      have z5:=X4.out.frozen 5
      have s6:w4.cell? ⟨w1.heap.size+1,6,none⟩=some (.int .i64 0):=X4.out.cell' rfl
      have z6:=X4.out.frozen 6
      have s7:w4.cell? ⟨w1.heap.size+1,7,none⟩=some (.int .i64 0):=X4.out.cell' rfl
      have z7:=X4.out.frozen 7
      have s8:w4.cell? ⟨w1.heap.size+1,8,none⟩=some (.string nilS):=X4.out.cell' rfl
      have z8:=X4.out.frozen 8
      refine wpAnyT_one (i:=14) rfl rfl (by kernel_rfl) ?_
      go_simp
      refine wpAnyT_done (by kernel_rfl) ?_ _
      clear s0 z0 s1 z1 s2 z2 s3 z3 s4 z4 s5 z5 s6 z6 s7 z7 s8 z8
      obtain ⟨qb,qf⟩:=box9 X4.out (.string D.R.low) (.string D.R.high) (.bool D.R.unb) (.int .i64 D.R.right) (.slice A' D.R.ents.length c') (.bool false) (.int .i64 0) (.int .i64 0) (.string nilS)
      have hvin:=vwO_of (b0:=w.heap.size) (V:=baseV D.R) (own_fr O4.out qf (fun k hk e=>own_blk_ne O4.out X4.out (by decide) (by rw [hk,show k=w1.heap.size+1 from e]))) rfl ⟨HO.out.low,HO.out.high,SzOk.nil,HO.out.ents⟩ (by omega)
      have hfr:=F4.out.then_only qf (.inr (by omega))
      have HREL:=hid_ (And.intro hvin (And.intro qb hfr))
      clear hvin qb qf hfr
      go_wp2
      go_meet
      case rel=>exact ⟨_,A',c',rfl,by omega,HREL.out.2.1,HREL.out.1,HREL.out.2.2⟩
    ·go_simp
     refine ⟨(by repeat (first | exact Fr.refl none_ w1 | apply Fr.drew | apply Fr.alloc)),?_⟩
     refine wpAnyT_one (i:=10) rfl rfl (by kernel_rfl) ?_
     go_simp
     refine ⟨(by repeat (first | exact Fr.refl none_ w1 | apply Fr.drew | apply Fr.alloc)),?_⟩
     refine wpAnyT_one (i:=11) rfl rfl (by kernel_rfl) ?_
     go_simp
     obtain ⟨w3,hw3⟩:∃ w3,w3=((w1.alloc (.cells #[.string ⟨#[]⟩,.string ⟨#[]⟩,.bool false,.int .i64 0,.slice none 0 0,.bool false,.int .i64 0,.int .i64 0,.string ⟨#[]⟩] 38)).alloc (.cells #[.slice D.B D.R.ents.length D.d] 29)).drew:=⟨_,rfl⟩
     have f3:Fr none_ w1 w3:=by rw [hw3];exact (by repeat (first | exact Fr.refl none_ w1 | apply Fr.drew | apply Fr.alloc))
     have B3:Hid (Blk w3 (w1.heap.size+1) 29 #[.slice D.B D.R.ents.length D.d]):=hid_ (by rw [hw3];exact (by have:=Blk.new (w1.alloc (.cells #[.string ⟨#[]⟩,.string ⟨#[]⟩,.bool false,.int .i64 0,.slice none 0 0,.bool false,.int .i64 0,.int .i64 0,.string ⟨#[]⟩] 38)) 29 #[.slice D.B D.R.ents.length D.d];rw [World.size_alloc] at this;exact this.drew))
     have X3:Hid (Blk w3 (w1.heap.size) 38 (vwA Vw.zero (.slice none 0 0))):=hid_ (by rw [hw3];exact ((Blk.new w1 _ _).alloc _).drew)
     have hws:=f3.size
     have RD:=hid_ (HO2.out.rd.e.none_fr f3)
     have F3:=hid_ f3
     rw [← hw3]
     clear hw3 f3
     refine (joined_ok (w1.heap.size+1) [(D.B,D.d,D.R.ents)] w3 ?_ ?_ ?_ ?_).mono ?_
     ·intro i x hx
      match i,hx with
      | 0,hx=>cases hx;rw [B3.out.cell];rfl
      | k+1,hx=>simp at hx
     ·intro x hx
      obtain rfl:x=(D.B,D.d,D.R.ents):=by simpa using hx
      exact RD.out
     ·simp [ptL];omega
     ·simp
     rintro e w4 ⟨A',c',rfl,ho,hf4⟩
     rw [show ptL [(D.B,D.d,D.R.ents)]=D.R.ents by simp [ptL]] at ho ⊢
     have O4:=hid_ ho
     have F4:=hid_ (F3.out.then_none hf4)
     have X4:=hid_ (X3.out.fr hf4 id)
     have hs4:=hf4.size
     clear ho hf4 B3 RD
     refine ⟨F4.out,?_⟩
     refine wpAnyT_take2 (i:=12) (v:=_) rfl (by kernel_rfl) (by kernel_rfl) (by kernel_rfl) (by kernel_rfl) (fun _ _ _ h=>h) (.inl ⟨by simp [Region.wanted],fun w' hS=>by skip;go_simp;rfl⟩) F4.out ?_
     have s0:w4.cell? ⟨w1.heap.size,0,none⟩=some (.string nilS):=X4.out.cell' rfl
     have z0:=X4.out.frozen 0
     have s1:w4.cell? ⟨w1.heap.size,1,none⟩=some (.string nilS):=X4.out.cell' rfl
     have z1:=X4.out.frozen 1
     have s2:w4.cell? ⟨w1.heap.size,2,none⟩=some (.bool false):=X4.out.cell' rfl
     have z2:=X4.out.frozen 2
     have s3:w4.cell? ⟨w1.heap.size,3,none⟩=some (.int .i64 0):=X4.out.cell' rfl
     have z3:=X4.out.frozen 3
     have s4:w4.cell? ⟨w1.heap.size,4,none⟩=some (.slice none 0 0):=X4.out.cell' rfl
     have z4:=X4.out.frozen 4
     have s5:w4.cell? ⟨w1.heap.size,5,none⟩=some (.bool false):=X4.out.cell' rfl
     have z5:=X4.out.frozen 5
     have s6:w4.cell? ⟨w1.heap.size,6,none⟩=some (.int .i64 0):=X4.out.cell' rfl
     have z6:=X4.out.frozen 6
     have s7:w4.cell? ⟨w1.heap.size,7,none⟩=some (.int .i64 0):=X4.out.cell' rfl
     have z7:=X4.out.frozen 7
     have s8:w4.cell? ⟨w1.heap.size,8,none⟩=some (.string nilS):=X4.out.cell' rfl
     have z8:=X4.out.frozen 8
     refine wpAnyT_one (i:=14) rfl rfl (by kernel_rfl) ?_
     go_simp
     refine wpAnyT_done (by kernel_rfl) ?_ _
     clear s0 z0 s1 z1 s2 z2 s3 z3 s4 z4 s5 z5 s6 z6 s7 z7 s8 z8
     obtain ⟨qb,qf⟩:=box9 X4.out (.string D.R.low) (.string D.R.high) (.bool D.R.unb) (.int .i64 D.R.right) (.slice A' D.R.ents.length c') (.bool false) (.int .i64 0) (.int .i64 0) (.string nilS)
     have hvin:=vwO_of (b0:=w.heap.size) (V:=baseV D.R) (own_fr O4.out qf (fun k hk e=>own_blk_ne O4.out X4.out (by decide) (by rw [hk,show k=w1.heap.size from e]))) rfl ⟨HO.out.low,HO.out.high,SzOk.nil,HO.out.ents⟩ (by omega)
     have hfr:=F4.out.then_only qf (.inr (by omega))
     have HREL:=hid_ (And.intro hvin (And.intro qb hfr))
     clear hvin qb qf hfr
     go_wp2
     go_meet
     case rel=>exact ⟨_,A',c',rfl,by omega,HREL.out.2.1,HREL.out.1,HREL.out.2.2⟩
   case rest =>
   obtain ⟨X,A',c',rfl,hX,hb8,hvin,hf8⟩:=hcut
   have BX:=hid_ hb8
   have VI:=hid_ hvin
   have F8:=hid_ (F2.out.then_none hf8)
   have BO8:=hid_ (BO2.out.fr hf8 id)
   clear hb8 hvin hf8 BO2 HO2 BO1 F1 F2
   have v0:wc.cell? ⟨X,0,none⟩=some (.string (baseV D.R).low):=BX.out.cell' rfl
   have v1:wc.cell? ⟨X,1,none⟩=some (.string (baseV D.R).high):=BX.out.cell' rfl
   have v2:wc.cell? ⟨X,2,none⟩=some (.bool (baseV D.R).unb):=BX.out.cell' rfl
   have v3:wc.cell? ⟨X,3,none⟩=some (.int .i64 (baseV D.R).right):=BX.out.cell' rfl
   have v4:wc.cell? ⟨X,4,none⟩=some (.slice A' D.R.ents.length c'):=BX.out.cell' rfl
   have v5:wc.cell? ⟨X,5,none⟩=some (.bool (baseV D.R).held):=BX.out.cell' rfl
   have v6:wc.cell? ⟨X,6,none⟩=some (.int .i64 (baseV D.R).hp):=BX.out.cell' rfl
   have v7:wc.cell? ⟨X,7,none⟩=some (.int .i64 (baseV D.R).hl):=BX.out.cell' rfl
   have v8:wc.cell? ⟨X,8,none⟩=some (.string (baseV D.R).hk):=BX.out.cell' rfl
   go_wp2_with fail
   refine (sound_ok (baseV D.R) A' c' _ VI.out.vin).mono ?_
   rintro e w2 ⟨bb,rfl,hbb,hf2⟩
   have HB:=hid_ hbb
   have BX2:=hid_ (BX.out.fr hf2 id)
   have VI2:=hid_ (VI.out.keep hf2)
   have F9:=hid_ (F8.out.then_none hf2)
   have BO9:=hid_ (BO8.out.fr hf2 id)
   clear hbb hf2 BX VI F8 BO8 v0 v1 v2 v3 v4 v5 v6 v7 v8
   cases bb with
   | false =>
    have hno:foldU (L.map (·.R))=none:=by
     have:=foldU_none (l:=L.map (·.R)) (j:=m) (by rw [List.length_map];omega) (by rw [HLD.out];exact foldU_one_no _ (fun h=>by have:=HB.out.2 h.2;cases this)) 0 (Nat.zero_le _)
     simpa using this
    have HNO:=hid_ hno
    clear hno
    have s0:w2.cell? ⟨w.heap.size,0,none⟩=some (.string nilS):=BO9.out.cell' rfl
    have z0:=BO9.out.frozen 0
    have s1:w2.cell? ⟨w.heap.size,1,none⟩=some (.string nilS):=BO9.out.cell' rfl
    have z1:=BO9.out.frozen 1
    have s2:w2.cell? ⟨w.heap.size,2,none⟩=some (.bool false):=BO9.out.cell' rfl
    have z2:=BO9.out.frozen 2
    have s3:w2.cell? ⟨w.heap.size,3,none⟩=some (.int .i64 0):=BO9.out.cell' rfl
    have z3:=BO9.out.frozen 3
    have s4:w2.cell? ⟨w.heap.size,4,none⟩=some (.slice none 0 0):=BO9.out.cell' rfl
    have z4:=BO9.out.frozen 4
    have s5:w2.cell? ⟨w.heap.size,5,none⟩=some (.bool false):=BO9.out.cell' rfl
    have z5:=BO9.out.frozen 5
    have s6:w2.cell? ⟨w.heap.size,6,none⟩=some (.int .i64 0):=BO9.out.cell' rfl
    have z6:=BO9.out.frozen 6
    have s7:w2.cell? ⟨w.heap.size,7,none⟩=some (.int .i64 0):=BO9.out.cell' rfl
    have z7:=BO9.out.frozen 7
    have s8:w2.cell? ⟨w.heap.size,8,none⟩=some (.string nilS):=BO9.out.cell' rfl
    have z8:=BO9.out.frozen 8
    go_wp2_with fail
    clear s0 z0 s1 z1 s2 z2 s3 z3 s4 z4 s5 z5 s6 z6 s7 z7 s8 z8
    obtain ⟨qb,qf⟩:=box9 BO9.out (.string nilS) (.string nilS) (.bool false) (.int .i64 0) (.slice none 0 0) (.bool false) (.int .i64 0) (.int .i64 0) (.string nilS)
    have q0:=qb.cell' (i:=0) rfl
    have q1:=qb.cell' (i:=1) rfl
    have q2:=qb.cell' (i:=2) rfl
    have q3:=qb.cell' (i:=3) rfl
    have q4:=qb.cell' (i:=4) rfl
    have q5:=qb.cell' (i:=5) rfl
    have q6:=qb.cell' (i:=6) rfl
    have q7:=qb.cell' (i:=7) rfl
    have q8:=qb.cell' (i:=8) rfl
    refine bodyPost_ret (v:=.tuple #[vwV Vw.zero (.slice none 0 0),errV 10]) ?_ rfl (.inr ⟨10,.inr ⟨rfl,HK.out,HNO.out⟩,rfl,F9.out.then_only qf (.inr (Nat.le_refl _))⟩)
    simp [results,Tryz.results32,go_sem,Vw.zero,q0,q1,q2,q3,q4,q5,q6,q7,q8]
   | true =>
    have hst:FoldStO w L X m (baseV D.R) A' c' w2:=⟨by rw [List.map_drop,HLD.out];exact foldU_one D.R H7.out (HB.out.1 rfl),BX2.out,BO9.out,VI2.out,base_held _,by show D.R.ents.length+m≤_;omega,F9.out⟩
    have ST:=hid_ hst
    clear hst
    go_wp2_with fail
    go_loopw [9] (fun i wr=>∃ (k:Nat) (V:Vw) (A:Option Addr) (c:Nat),k≤m∧i=.int .i64 ((k:Int) - 1)∧FoldStO w L X k V A c wr) (fun i _=>(intOf i+1).toNat)
    case atStart=>exact ⟨m,_,_,_,Nat.le_refl _,rfl,ST.out⟩
    case round =>
     obtain ⟨k,V,A2,c2,hk,rfl,hst⟩:=hrel
     have S2:=hid_ hst
     clear hst
     by_cases hk0:k=0
     ·have hfo:foldU (L.map (·.R))=some V:=by have:=S2.out.fo;rw [hk0] at this;exact this
      have HFO:=hid_ hfo
      subst hk0
      clear hfo
      have v0:wr.cell? ⟨X,0,none⟩=some (.string V.low):=S2.out.bx.cell' rfl
      have v1:wr.cell? ⟨X,1,none⟩=some (.string V.high):=S2.out.bx.cell' rfl
      have v2:wr.cell? ⟨X,2,none⟩=some (.bool V.unb):=S2.out.bx.cell' rfl
      have v3:wr.cell? ⟨X,3,none⟩=some (.int .i64 V.right):=S2.out.bx.cell' rfl
      have v4:wr.cell? ⟨X,4,none⟩=some (.slice A2 V.ents.length c2):=S2.out.bx.cell' rfl
      have v5:wr.cell? ⟨X,5,none⟩=some (.bool V.held):=S2.out.bx.cell' rfl
      have v6:wr.cell? ⟨X,6,none⟩=some (.int .i64 V.hp):=S2.out.bx.cell' rfl
      have v7:wr.cell? ⟨X,7,none⟩=some (.int .i64 V.hl):=S2.out.bx.cell' rfl
      have v8:wr.cell? ⟨X,8,none⟩=some (.string V.hk):=S2.out.bx.cell' rfl
      have s0:wr.cell? ⟨w.heap.size,0,none⟩=some (.string nilS):=S2.out.bo.cell' rfl
      have z0:=S2.out.bo.frozen 0
      have s1:wr.cell? ⟨w.heap.size,1,none⟩=some (.string nilS):=S2.out.bo.cell' rfl
      have z1:=S2.out.bo.frozen 1
      have s2:wr.cell? ⟨w.heap.size,2,none⟩=some (.bool false):=S2.out.bo.cell' rfl
      have z2:=S2.out.bo.frozen 2
      have s3:wr.cell? ⟨w.heap.size,3,none⟩=some (.int .i64 0):=S2.out.bo.cell' rfl
      have z3:=S2.out.bo.frozen 3
      have s4:wr.cell? ⟨w.heap.size,4,none⟩=some (.slice none 0 0):=S2.out.bo.cell' rfl
      have z4:=S2.out.bo.frozen 4
      have s5:wr.cell? ⟨w.heap.size,5,none⟩=some (.bool false):=S2.out.bo.cell' rfl
      have z5:=S2.out.bo.frozen 5
      have s6:wr.cell? ⟨w.heap.size,6,none⟩=some (.int .i64 0):=S2.out.bo.cell' rfl
      have z6:=S2.out.bo.frozen 6
      have s7:wr.cell? ⟨w.heap.size,7,none⟩=some (.int .i64 0):=S2.out.bo.cell' rfl
      have z7:=S2.out.bo.frozen 7
      have s8:wr.cell? ⟨w.heap.size,8,none⟩=some (.string nilS):=S2.out.bo.cell' rfl
      have z8:=S2.out.bo.frozen 8
      go_wp2_with fail
      clear s0 z0 s1 z1 s2 z2 s3 z3 s4 z4 s5 z5 s6 z6 s7 z7 s8 z8 v0 v1 v2 v3 v4 v5 v6 v7 v8
      obtain ⟨qb,qf⟩:=box9 S2.out.bo (.string V.low) (.string V.high) (.bool V.unb) (.int .i64 V.right) (.slice A2 V.ents.length c2) (.bool V.held) (.int .i64 V.hp) (.int .i64 V.hl) (.string V.hk)
      have q0:=qb.cell' (i:=0) rfl
      have q1:=qb.cell' (i:=1) rfl
      have q2:=qb.cell' (i:=2) rfl
      have q3:=qb.cell' (i:=3) rfl
      have q4:=qb.cell' (i:=4) rfl
      have q5:=qb.cell' (i:=5) rfl
      have q6:=qb.cell' (i:=6) rfl
      have q7:=qb.cell' (i:=7) rfl
      have q8:=qb.cell' (i:=8) rfl
      refine bodyPost_ret (v:=.tuple #[vwV V (.slice A2 V.ents.length c2),.nilIface]) ?_ rfl (.inl ⟨V,A2,c2,HK.out,HFO.out,rfl,S2.out.vin.far S2.out.bo qf,S2.out.held,S2.out.fr.then_only qf (.inr (Nat.le_refl _))⟩)
      simp [results,Tryz.results32,go_sem,q0,q1,q2,q3,q4,q5,q6,q7,q8]
     ·obtain ⟨j,rfl⟩:∃ j,k=j+1:=⟨k - 1,by omega⟩
      have hjm:j < m:=by omega
      obtain ⟨C,hC⟩:∃ C,L[j]?=some C:=⟨_,List.getElem?_eq_getElem (by omega)⟩
      obtain ⟨b2,off2,hA,hb2,hR2,hO2⟩:=(H.out.keep S2.out.fr).at_ hC
      obtain ⟨rfl,rfl⟩:b=b2∧off=off2:=by injection hA with hA;injection hA with e1 e2;exact ⟨e1,e2⟩
      have HR2:=hid_ hR2
      have HO2:=hid_ hO2
      have HC:=hid_ hC
      have hdr:(L.map (·.R)).drop j=C.R :: (L.map (·.R)).drop (j+1):=by
       rw [List.drop_eq_getElem_cons (by rw [List.length_map];omega)]
       congr 1
       rw [List.getElem_map]
       have:=(List.getElem?_eq_some_iff.1 hC).2
       rw [this]
      have hfo:foldU ((L.map (·.R)).drop j)=upM V C.R:=by
       rw [hdr,foldU_cons _ (fun e=>by have:=congrArg List.length e;rw [List.length_drop,List.length_map,List.length_nil] at this;omega),← List.map_drop,S2.out.fo]
       rfl
      have HFO:=hid_ hfo
      have hi0':(0:Int)≤(j:Int):=Int.natCast_nonneg _
      have hi1':(j:Int) < ((m+1:Nat):Int):=by omega
      have hi2':(j:Int) < (m:Int)+1:=by omega
      have hji:((j+1:Nat):Int) - 1=(j:Int):=by omega
      have hwj:IntKind.i64.wrap ((j:Int) - 1)=(j:Int) - 1:=IntWalk.i64_in _ (by omega)
      have hge:decide ((0:Int)≤(j:Int))=true:=by simp
      rw [hji]
      clear hA hR2 hO2 hC hdr hfo hji hk0
      go_upto_region 18 with fail
      go_cut [10] (fun v wq=>∃ bb:Bool,v=.bool bb∧FoldCutO w L X j bb wq)
      case rest =>
       obtain ⟨bb,rfl,hbb⟩:=hcut
       have HBB:=hid_ hbb
       clear hbb
       cases bb with
       | false =>
        obtain ⟨-,hno,hbo,hfw⟩:=HBB.out.resolve_left (fun h=>by cases h.1)
        have hno':foldU (L.map (·.R))=none:=by
         have:=foldU_none (l:=L.map (·.R)) (j:=j) (by rw [List.length_map];omega) (by rw [← List.map_drop];exact hno) 0 (Nat.zero_le _)
         simpa using this
        have HNO:=hid_ hno'
        have BO5:=hid_ hbo
        have F5:=hid_ hfw
        clear hno hno' hbo hfw
        have s0:wc.cell? ⟨w.heap.size,0,none⟩=some (.string nilS):=BO5.out.cell' rfl
        have z0:=BO5.out.frozen 0
        have s1:wc.cell? ⟨w.heap.size,1,none⟩=some (.string nilS):=BO5.out.cell' rfl
        have z1:=BO5.out.frozen 1
        have s2:wc.cell? ⟨w.heap.size,2,none⟩=some (.bool false):=BO5.out.cell' rfl
        have z2:=BO5.out.frozen 2
        have s3:wc.cell? ⟨w.heap.size,3,none⟩=some (.int .i64 0):=BO5.out.cell' rfl
        have z3:=BO5.out.frozen 3
        have s4:wc.cell? ⟨w.heap.size,4,none⟩=some (.slice none 0 0):=BO5.out.cell' rfl
        have z4:=BO5.out.frozen 4
        have s5:wc.cell? ⟨w.heap.size,5,none⟩=some (.bool false):=BO5.out.cell' rfl
        have z5:=BO5.out.frozen 5
        have s6:wc.cell? ⟨w.heap.size,6,none⟩=some (.int .i64 0):=BO5.out.cell' rfl
        have z6:=BO5.out.frozen 6
        have s7:wc.cell? ⟨w.heap.size,7,none⟩=some (.int .i64 0):=BO5.out.cell' rfl
        have z7:=BO5.out.frozen 7
        have s8:wc.cell? ⟨w.heap.size,8,none⟩=some (.string nilS):=BO5.out.cell' rfl
        have z8:=BO5.out.frozen 8
        go_wp2_with fail
        clear s0 z0 s1 z1 s2 z2 s3 z3 s4 z4 s5 z5 s6 z6 s7 z7 s8 z8
        obtain ⟨qb,qf⟩:=box9 BO5.out (.string nilS) (.string nilS) (.bool false) (.int .i64 0) (.slice none 0 0) (.bool false) (.int .i64 0) (.int .i64 0) (.string nilS)
        have q0:=qb.cell' (i:=0) rfl
        have q1:=qb.cell' (i:=1) rfl
        have q2:=qb.cell' (i:=2) rfl
        have q3:=qb.cell' (i:=3) rfl
        have q4:=qb.cell' (i:=4) rfl
        have q5:=qb.cell' (i:=5) rfl
        have q6:=qb.cell' (i:=6) rfl
        have q7:=qb.cell' (i:=7) rfl
        have q8:=qb.cell' (i:=8) rfl
        refine bodyPost_ret (v:=.tuple #[vwV Vw.zero (.slice none 0 0),errV 10]) ?_ rfl (.inr ⟨10,.inr ⟨rfl,HK.out,HNO.out⟩,rfl,F5.out.then_only qf (.inr (Nat.le_refl _))⟩)
        simp [results,Tryz.results32,go_sem,Vw.zero,q0,q1,q2,q3,q4,q5,q6,q7,q8]
       | true =>
        obtain ⟨-,V',A4,c4,hst'⟩:=HBB.out.resolve_right (fun h=>by cases h.1)
        have ST':=hid_ hst'
        clear hst'
        go_wp2_with fail
        go_roundw
        case rel=>exact ⟨j,V',A4,c4,by omega,rfl,ST'.out⟩
        case measure=>simp [intOf]
      case first =>
      have v0:wr.cell? ⟨X,0,none⟩=some (.string V.low):=S2.out.bx.cell' rfl
      have v1:wr.cell? ⟨X,1,none⟩=some (.string V.high):=S2.out.bx.cell' rfl
      have v2:wr.cell? ⟨X,2,none⟩=some (.bool V.unb):=S2.out.bx.cell' rfl
      have v3:wr.cell? ⟨X,3,none⟩=some (.int .i64 V.right):=S2.out.bx.cell' rfl
      have v4:wr.cell? ⟨X,4,none⟩=some (.slice A2 V.ents.length c2):=S2.out.bx.cell' rfl
      have v5:wr.cell? ⟨X,5,none⟩=some (.bool V.held):=S2.out.bx.cell' rfl
      have v6:wr.cell? ⟨X,6,none⟩=some (.int .i64 V.hp):=S2.out.bx.cell' rfl
      have v7:wr.cell? ⟨X,7,none⟩=some (.int .i64 V.hl):=S2.out.bx.cell' rfl
      have v8:wr.cell? ⟨X,8,none⟩=some (.string V.hk):=S2.out.bx.cell' rfl
      have hS0:(fun w':World=>Fr none_ wr w') wr.drew:=(Fr.refl none_ wr).drew
      refine wp_region_U (m:=7) (S:=fun w':World=>Fr none_ wr w') (by kernel_rfl) ?_
      refine wpAnyU_take2 (i:=0) (v:=_) rfl (by kernel_rfl) (by kernel_rfl) (by kernel_rfl) (by kernel_rfl) (fun _ _ _ h=>h) (.inl ⟨by simp [Region.wanted],fun w' hS=>by have s_v0:=cellFr v0 hS;have s_v1:=cellFr v1 hS;have s_v2:=cellFr v2 hS;have s_v3:=cellFr v3 hS;have s_v4:=cellFr v4 hS;have s_v5:=cellFr v5 hS;have s_v6:=cellFr v6 hS;have s_v7:=cellFr v7 hS;have s_v8:=cellFr v8 hS;go_simp;rfl⟩) hS0 ?_
      refine wpAnyU_take2 (i:=1) (v:=_) rfl (by kernel_rfl) (by kernel_rfl) (by kernel_rfl) (by kernel_rfl) (fun _ _ _ h=>h) (.inl ⟨by simp [Region.wanted],fun w' hS=>by have s_v0:=cellFr v0 hS;have s_v1:=cellFr v1 hS;have s_v2:=cellFr v2 hS;have s_v3:=cellFr v3 hS;have s_v4:=cellFr v4 hS;have s_v5:=cellFr v5 hS;have s_v6:=cellFr v6 hS;have s_v7:=cellFr v7 hS;have s_v8:=cellFr v8 hS;go_simp;rfl⟩) hS0 ?_
      refine wpAnyU_take2 (i:=2) (v:=_) rfl (by kernel_rfl) (by kernel_rfl) (by kernel_rfl) (by kernel_rfl) (fun _ _ _ h=>h) (.inl ⟨by simp [Region.wanted],fun w' hS=>by have s_v0:=cellFr v0 hS;have s_v1:=cellFr v1 hS;have s_v2:=cellFr v2 hS;have s_v3:=cellFr v3 hS;have s_v4:=cellFr v4 hS;have s_v5:=cellFr v5 hS;have s_v6:=cellFr v6 hS;have s_v7:=cellFr v7 hS;have s_v8:=cellFr v8 hS;go_simp;rfl⟩) hS0 ?_
      refine wpAnyU_take2 (i:=3) (v:=_) rfl (by kernel_rfl) (by kernel_rfl) (by kernel_rfl) (by kernel_rfl) (fun _ _ _ h=>h) (.inl ⟨by simp [Region.wanted],fun w' hS=>by have s_v0:=cellFr v0 hS;have s_v1:=cellFr v1 hS;have s_v2:=cellFr v2 hS;have s_v3:=cellFr v3 hS;have s_v4:=cellFr v4 hS;have s_v5:=cellFr v5 hS;have s_v6:=cellFr v6 hS;have s_v7:=cellFr v7 hS;have s_v8:=cellFr v8 hS;go_simp;rfl⟩) hS0 ?_
      refine wpAnyU_take2 (i:=4) (v:=_) rfl (by kernel_rfl) (by kernel_rfl) (by kernel_rfl) (by kernel_rfl) (fun _ _ _ h=>h) (yieldsIf_load_mid (by simp [Region.wanted]) 33 (.tmp 75) rfl b (off+j * 15) rfl (recL C) _ (fun w' hS i v hv=>cellFr (HR2.out i v hv) hS) Tryz.underlying33 rfl rec_size8) hS0 ?_
      clear v0 v1 v2 v3 v4 v5 v6 v7 v8
      refine wpAnyU_one (i:=5) rfl rfl (by kernel_rfl) ?_
      go_simp
      refine (up_okO V C.R A2 c2 _ _ _ (S2.out.vin.vin.keep (Fr.refl none_ wr).drew) (by have:=S2.out.len;omega) ⟨HO2.out.key,HO2.out.hkey⟩ S2.out.held).mono ?_
      rintro e w4 (⟨V',A4,c4,hup,rfl,hvi,how,hf4⟩ | ⟨hup,rfl,hf4⟩)
      ·have FW:=hid_ (((Fr.refl none_ wr).drew:Fr none_ wr wr.drew).then_none hf4)
       have BX4:=hid_ (S2.out.bx.fr FW.out id)
       have BO4:=hid_ (S2.out.bo.fr FW.out id)
       have F4:=hid_ (S2.out.fr.then_none FW.out)
       have hvin:VwO w.heap.size w4 V' A4 c4:=⟨hvi,how w.heap.size (by have:=S2.out.fr.size;simpa using this) (own_none S2.out.vin.own (Fr.refl none_ wr).drew)⟩
       have VI4:=hid_ hvin
       clear hvi how
       have HUP:=hid_ hup
       clear hvin hup hf4
       refine ⟨FW.out,?_⟩
       refine wpAnyU_take2 (i:=6) (v:=_) rfl (by kernel_rfl) (by kernel_rfl) (by kernel_rfl) (by kernel_rfl) (fun _ _ _ h=>h) (.inl ⟨by simp [Region.wanted],fun w' hS=>by skip;go_simp;rfl⟩) FW.out ?_
       have hst':∀ w6,Blk w6 X 38 (vwA V' (.slice A4 V'.ents.length c4))∧Fr (only X) w4 w6→FoldStO w L X j V' A4 c4 w6:=fun w6 h6=>⟨by rw [List.map_drop,HFO.out,HUP.out],h6.1,BO4.out.fr h6.2 (only_ne (by omega)),VI4.out.far BX4.out h6.2,up_held HUP.out S2.out.held,by have:=up_len HUP.out;have:=S2.out.len;omega,F4.out.then_only h6.2 (.inr (by omega))⟩
       have HST:=hid_ hst'
       clear hst'
       refine wpAnyU_two (i:=7) (j:=8) rfl rfl rfl rfl (by kernel_rfl) ?_ ?_
       ·go_simp
        refine wpAnyU_two (i:=8) (j:=9) rfl rfl rfl rfl (by kernel_rfl) ?_ ?_
        ·go_simp
         have s0:w4.cell? ⟨X,0,none⟩=some (.string V.low):=BX4.out.cell' rfl
         have z0:=BX4.out.frozen 0
         have s1:w4.cell? ⟨X,1,none⟩=some (.string V.high):=BX4.out.cell' rfl
         have z1:=BX4.out.frozen 1
         have s2:w4.cell? ⟨X,2,none⟩=some (.bool V.unb):=BX4.out.cell' rfl
         have z2:=BX4.out.frozen 2
         have s3:w4.cell? ⟨X,3,none⟩=some (.int .i64 V.right):=BX4.out.cell' rfl
         have z3:=BX4.out.frozen 3
         have s4:w4.cell? ⟨X,4,none⟩=some (.slice A2 V.ents.length c2):=BX4.out.cell' rfl
         have z4:=BX4.out.frozen 4
         have s5:w4.cell? ⟨X,5,none⟩=some (.bool V.held):=BX4.out.cell' rfl
         have z5:=BX4.out.frozen 5
         have s6:w4.cell? ⟨X,6,none⟩=some (.int .i64 V.hp):=BX4.out.cell' rfl
         have z6:=BX4.out.frozen 6
         have s7:w4.cell? ⟨X,7,none⟩=some (.int .i64 V.hl):=BX4.out.cell' rfl
         have z7:=BX4.out.frozen 7
         have s8:w4.cell? ⟨X,8,none⟩=some (.string V.hk):=BX4.out.cell' rfl
         have z8:=BX4.out.frozen 8
         refine wpAnyU_one (i:=9) rfl rfl (by kernel_rfl) ?_
         go_simp
         clear s0 z0 s1 z1 s2 z2 s3 z3 s4 z4 s5 z5 s6 z6 s7 z7 s8 z8
         have h6:=hid_ (HST.out _ (box9 BX4.out (.string V'.low) (.string V'.high) (.bool V'.unb) (.int .i64 V'.right) (.slice A4 V'.ents.length c4) (.bool V'.held) (.int .i64 V'.hp) (.int .i64 V'.hl) (.string V'.hk)))
         refine wpAnyU_one (i:=10) rfl rfl (by kernel_rfl) ?_
         go_simp
         refine wpAnyU_done (by kernel_rfl) ?_ _
         go_wp2
         go_meet
         case rel=>exact ⟨true,rfl,.inl ⟨rfl,V',A4,c4,h6.out⟩⟩
        ·skip
         have s0:w4.cell? ⟨X,0,none⟩=some (.string V.low):=BX4.out.cell' rfl
         have z0:=BX4.out.frozen 0
         have s1:w4.cell? ⟨X,1,none⟩=some (.string V.high):=BX4.out.cell' rfl
         have z1:=BX4.out.frozen 1
         have s2:w4.cell? ⟨X,2,none⟩=some (.bool V.unb):=BX4.out.cell' rfl
         have z2:=BX4.out.frozen 2
         have s3:w4.cell? ⟨X,3,none⟩=some (.int .i64 V.right):=BX4.out.cell' rfl
         have z3:=BX4.out.frozen 3
         have s4:w4.cell? ⟨X,4,none⟩=some (.slice A2 V.ents.length c2):=BX4.out.cell' rfl
         have z4:=BX4.out.frozen 4
         have s5:w4.cell? ⟨X,5,none⟩=some (.bool V.held):=BX4.out.cell' rfl
         have z5:=BX4.out.frozen 5
         have s6:w4.cell? ⟨X,6,none⟩=some (.int .i64 V.hp):=BX4.out.cell' rfl
         have z6:=BX4.out.frozen 6
         have s7:w4.cell? ⟨X,7,none⟩=some (.int .i64 V.hl):=BX4.out.cell' rfl
         have z7:=BX4.out.frozen 7
         have s8:w4.cell? ⟨X,8,none⟩=some (.string V.hk):=BX4.out.cell' rfl
         have z8:=BX4.out.frozen 8
         go_simp
         clear s0 z0 s1 z1 s2 z2 s3 z3 s4 z4 s5 z5 s6 z6 s7 z7 s8 z8
         have h6:=hid_ (HST.out _ (box9 BX4.out (.string V'.low) (.string V'.high) (.bool V'.unb) (.int .i64 V'.right) (.slice A4 V'.ents.length c4) (.bool V'.held) (.int .i64 V'.hp) (.int .i64 V'.hl) (.string V'.hk)))
         refine wpAnyU_one (i:=8) rfl rfl (by kernel_rfl) ?_
         go_simp
         refine wpAnyU_one (i:=10) rfl rfl (by kernel_rfl) ?_
         go_simp
         refine wpAnyU_done (by kernel_rfl) ?_ _
         go_wp2
         go_meet
         case rel=>exact ⟨true,rfl,.inl ⟨rfl,V',A4,c4,h6.out⟩⟩
       ·go_simp
        refine wpAnyU_one (i:=7) rfl rfl (by kernel_rfl) ?_
        go_simp
        have s0:w4.cell? ⟨X,0,none⟩=some (.string V.low):=BX4.out.cell' rfl
        have z0:=BX4.out.frozen 0
        have s1:w4.cell? ⟨X,1,none⟩=some (.string V.high):=BX4.out.cell' rfl
        have z1:=BX4.out.frozen 1
        have s2:w4.cell? ⟨X,2,none⟩=some (.bool V.unb):=BX4.out.cell' rfl
        have z2:=BX4.out.frozen 2
        have s3:w4.cell? ⟨X,3,none⟩=some (.int .i64 V.right):=BX4.out.cell' rfl
        have z3:=BX4.out.frozen 3
        have s4:w4.cell? ⟨X,4,none⟩=some (.slice A2 V.ents.length c2):=BX4.out.cell' rfl
        have z4:=BX4.out.frozen 4
        have s5:w4.cell? ⟨X,5,none⟩=some (.bool V.held):=BX4.out.cell' rfl
        have z5:=BX4.out.frozen 5
        have s6:w4.cell? ⟨X,6,none⟩=some (.int .i64 V.hp):=BX4.out.cell' rfl
        have z6:=BX4.out.frozen 6
        have s7:w4.cell? ⟨X,7,none⟩=some (.int .i64 V.hl):=BX4.out.cell' rfl
        have z7:=BX4.out.frozen 7
        have s8:w4.cell? ⟨X,8,none⟩=some (.string V.hk):=BX4.out.cell' rfl
        have z8:=BX4.out.frozen 8
        refine wpAnyU_one (i:=9) rfl rfl (by kernel_rfl) ?_
        go_simp
        clear s0 z0 s1 z1 s2 z2 s3 z3 s4 z4 s5 z5 s6 z6 s7 z7 s8 z8
        have h6:=hid_ (HST.out _ (box9 BX4.out (.string V'.low) (.string V'.high) (.bool V'.unb) (.int .i64 V'.right) (.slice A4 V'.ents.length c4) (.bool V'.held) (.int .i64 V'.hp) (.int .i64 V'.hl) (.string V'.hk)))
        refine wpAnyU_one (i:=10) rfl rfl (by kernel_rfl) ?_
        go_simp
        refine wpAnyU_done (by kernel_rfl) ?_ _
        go_wp2
        go_meet
        case rel=>exact ⟨true,rfl,.inl ⟨rfl,V',A4,c4,h6.out⟩⟩
      ·have FW:=hid_ (((Fr.refl none_ wr).drew:Fr none_ wr wr.drew).then_none hf4)
       have BX4:=hid_ (S2.out.bx.fr FW.out id)
       have BO4:=hid_ (S2.out.bo.fr FW.out id)
       have F4:=hid_ (S2.out.fr.then_none FW.out)
       have HUP:=hid_ hup
       clear hup hf4
       refine ⟨FW.out,?_⟩
       refine wpAnyU_take2 (i:=6) (v:=_) rfl (by kernel_rfl) (by kernel_rfl) (by kernel_rfl) (by kernel_rfl) (fun _ _ _ h=>h) (.inl ⟨by simp [Region.wanted],fun w' hS=>by skip;go_simp;rfl⟩) FW.out ?_
       have hst':∀ w6,Blk w6 X 38 (vwA V (.slice A2 V.ents.length c2))∧Fr (only X) w4 w6→foldU ((L.drop j).map (·.R))=none∧Blk w6 w.heap.size 38 (vwA Vw.zero (.slice none 0 0))∧Fr none_ w w6:=fun w6 h6=>⟨by rw [List.map_drop,HFO.out,HUP.out],BO4.out.fr h6.2 (only_ne (by omega)),F4.out.then_only h6.2 (.inr (by omega))⟩
       have HST:=hid_ hst'
       clear hst'
       refine wpAnyU_two (i:=7) (j:=8) rfl rfl rfl rfl (by kernel_rfl) ?_ ?_
       ·go_simp
        refine wpAnyU_two (i:=8) (j:=9) rfl rfl rfl rfl (by kernel_rfl) ?_ ?_
        ·go_simp
         have s0:w4.cell? ⟨X,0,none⟩=some (.string V.low):=BX4.out.cell' rfl
         have z0:=BX4.out.frozen 0
         have s1:w4.cell? ⟨X,1,none⟩=some (.string V.high):=BX4.out.cell' rfl
         have z1:=BX4.out.frozen 1
         have s2:w4.cell? ⟨X,2,none⟩=some (.bool V.unb):=BX4.out.cell' rfl
         have z2:=BX4.out.frozen 2
         have s3:w4.cell? ⟨X,3,none⟩=some (.int .i64 V.right):=BX4.out.cell' rfl
         have z3:=BX4.out.frozen 3
         have s4:w4.cell? ⟨X,4,none⟩=some (.slice A2 V.ents.length c2):=BX4.out.cell' rfl
         have z4:=BX4.out.frozen 4
         have s5:w4.cell? ⟨X,5,none⟩=some (.bool V.held):=BX4.out.cell' rfl
         have z5:=BX4.out.frozen 5
         have s6:w4.cell? ⟨X,6,none⟩=some (.int .i64 V.hp):=BX4.out.cell' rfl
         have z6:=BX4.out.frozen 6
         have s7:w4.cell? ⟨X,7,none⟩=some (.int .i64 V.hl):=BX4.out.cell' rfl
         have z7:=BX4.out.frozen 7
         have s8:w4.cell? ⟨X,8,none⟩=some (.string V.hk):=BX4.out.cell' rfl
         have z8:=BX4.out.frozen 8
         refine wpAnyU_one (i:=9) rfl rfl (by kernel_rfl) ?_
         go_simp
         clear s0 z0 s1 z1 s2 z2 s3 z3 s4 z4 s5 z5 s6 z6 s7 z7 s8 z8
         have h6:=hid_ (HST.out _ (box9 BX4.out (.string V.low) (.string V.high) (.bool V.unb) (.int .i64 V.right) (.slice A2 V.ents.length c2) (.bool V.held) (.int .i64 V.hp) (.int .i64 V.hl) (.string V.hk)))
         refine wpAnyU_one (i:=10) rfl rfl (by kernel_rfl) ?_
         go_simp
         refine wpAnyU_done (by kernel_rfl) ?_ _
         go_wp2
         go_meet
         case rel=>exact ⟨false,rfl,.inr ⟨rfl,h6.out⟩⟩
        ·skip
         have s0:w4.cell? ⟨X,0,none⟩=some (.string V.low):=BX4.out.cell' rfl
         have z0:=BX4.out.frozen 0
         have s1:w4.cell? ⟨X,1,none⟩=some (.string V.high):=BX4.out.cell' rfl
         have z1:=BX4.out.frozen 1
         have s2:w4.cell? ⟨X,2,none⟩=some (.bool V.unb):=BX4.out.cell' rfl
         have z2:=BX4.out.frozen 2
         have s3:w4.cell? ⟨X,3,none⟩=some (.int .i64 V.right):=BX4.out.cell' rfl
         have z3:=BX4.out.frozen 3
         have s4:w4.cell? ⟨X,4,none⟩=some (.slice A2 V.ents.length c2):=BX4.out.cell' rfl
         have z4:=BX4.out.frozen 4
         have s5:w4.cell? ⟨X,5,none⟩=some (.bool V.held):=BX4.out.cell' rfl
         have z5:=BX4.out.frozen 5
         have s6:w4.cell? ⟨X,6,none⟩=some (.int .i64 V.hp):=BX4.out.cell' rfl
         have z6:=BX4.out.frozen 6
         have s7:w4.cell? ⟨X,7,none⟩=some (.int .i64 V.hl):=BX4.out.cell' rfl
         have z7:=BX4.out.frozen 7
         have s8:w4.cell? ⟨X,8,none⟩=some (.string V.hk):=BX4.out.cell' rfl
         have z8:=BX4.out.frozen 8
         go_simp
         clear s0 z0 s1 z1 s2 z2 s3 z3 s4 z4 s5 z5 s6 z6 s7 z7 s8 z8
         have h6:=hid_ (HST.out _ (box9 BX4.out (.string V.low) (.string V.high) (.bool V.unb) (.int .i64 V.right) (.slice A2 V.ents.length c2) (.bool V.held) (.int .i64 V.hp) (.int .i64 V.hl) (.string V.hk)))
         refine wpAnyU_one (i:=8) rfl rfl (by kernel_rfl) ?_
         go_simp
         refine wpAnyU_one (i:=10) rfl rfl (by kernel_rfl) ?_
         go_simp
         refine wpAnyU_done (by kernel_rfl) ?_ _
         go_wp2
         go_meet
         case rel=>exact ⟨false,rfl,.inr ⟨rfl,h6.out⟩⟩
       ·go_simp
        refine wpAnyU_one (i:=7) rfl rfl (by kernel_rfl) ?_
        go_simp
        have s0:w4.cell? ⟨X,0,none⟩=some (.string V.low):=BX4.out.cell' rfl
        have z0:=BX4.out.frozen 0
        have s1:w4.cell? ⟨X,1,none⟩=some (.string V.high):=BX4.out.cell' rfl
        have z1:=BX4.out.frozen 1
        have s2:w4.cell? ⟨X,2,none⟩=some (.bool V.unb):=BX4.out.cell' rfl
        have z2:=BX4.out.frozen 2
        have s3:w4.cell? ⟨X,3,none⟩=some (.int .i64 V.right):=BX4.out.cell' rfl
        have z3:=BX4.out.frozen 3
        have s4:w4.cell? ⟨X,4,none⟩=some (.slice A2 V.ents.length c2):=BX4.out.cell' rfl
        have z4:=BX4.out.frozen 4
        have s5:w4.cell? ⟨X,5,none⟩=some (.bool V.held):=BX4.out.cell' rfl
        have z5:=BX4.out.frozen 5
        have s6:w4.cell? ⟨X,6,none⟩=some (.int .i64 V.hp):=BX4.out.cell' rfl
        have z6:=BX4.out.frozen 6
        have s7:w4.cell? ⟨X,7,none⟩=some (.int .i64 V.hl):=BX4.out.cell' rfl
        have z7:=BX4.out.frozen 7
        have s8:w4.cell? ⟨X,8,none⟩=some (.string V.hk):=BX4.out.cell' rfl
        have z8:=BX4.out.frozen 8
        refine wpAnyU_one (i:=9) rfl rfl (by kernel_rfl) ?_
        go_simp
        clear s0 z0 s1 z1 s2 z2 s3 z3 s4 z4 s5 z5 s6 z6 s7 z7 s8 z8
        have h6:=hid_ (HST.out _ (box9 BX4.out (.string V.low) (.string V.high) (.bool V.unb) (.int .i64 V.right) (.slice A2 V.ents.length c2) (.bool V.held) (.int .i64 V.hp) (.int .i64 V.hl) (.string V.hk)))
        refine wpAnyU_one (i:=10) rfl rfl (by kernel_rfl) ?_
        go_simp
        refine wpAnyU_done (by kernel_rfl) ?_ _
        go_wp2
        go_meet
        case rel=>exact ⟨false,rfl,.inr ⟨rfl,h6.out⟩⟩
end Go.Proofs.YtfihfjbakfadkaaGreatDoor

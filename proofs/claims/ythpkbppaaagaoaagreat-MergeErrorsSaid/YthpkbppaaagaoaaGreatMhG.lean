/- Texts of one proof, merged: Lf7. -/
import Derived.Test.YthpkbppaaagaoaaGreatMhD
import Derived.Test.YthpkbppaaagaoaaGreatMhF
namespace Go.Proofs.YthpkbppaaagaoaaGreat
open Go.RowKit Go.BigFrame
set_option maxRecDepth 100000
set_option linter.unusedVariables false

def RwOkL (L:List Ch):Prop:=∀ C ∈ L,SzOk C.R.val∧RwsOk C.R.rows∧C.R.rows.length≤500
structure FoldStL (w:World) (L:List Ch) (X k:Nat) (V:Lw) (A:Option Addr) (c:Nat) (wr:World):Prop where
  fo:foldL ((L.drop k).map (·.R))=some V
  bx:Blk wr X 101 (lwA V (.slice A V.rows.length c))
  bo:Blk wr w.heap.size 101 lwZ
  vin:LwIn w.heap.size wr V A c
  len:V.rows.length≤(L.length - k) * 501
  fr:Fr none_ w wr
def FoldCutL (w:World) (L:List Ch) (X j:Nat) (bb:Bool) (wq:World):Prop:=
  (bb=true∧∃ (V:Lw) (A:Option Addr) (c:Nat),FoldStL w L X j V A c wq)∨(bb=false∧foldL ((L.drop j).map (·.R))=none∧Blk wq w.heap.size 101 lwZ∧Fr none_ w wq)
def FoldPostL (l:List Rc) (w:World) (e:Ending) (w':World):Prop:=
  (∃ V A c,(∀ R ∈ l,KindL R)∧foldL l=some V∧e=.returned (.tuple #[lwV V (.slice A V.rows.length c),.nilIface])∧LwIn w.heap.size w' V A c∧Fr none_ w w') ∨
  (∃ k:Int,((k=9∧∃ R ∈ l,¬ KindL R)∨(k=10∧(∀ R ∈ l,KindL R)∧foldL l=none))∧e=.returned (.tuple #[lwV Lw.zero (.slice none 0 0),errV k])∧Fr none_ w w')
theorem box3 {w1:World} {b:Nat} {t:TypeId} {c0 c1 c2:Value} (h:Blk w1 b t #[c0,c1,c2]) (x0 x1 x2:Value) :
    Blk (((w1.setCell ⟨b,0,none⟩ x0).setCell ⟨b,1,none⟩ x1).setCell ⟨b,2,none⟩ x2) b t #[x0,x1,x2]∧Fr (only b) w1 (((w1.setCell ⟨b,0,none⟩ x0).setCell ⟨b,1,none⟩ x1).setCell ⟨b,2,none⟩ x2):=by
  refine ⟨?_,frOnly7 (frOnly7 (frOnly7 (Fr.refl _ w1) _) _) _⟩
  have e:=(((h.set_ 0 x0).set_ 1 x1).set_ 2 x2)
  simp only [List.setIfInBounds_toArray,List.set_cons_zero,List.set_cons_succ] at e
  exact e
set_option maxHeartbeats 4000000 in
theorem spanL_ok (V:Lw) (vr:Value) (w:World):Calls Tryz.prog 118 #[lwV V vr] w fun e w'=>e=.returned (.agg #[.string V.low,.string V.high,.bool V.unb])∧Fr none_ w w':=by
  obtain ⟨w0,hw0⟩:∃ z,z=(w.alloc (.cells (lwA V vr) 101)).alloc (.cells #[.string ⟨#[]⟩,.string ⟨#[]⟩,.bool false] 206):=⟨_,rfl⟩
  have f0:Fr none_ w w0:=by rw [hw0];exact ((Fr.refl none_ w).alloc _).alloc _
  have BV:Hid (Blk w0 w.heap.size 101 (lwA V vr)):=hid_ (by rw [hw0];exact (Blk.new w _ _).alloc _)
  have BS:Hid (Blk w0 (w.heap.size+1) 206 #[.string ⟨#[]⟩,.string ⟨#[]⟩,.bool false]):=hid_ (by rw [hw0];exact Blk.new7 _ _ (by simp))
  have F0:=hid_ f0
  clear f0
  go_enter Tryz.func118,Tryz.ntmps118
  go_upto_region 1 with fail
  change Code.wp _ _ _ _ ((w.alloc (.cells (lwA V vr) 101)).alloc (.cells #[.string ⟨#[]⟩,.string ⟨#[]⟩,.bool false] 206))
  rw [← hw0]
  clear hw0
  have v0:w0.cell? ⟨w.heap.size,0,none⟩=some (.string V.low):=BV.out.cell' rfl
  have v1:w0.cell? ⟨w.heap.size,1,none⟩=some (.string V.high):=BV.out.cell' rfl
  have v2:w0.cell? ⟨w.heap.size,2,none⟩=some (.bool V.unb):=BV.out.cell' rfl
  have s0:w0.cell? ⟨w.heap.size+1,0,none⟩=some (.string ⟨#[]⟩):=BS.out.cell' rfl
  have s1:w0.cell? ⟨w.heap.size+1,1,none⟩=some (.string ⟨#[]⟩):=BS.out.cell' rfl
  have s2:w0.cell? ⟨w.heap.size+1,2,none⟩=some (.bool false):=BS.out.cell' rfl
  have z0:=BS.out.frozen 0
  have z1:=BS.out.frozen 1
  have z2:=BS.out.frozen 2
  go_wp2_with fail
  clear v0 v1 v2 s0 s1 s2 z0 z1 z2
  obtain ⟨qb,qf⟩:=box3 BS.out (.string V.low) (.string V.high) (.bool V.unb)
  have q0:=qb.cell' (i:=0) rfl
  have q1:=qb.cell' (i:=1) rfl
  have q2:=qb.cell' (i:=2) rfl
  refine bodyPost_ret (v:=.agg #[.string V.low,.string V.high,.bool V.unb]) ?_ rfl ⟨rfl,F0.out.then_only qf (.inr (by omega))⟩
  simp [results,Tryz.results118,go_sem,q0,q1,q2]
set_option maxHeartbeats 8000000 in
theorem foldL_ok (A:Option Addr) (n cap:Nat) (L:List Ch) (w:World) (h:ChReads w A n L) (hn:n≤400) (hs:RwOkL L) :
  Calls Tryz.prog 109 #[.slice A n cap] w (FoldPostL (L.map (·.R)) w):=by
 have hln:=h.1
 obtain ⟨w0,hw0⟩:∃ w0,w0=w.alloc (.cells lwZ 101):=⟨_,rfl⟩
 have f0:Fr none_ w w0:=by rw [hw0];exact (Fr.refl none_ w).alloc _
 have BO:Hid (Blk w0 w.heap.size 101 lwZ):=hid_ (by rw [hw0];exact Blk.new w _ _)
 have F0:=hid_ f0
 have H:=hid_ h
 have HS:=hid_ hs
 have hsz0:w.heap.size < w0.heap.size:=BO.out.lt
 clear h f0 hs
 go_enter Tryz.func109,Tryz.ntmps109
 go_wp2_with fail
 change Code.wp _ _ _ _ (w.alloc (.cells lwZ 101))
 rw [← hw0]
 clear hw0
 go_loopw [13] (fun i wr=>∃ k:Nat,k≤n∧i=.int .i64 k∧(∀ (j:Nat) C,j < k→L[j]?=some C→KindL C.R)∧Fr none_ w0 wr) (fun i _=>n - (intOf i).toNat)
 case atStart=>exact ⟨0,Nat.zero_le _,rfl,fun j C hj=>by omega,Fr.refl _ _⟩
 case round =>
  obtain ⟨k,hk,rfl,hall,hF⟩:=hrel
  have HA:=hid_ hall
  have F:=hid_ hF
  clear hall hF
  have hi0:(0:Int)≤(k:Int):=Int.natCast_nonneg _
  by_cases hlt:k < n
  ·obtain ⟨C,hC⟩:∃ C,L[k]?=some C:=⟨_,List.getElem?_eq_getElem (by omega)⟩
   obtain ⟨b,off,rfl,hb,hR,hO⟩:=(H.out.keep (F0.out.then_none F.out)).at_ hC
   have hi1:(k:Int) < (n:Int):=by omega
   have HR:=hid_ hR
   have HC:=hid_ hC
   clear hR hO hC
   go_upto_region 4 with (first | (refine wpList_load_mid rfl 51 (.tmp 15) rfl b (off+k * 15) rfl (recL C) _ HR.out Tryz.underlying51 rfl rec_size8 ?_) | (refine wpList_store_mid rfl 51 (.tmp 5) (.tmp 16) rfl wr.heap.size 0 (recL C).toArray rfl rfl (new_there wr _ recZ8) rec_size8 (rec_one C) ?_;obtain ⟨w1,hw1⟩:∃ w1,w1=(wr.alloc (.cells recZ8 51)).setCells wr.heap.size 0 (recL C):=⟨_,rfl⟩;change wpList _ _ _ _ _ ((wr.alloc (.cells recZ8 51)).setCells wr.heap.size 0 (recL C));rw [← hw1];have P1:Hid (Blk w1 wr.heap.size 51 (recL C).toArray∧Fr none_ wr w1):=hid_ (by rw [hw1];exact new_copy wr _ recZ8 _ rfl);clear hw1))
   have BO1:=hid_ (BO.out.fr (F.out.then_none P1.out.2) id)
   have F1:=hid_ (F0.out.then_none (F.out.then_none P1.out.2))
   have c0:w1.cell? ⟨wr.heap.size,0,none⟩=some (.int .i64 C.R.kind):=P1.out.1.cell' rfl
   have s0:w1.cell? ⟨w.heap.size,0,none⟩=some (.string nilS):=BO1.out.cell' rfl
   have z0:=BO1.out.frozen 0
   have s1:w1.cell? ⟨w.heap.size,1,none⟩=some (.string nilS):=BO1.out.cell' rfl
   have z1:=BO1.out.frozen 1
   have s2:w1.cell? ⟨w.heap.size,2,none⟩=some (.bool false):=BO1.out.cell' rfl
   have z2:=BO1.out.frozen 2
   have s3:w1.cell? ⟨w.heap.size,3,none⟩=some (.int .i64 0):=BO1.out.cell' rfl
   have z3:=BO1.out.frozen 3
   have s4:w1.cell? ⟨w.heap.size,4,none⟩=some (.slice none 0 0):=BO1.out.cell' rfl
   have z4:=BO1.out.frozen 4
   have s5:w1.cell? ⟨w.heap.size,5,none⟩=some (.bool false):=BO1.out.cell' rfl
   have z5:=BO1.out.frozen 5
   by_cases h7:C.R.kind < 1
   ·have hno:∃ R ∈ L.map (·.R),¬ KindL R:=⟨C.R,List.mem_map.2 ⟨C,List.mem_of_getElem? HC.out,rfl⟩,fun hh=>by have:=hh.1;omega⟩
    have HNO:=hid_ hno
    clear hno
    go_wp2_with fail
    clear s0 z0 s1 z1 s2 z2 s3 z3 s4 z4 s5 z5
    obtain ⟨qb,qf⟩:=box6 BO1.out (.string nilS) (.string nilS) (.bool false) (.int .i64 0) (.slice none 0 0) (.bool false)
    have q0:=qb.cell' (i:=0) rfl
    have q1:=qb.cell' (i:=1) rfl
    have q2:=qb.cell' (i:=2) rfl
    have q3:=qb.cell' (i:=3) rfl
    have q4:=qb.cell' (i:=4) rfl
    have q5:=qb.cell' (i:=5) rfl
    refine bodyPost_ret (v:=.tuple #[lwV Lw.zero (.slice none 0 0),errV 9]) ?_ rfl (.inr ⟨9,.inl ⟨rfl,HNO.out⟩,rfl,F1.out.then_only qf (.inr (Nat.le_refl _))⟩)
    simp [results,Tryz.results109,go_sem,Lw.zero,q0,q1,q2,q3,q4,q5]
   by_cases h11:6 < C.R.kind
   ·have hno:∃ R ∈ L.map (·.R),¬ KindL R:=⟨C.R,List.mem_map.2 ⟨C,List.mem_of_getElem? HC.out,rfl⟩,fun hh=>by have:=hh.2;omega⟩
    have HNO:=hid_ hno
    clear hno
    go_wp2_with fail
    clear s0 z0 s1 z1 s2 z2 s3 z3 s4 z4 s5 z5
    obtain ⟨qb,qf⟩:=box6 BO1.out (.string nilS) (.string nilS) (.bool false) (.int .i64 0) (.slice none 0 0) (.bool false)
    have q0:=qb.cell' (i:=0) rfl
    have q1:=qb.cell' (i:=1) rfl
    have q2:=qb.cell' (i:=2) rfl
    have q3:=qb.cell' (i:=3) rfl
    have q4:=qb.cell' (i:=4) rfl
    have q5:=qb.cell' (i:=5) rfl
    refine bodyPost_ret (v:=.tuple #[lwV Lw.zero (.slice none 0 0),errV 9]) ?_ rfl (.inr ⟨9,.inl ⟨rfl,HNO.out⟩,rfl,F1.out.then_only qf (.inr (Nat.le_refl _))⟩)
    simp [results,Tryz.results109,go_sem,Lw.zero,q0,q1,q2,q3,q4,q5]
   go_wp2_with fail
   go_roundw
   case rel=>exact ⟨k+1,by omega,by go_num,fun j C' hj hC'=>by
    rcases Nat.lt_succ_iff_lt_or_eq.1 hj with hj | rfl
    ·exact HA.out j C' hj hC'
    ·rw [HC.out] at hC';cases hC';exact ⟨by omega,by omega⟩,F.out.then_none P1.out.2⟩
   case measure=>simp [intOf];omega
  ·obtain rfl:k=n:=by omega
   have HK:Hid (∀ R ∈ L.map (·.R),KindL R):=hid_ (fun R hR=>by
    obtain ⟨C,hC,rfl⟩:=List.mem_map.1 hR
    obtain ⟨j,hj,e⟩:=List.mem_iff_getElem.1 hC
    exact HA.out j C (by omega) (by rw [List.getElem?_eq_getElem hj,e]))
   have F1:=hid_ (F0.out.then_none F.out)
   have BO1:=hid_ (BO.out.fr F.out id)
   have hsz1:=F.out.size
   clear HA hlt hi0 BO F0
   have s0:wr.cell? ⟨w.heap.size,0,none⟩=some (.string nilS):=BO1.out.cell' rfl
   have z0:=BO1.out.frozen 0
   have s1:wr.cell? ⟨w.heap.size,1,none⟩=some (.string nilS):=BO1.out.cell' rfl
   have z1:=BO1.out.frozen 1
   have s2:wr.cell? ⟨w.heap.size,2,none⟩=some (.bool false):=BO1.out.cell' rfl
   have z2:=BO1.out.frozen 2
   have s3:wr.cell? ⟨w.heap.size,3,none⟩=some (.int .i64 0):=BO1.out.cell' rfl
   have z3:=BO1.out.frozen 3
   have s4:wr.cell? ⟨w.heap.size,4,none⟩=some (.slice none 0 0):=BO1.out.cell' rfl
   have z4:=BO1.out.frozen 4
   have s5:wr.cell? ⟨w.heap.size,5,none⟩=some (.bool false):=BO1.out.cell' rfl
   have z5:=BO1.out.frozen 5
   by_cases hk0:k=0
   ·have hno:foldL (L.map (·.R))=none:=by rw [List.eq_nil_of_length_eq_zero (by omega:L.length=0)];rfl
    have HNO:=hid_ hno
    subst hk0
    clear hno
    go_wp2_with fail
    clear s0 z0 s1 z1 s2 z2 s3 z3 s4 z4 s5 z5
    obtain ⟨qb,qf⟩:=box6 BO1.out (.string nilS) (.string nilS) (.bool false) (.int .i64 0) (.slice none 0 0) (.bool false)
    have q0:=qb.cell' (i:=0) rfl
    have q1:=qb.cell' (i:=1) rfl
    have q2:=qb.cell' (i:=2) rfl
    have q3:=qb.cell' (i:=3) rfl
    have q4:=qb.cell' (i:=4) rfl
    have q5:=qb.cell' (i:=5) rfl
    refine bodyPost_ret (v:=.tuple #[lwV Lw.zero (.slice none 0 0),errV 10]) ?_ rfl (.inr ⟨10,.inr ⟨rfl,HK.out,HNO.out⟩,rfl,F1.out.then_only qf (.inr (Nat.le_refl _))⟩)
    simp [results,Tryz.results109,go_sem,Lw.zero,q0,q1,q2,q3,q4,q5]
   obtain ⟨m,rfl⟩:∃ m,k=m+1:=⟨k - 1,by omega⟩
   obtain ⟨D,hD⟩:∃ D,L[m]?=some D:=⟨_,List.getElem?_eq_getElem (by omega)⟩
   obtain ⟨b,off,rfl,hb,hR,hO⟩:=(H.out.keep F1.out).at_ hD
   have HD:=hid_ hD
   have HR:=hid_ hR
   have HO:=hid_ hO
   have HDS:=hid_ (HS.out D (List.mem_of_getElem? hD))
   have hDs:=HDS.out.2.2
   have hDm:(L.map (·.R))[m]?=some D.R:=by rw [List.getElem?_map,hD];rfl
   have hLD:(L.map (·.R)).drop m=[D.R]:=foldU_last (by rw [List.length_map];omega) hDm
   have HLD:=hid_ hLD
   have hi0:(0:Int)≤(m:Int):=Int.natCast_nonneg _
   have hi1:(m:Int) < ((m+1:Nat):Int):=by omega
   have hi2:(m:Int) < (m:Int)+1:=by omega
   have hw1:IntKind.i64.wrap ((m:Int)+1 - 1)=(m:Int):=by rw [show (m:Int)+1 - 1=(m:Int) by omega];exact IntWalk.i64_in _ (by omega)
   have k0:wr.cell? ⟨b,off+m * 15,none⟩=some (.int .i64 D.R.kind):=HR.out 0 _ rfl
   clear hD hR hO hDm hLD hk0
   by_cases h7:D.R.kind=1
   case neg =>
    have hno:foldL (L.map (·.R))=none:=by
     have:=foldL_none (l:=L.map (·.R)) (j:=m) (by rw [List.length_map];omega) (by rw [HLD.out];exact foldL_one_no _ (fun h=>h7 h.1)) 0 (Nat.zero_le _)
     simpa using this
    have HNO:=hid_ hno
    have h7':(D.R.kind != 1)=true:=by simpa using h7
    clear hno h7
    go_wp2_with fail
    clear s0 z0 s1 z1 s2 z2 s3 z3 s4 z4 s5 z5
    obtain ⟨qb,qf⟩:=box6 BO1.out (.string nilS) (.string nilS) (.bool false) (.int .i64 0) (.slice none 0 0) (.bool false)
    have q0:=qb.cell' (i:=0) rfl
    have q1:=qb.cell' (i:=1) rfl
    have q2:=qb.cell' (i:=2) rfl
    have q3:=qb.cell' (i:=3) rfl
    have q4:=qb.cell' (i:=4) rfl
    have q5:=qb.cell' (i:=5) rfl
    refine bodyPost_ret (v:=.tuple #[lwV Lw.zero (.slice none 0 0),errV 10]) ?_ rfl (.inr ⟨10,.inr ⟨rfl,HK.out,HNO.out⟩,rfl,F1.out.then_only qf (.inr (Nat.le_refl _))⟩)
    simp [results,Tryz.results109,go_sem,Lw.zero,q0,q1,q2,q3,q4,q5]
   have h7':(D.R.kind != 1)=false:=by simpa using h7
   have H7:=hid_ h7
   clear h7
   go_upto_region 11 with (first | (refine wpList_load_mid rfl 51 (.tmp 45) rfl b (off+m * 15) rfl (recL D) _ HR.out Tryz.underlying51 rfl rec_size8 ?_) | (refine wpList_store_mid rfl 51 (.tmp 7) (.tmp 46) rfl wr.heap.size 0 (recL D).toArray rfl rfl (new_there wr _ recZ8) rec_size8 (rec_one D) ?_;obtain ⟨w1,hw1⟩:∃ w1,w1=(wr.alloc (.cells recZ8 51)).setCells wr.heap.size 0 (recL D):=⟨_,rfl⟩;change wpList _ _ _ _ _ ((wr.alloc (.cells recZ8 51)).setCells wr.heap.size 0 (recL D));rw [← hw1];have P1:Hid (Blk w1 wr.heap.size 51 (recL D).toArray∧Fr none_ wr w1):=hid_ (by rw [hw1];exact new_copy wr _ recZ8 _ rfl);clear hw1))
   go_frame
   have BO2:=hid_ (BO1.out.fr P1.out.2 id)
   have F2:=hid_ (F1.out.then_none P1.out.2)
   have RD2:=hid_ (HO.out.rd.r.none_fr P1.out.2)
   have hsz2:=P1.out.2.size
   clear s0 z0 s1 z1 s2 z2 s3 z3 s4 z4 s5 z5
   go_cut [8] (fun v wq=>∃ X A' c',v=.pointer (some ⟨X,0,none⟩)∧w.heap.size < X∧Blk wq X 101 (lwA (baseL D.R) (.slice A' D.R.rows.length c'))∧LwIn w.heap.size wq (baseL D.R) A' c'∧Fr none_ w1 wq)
   case first =>
    have g1:w1.cell? ⟨wr.heap.size,1,none⟩=some (.string D.R.low):=P1.out.1.cell' rfl
    have g2:w1.cell? ⟨wr.heap.size,2,none⟩=some (.string D.R.high):=P1.out.1.cell' rfl
    have g3:w1.cell? ⟨wr.heap.size,3,none⟩=some (.bool D.R.unb):=P1.out.1.cell' rfl
    have g4:w1.cell? ⟨wr.heap.size,4,none⟩=some (.int .i64 D.R.right):=P1.out.1.cell' rfl
    have g5:w1.cell? ⟨wr.heap.size,5,none⟩=some (.slice D.A D.R.rows.length D.c):=P1.out.1.cell' rfl
    have hS0:(fun w':World=>Fr none_ w1 w') w1.drew:=(Fr.refl none_ w1).drew
    refine wp_region_U (m:=13) (S:=fun w':World=>Fr none_ w1 w') (by kernel_rfl) ?_
    refine wpAnyU_take2 (i:=0) (v:=_) rfl (by kernel_rfl) (by kernel_rfl) (by kernel_rfl) (by kernel_rfl) (fun _ _ _ h=>h) (.inl ⟨by kernel_rfl,fun w' hS=>by have s_g1:=cellFr g1 hS;have s_g2:=cellFr g2 hS;have s_g3:=cellFr g3 hS;have s_g4:=cellFr g4 hS;have s_g5:=cellFr g5 hS;go_simp;rfl⟩) hS0 ?_
    refine wpAnyU_take2 (i:=1) (v:=_) rfl (by kernel_rfl) (by kernel_rfl) (by kernel_rfl) (by kernel_rfl) (fun _ _ _ h=>h) (.inl ⟨by kernel_rfl,fun w' hS=>by have s_g1:=cellFr g1 hS;have s_g2:=cellFr g2 hS;have s_g3:=cellFr g3 hS;have s_g4:=cellFr g4 hS;have s_g5:=cellFr g5 hS;go_simp;rfl⟩) hS0 ?_
    refine wpAnyU_take2 (i:=2) (v:=_) rfl (by kernel_rfl) (by kernel_rfl) (by kernel_rfl) (by kernel_rfl) (fun _ _ _ h=>h) (.inl ⟨by kernel_rfl,fun w' hS=>by have s_g1:=cellFr g1 hS;have s_g2:=cellFr g2 hS;have s_g3:=cellFr g3 hS;have s_g4:=cellFr g4 hS;have s_g5:=cellFr g5 hS;go_simp;rfl⟩) hS0 ?_
    refine wpAnyU_take2 (i:=3) (v:=_) rfl (by kernel_rfl) (by kernel_rfl) (by kernel_rfl) (by kernel_rfl) (fun _ _ _ h=>h) (.inl ⟨by kernel_rfl,fun w' hS=>by have s_g1:=cellFr g1 hS;have s_g2:=cellFr g2 hS;have s_g3:=cellFr g3 hS;have s_g4:=cellFr g4 hS;have s_g5:=cellFr g5 hS;go_simp;rfl⟩) hS0 ?_
    refine wpAnyU_take2 (i:=4) (v:=_) rfl (by kernel_rfl) (by kernel_rfl) (by kernel_rfl) (by kernel_rfl) (fun _ _ _ h=>h) (.inl ⟨by kernel_rfl,fun w' hS=>by have s_g1:=cellFr g1 hS;have s_g2:=cellFr g2 hS;have s_g3:=cellFr g3 hS;have s_g4:=cellFr g4 hS;have s_g5:=cellFr g5 hS;go_simp;rfl⟩) hS0 ?_
    refine wpAnyU_take2 (i:=5) (v:=_) rfl (by kernel_rfl) (by kernel_rfl) (by kernel_rfl) (by kernel_rfl) (fun _ _ _ h=>h) (.inl ⟨by kernel_rfl,fun w' hS=>by have s_g1:=cellFr g1 hS;have s_g2:=cellFr g2 hS;have s_g3:=cellFr g3 hS;have s_g4:=cellFr g4 hS;have s_g5:=cellFr g5 hS;go_simp;rfl⟩) hS0 ?_
    refine wpAnyU_take2 (i:=6) (v:=_) rfl (by kernel_rfl) (by kernel_rfl) (by kernel_rfl) (by kernel_rfl) (fun _ _ _ h=>h) (.inl ⟨by kernel_rfl,fun w' hS=>by have s_g1:=cellFr g1 hS;have s_g2:=cellFr g2 hS;have s_g3:=cellFr g3 hS;have s_g4:=cellFr g4 hS;have s_g5:=cellFr g5 hS;go_simp;rfl⟩) hS0 ?_
    refine wpAnyU_take2 (i:=7) (v:=_) rfl (by kernel_rfl) (by kernel_rfl) (by kernel_rfl) (by kernel_rfl) (fun _ _ _ h=>h) (.inl ⟨by kernel_rfl,fun w' hS=>by have s_g1:=cellFr g1 hS;have s_g2:=cellFr g2 hS;have s_g3:=cellFr g3 hS;have s_g4:=cellFr g4 hS;have s_g5:=cellFr g5 hS;go_simp;rfl⟩) hS0 ?_
    refine wpAnyU_take2 (i:=8) (v:=_) rfl (by kernel_rfl) (by kernel_rfl) (by kernel_rfl) (by kernel_rfl) (fun _ _ _ h=>h) (.inl ⟨by kernel_rfl,fun w' hS=>by have s_g1:=cellFr g1 hS;have s_g2:=cellFr g2 hS;have s_g3:=cellFr g3 hS;have s_g4:=cellFr g4 hS;have s_g5:=cellFr g5 hS;go_simp;rfl⟩) hS0 ?_
    refine wpAnyU_take2 (i:=9) (v:=_) rfl (by kernel_rfl) (by kernel_rfl) (by kernel_rfl) (by kernel_rfl) (fun _ _ _ h=>h) (.inl ⟨by kernel_rfl,fun w' hS=>by have s_g1:=cellFr g1 hS;have s_g2:=cellFr g2 hS;have s_g3:=cellFr g3 hS;have s_g4:=cellFr g4 hS;have s_g5:=cellFr g5 hS;go_simp;rfl⟩) hS0 ?_
    clear hS0
    refine wpAnyU_two7 (i:=10) (j:=12) rfl rfl (by kernel_rfl) (by kernel_rfl) (by kernel_rfl) ?_ ?_
    ·go_simp
     refine (copyR_ok D.R.rows D.A D.c w1.drew RD2.out (by omega)).mono ?_
     rintro e w4 ⟨A',c',rfl,ho,hf4⟩
     have F4:Hid (Fr none_ w1 w4):=hid_ ((Fr.refl none_ w1).drew.then_none hf4)
     have O4:=hid_ ho
     have hs4:=F4.out.size
     have hbo:w1.heap.size=w1.drew.heap.size:=rfl
     clear ho hf4
     refine ⟨F4.out,?_⟩
     refine wpAnyU_take2 (i:=11) (v:=_) rfl (by kernel_rfl) (by kernel_rfl) (by kernel_rfl) (by kernel_rfl) (fun _ _ _ h=>h) (.inl ⟨by kernel_rfl,fun w' hS=>by skip;go_simp;rfl⟩) F4.out ?_
     refine wpAnyU_one7 (i:=12) rfl (by kernel_rfl) (by kernel_rfl) ?_
     go_simp
     obtain ⟨w5,hw5⟩:∃ w5,w5=w4.alloc (.cells lwZ 101):=⟨_,rfl⟩
     have X5:Hid (Blk w5 w4.heap.size 101 lwZ):=hid_ (by rw [hw5];exact Blk.new w4 _ _)
     have F5:Hid (Fr none_ w1 w5):=hid_ (by rw [hw5];exact F4.out.alloc _)
     have O5:=hid_ (own_none O4.out (by rw [hw5];exact (Fr.refl none_ w4).alloc (.cells lwZ 101):Fr none_ w4 w5))
     rw [← hw5]
     clear hw5
     refine ⟨F5.out,?_⟩
     have s0:w5.cell? ⟨w4.heap.size,0,none⟩=some (.string nilS):=X5.out.cell' rfl
     have z0:=X5.out.frozen 0
     have s1:w5.cell? ⟨w4.heap.size,1,none⟩=some (.string nilS):=X5.out.cell' rfl
     have z1:=X5.out.frozen 1
     have s2:w5.cell? ⟨w4.heap.size,2,none⟩=some (.bool false):=X5.out.cell' rfl
     have z2:=X5.out.frozen 2
     have s3:w5.cell? ⟨w4.heap.size,3,none⟩=some (.int .i64 0):=X5.out.cell' rfl
     have z3:=X5.out.frozen 3
     have s4:w5.cell? ⟨w4.heap.size,4,none⟩=some (.slice none 0 0):=X5.out.cell' rfl
     have z4:=X5.out.frozen 4
     have s5:w5.cell? ⟨w4.heap.size,5,none⟩=some (.bool false):=X5.out.cell' rfl
     have z5:=X5.out.frozen 5
     refine wpAnyU_one7 (i:=13) rfl (by kernel_rfl) (by kernel_rfl) ?_
     go_simp
     refine wpAnyU_done (by kernel_rfl) ?_ _
     clear s0 z0 s1 z1 s2 z2 s3 z3 s4 z4 s5 z5
     obtain ⟨qb,qf⟩:=box6 X5.out (.string D.R.low) (.string D.R.high) (.bool D.R.unb) (.int .i64 D.R.right) (.slice A' D.R.rows.length c') (.bool false)
     have hvin:=lwin_of_own (b0:=w.heap.size) (V:=baseL D.R) (own_fr O5.out qf (fun k hk e=>own_blk_ne O5.out X5.out (by decide) (by rw [hk,show k=w4.heap.size from e]))) (by omega) rfl ⟨HO.out.low,HO.out.high,HDS.out.2.1⟩
     have hfr:=F5.out.then_only qf (.inr (by omega))
     have HREL:=hid_ (And.intro hvin (And.intro qb hfr))
     clear hvin qb qf hfr
     go_wp2
     go_meet
     case rel=>exact ⟨_,A',c',rfl,by omega,HREL.out.2.1,HREL.out.1,HREL.out.2.2⟩
    ·go_simp
     refine ⟨(Fr.refl none_ w1).drew.alloc _,?_⟩
     refine wpAnyU_one7 (i:=10) rfl (by kernel_rfl) (by kernel_rfl) ?_
     go_simp
     obtain ⟨w3,hw3⟩:∃ w3,w3=(w1.alloc (.cells lwZ 101)).drew:=⟨_,rfl⟩
     have f3:Fr none_ w1 w3:=by rw [hw3];exact ((Fr.refl none_ w1).alloc _).drew
     have X3:Hid (Blk w3 w1.heap.size 101 lwZ):=hid_ (by rw [hw3];exact (Blk.new w1 _ _).drew)
     have hs3:=f3.size
     rw [← hw3]
     clear hw3
     refine (copyR_ok D.R.rows D.A D.c w3 (RD2.out.none_fr f3) (by omega)).mono ?_
     rintro e w4 ⟨A',c',rfl,ho,hf4⟩
     have F4:Hid (Fr none_ w1 w4):=hid_ (f3.then_none hf4)
     have X4:=hid_ (X3.out.fr hf4 id)
     have O4:=hid_ ho
     clear ho hf4 X3 f3
     refine ⟨F4.out,?_⟩
     refine wpAnyU_take2 (i:=11) (v:=_) rfl (by kernel_rfl) (by kernel_rfl) (by kernel_rfl) (by kernel_rfl) (fun _ _ _ h=>h) (.inl ⟨by kernel_rfl,fun w' hS=>by skip;go_simp;rfl⟩) F4.out ?_
     have s0:w4.cell? ⟨w1.heap.size,0,none⟩=some (.string nilS):=X4.out.cell' rfl
     have z0:=X4.out.frozen 0
     have s1:w4.cell? ⟨w1.heap.size,1,none⟩=some (.string nilS):=X4.out.cell' rfl
     have z1:=X4.out.frozen 1
     have s2:w4.cell? ⟨w1.heap.size,2,none⟩=some (.bool false):=X4.out.cell' rfl
     have z2:=X4.out.frozen 2
     have s3:w4.cell? ⟨w1.heap.size,3,none⟩=some (.int .i64 0):=X4.out.cell' rfl
     have z3:=X4.out.frozen 3
     have s4:w4.cell? ⟨w1.heap.size,4,none⟩=some (.slice none 0 0):=X4.out.cell' rfl
     have z4:=X4.out.frozen 4
     have s5:w4.cell? ⟨w1.heap.size,5,none⟩=some (.bool false):=X4.out.cell' rfl
     have z5:=X4.out.frozen 5
     refine wpAnyU_one7 (i:=13) rfl (by kernel_rfl) (by kernel_rfl) ?_
     go_simp
     refine wpAnyU_done (by kernel_rfl) ?_ _
     clear s0 z0 s1 z1 s2 z2 s3 z3 s4 z4 s5 z5
     obtain ⟨qb,qf⟩:=box6 X4.out (.string D.R.low) (.string D.R.high) (.bool D.R.unb) (.int .i64 D.R.right) (.slice A' D.R.rows.length c') (.bool false)
     have hvin:=lwin_of_own (b0:=w.heap.size) (V:=baseL D.R) (own_fr O4.out qf (fun k hk e=>own_blk_ne O4.out X4.out (by decide) (by rw [hk,show k=w1.heap.size from e]))) (by omega) rfl ⟨HO.out.low,HO.out.high,HDS.out.2.1⟩
     have hfr:=F4.out.then_only qf (.inr (by omega))
     have HREL:=hid_ (And.intro hvin (And.intro qb hfr))
     clear hvin qb qf hfr
     go_wp2
     go_meet
     case rel=>exact ⟨_,A',c',rfl,by omega,HREL.out.2.1,HREL.out.1,HREL.out.2.2⟩
   case rest =>
    obtain ⟨X,A',c',rfl,hX,hbx,hvin,hfc⟩:=hcut
    have F3:=hid_ (F2.out.then_none hfc)
    have BO3:=hid_ (BO2.out.fr hfc id)
    have BX:=hid_ hbx
    have VI:=hid_ hvin
    have FC:=hid_ hfc
    clear hbx hvin hfc BO2 F2 RD2
    have v0:wc.cell? ⟨X,0,none⟩=some (.string (baseL D.R).low):=BX.out.cell' rfl
    have v1:wc.cell? ⟨X,1,none⟩=some (.string (baseL D.R).high):=BX.out.cell' rfl
    have v2:wc.cell? ⟨X,2,none⟩=some (.bool (baseL D.R).unb):=BX.out.cell' rfl
    have v3:wc.cell? ⟨X,3,none⟩=some (.int .i64 (baseL D.R).right):=BX.out.cell' rfl
    have v4:wc.cell? ⟨X,4,none⟩=some (.slice A' D.R.rows.length c'):=BX.out.cell' rfl
    have v5:wc.cell? ⟨X,5,none⟩=some (.bool (baseL D.R).gone):=BX.out.cell' rfl
    go_upto_region 12 with fail
    go_cut [64] (fun u wq=>∃ bb:Bool,u=.bool (!bb)∧(bb=true ↔ SoundR D.R.low D.R.high D.R.unb D.R.rows)∧Fr none_ wc wq)
    case first =>
     have HSP:Hid (∀ x:Wx wc,Calls Tryz.prog 118 #[lwV (baseL D.R) (.slice A' D.R.rows.length c')] x.to fun e w'=>e=.returned (.agg #[.string D.R.low,.string D.R.high,.bool D.R.unb])∧Fr none_ x.to w'):=hid_ (fun x=>spanL_ok (baseL D.R) _ x.to)
     by_cases hsd:SoundR D.R.low D.R.high D.R.unb D.R.rows
     ·have HSD:=hid_ hsd
      have HC:Hid (∀ x:Wx wc,Calls Tryz.prog 117 #[.slice A' D.R.rows.length c',.agg #[.string D.R.low,.string D.R.high,.bool D.R.unb]] x.to fun e w'=>e=.returned (.bool true)∧Fr none_ x.to w'):=hid_ (fun x=>(soundL_ok D.R.rows A' c' D.R.low D.R.high D.R.unb x.to (VI.out.rd.none_fr x.fr) HDS.out.2.1 HO.out.low HO.out.high).mono (by rintro e w' ⟨b,rfl,hb,hf⟩;refine ⟨?_,hf⟩;cases b;exact absurd (hb.2 hsd) (by decide);rfl))
      clear hsd
      have y0:∀ x:Wx wc,x.to.cell? ⟨X,0,none⟩=some (.string (baseL D.R).low):=fun x=>x.cell v0
      have y1:∀ x:Wx wc,x.to.cell? ⟨X,1,none⟩=some (.string (baseL D.R).high):=fun x=>x.cell v1
      have y2:∀ x:Wx wc,x.to.cell? ⟨X,2,none⟩=some (.bool (baseL D.R).unb):=fun x=>x.cell v2
      have y3:∀ x:Wx wc,x.to.cell? ⟨X,3,none⟩=some (.int .i64 (baseL D.R).right):=fun x=>x.cell v3
      have y4:∀ x:Wx wc,x.to.cell? ⟨X,4,none⟩=some (.slice A' D.R.rows.length c'):=fun x=>x.cell v4
      have y5:∀ x:Wx wc,x.to.cell? ⟨X,5,none⟩=some (.bool (baseL D.R).gone):=fun x=>x.cell v5
      clear v0 v1 v2 v3 v4 v5
      refine wp_region_quiet_x (by kernel_rfl) (by kernel_rfl) ?_
      repeat (first | go_big_quiet_step ((first | (go_at_call 118;exact Calls.quiet_x (HSP.out _)) | (go_at_call 117;exact Calls.quiet_x (HC.out _)))) | quiet_step ((first | (go_at_call 118;exact Calls.quiet_x (HSP.out _)) | (go_at_call 117;exact Calls.quiet_x (HC.out _)))))
      refine wpQuiet_nil ?_
      intro _ hw'
      obtain ⟨xq,hw''⟩:=hw'
      subst hw''
      go_wp2
      go_meet
      case rel=>exact ⟨true,rfl,⟨fun _=>HSD.out,fun _=>rfl⟩,xq.fr⟩
     ·have HSD:=hid_ hsd
      have HC:Hid (∀ x:Wx wc,Calls Tryz.prog 117 #[.slice A' D.R.rows.length c',.agg #[.string D.R.low,.string D.R.high,.bool D.R.unb]] x.to fun e w'=>e=.returned (.bool false)∧Fr none_ x.to w'):=hid_ (fun x=>(soundL_ok D.R.rows A' c' D.R.low D.R.high D.R.unb x.to (VI.out.rd.none_fr x.fr) HDS.out.2.1 HO.out.low HO.out.high).mono (by rintro e w' ⟨b,rfl,hb,hf⟩;refine ⟨?_,hf⟩;cases b;rfl;exact absurd (hb.1 rfl) hsd))
      clear hsd
      have y0:∀ x:Wx wc,x.to.cell? ⟨X,0,none⟩=some (.string (baseL D.R).low):=fun x=>x.cell v0
      have y1:∀ x:Wx wc,x.to.cell? ⟨X,1,none⟩=some (.string (baseL D.R).high):=fun x=>x.cell v1
      have y2:∀ x:Wx wc,x.to.cell? ⟨X,2,none⟩=some (.bool (baseL D.R).unb):=fun x=>x.cell v2
      have y3:∀ x:Wx wc,x.to.cell? ⟨X,3,none⟩=some (.int .i64 (baseL D.R).right):=fun x=>x.cell v3
      have y4:∀ x:Wx wc,x.to.cell? ⟨X,4,none⟩=some (.slice A' D.R.rows.length c'):=fun x=>x.cell v4
      have y5:∀ x:Wx wc,x.to.cell? ⟨X,5,none⟩=some (.bool (baseL D.R).gone):=fun x=>x.cell v5
      clear v0 v1 v2 v3 v4 v5
      refine wp_region_quiet_x (by kernel_rfl) (by kernel_rfl) ?_
      repeat (first | go_big_quiet_step ((first | (go_at_call 118;exact Calls.quiet_x (HSP.out _)) | (go_at_call 117;exact Calls.quiet_x (HC.out _)))) | quiet_step ((first | (go_at_call 118;exact Calls.quiet_x (HSP.out _)) | (go_at_call 117;exact Calls.quiet_x (HC.out _)))))
      refine wpQuiet_nil ?_
      intro _ hw'
      obtain ⟨xq,hw''⟩:=hw'
      subst hw''
      go_wp2
      go_meet
      case rel=>exact ⟨false,rfl,⟨(fun h=>by cases h),fun h=>absurd h HSD.out⟩,xq.fr⟩
    case rest =>
    obtain ⟨bb,rfl,hbb,hf2⟩:=hcut
    obtain ⟨w2,rfl⟩:∃ z:World,z=wc:=⟨_,rfl⟩
    have HB:=hid_ hbb
    have BX2:=hid_ (BX.out.fr hf2 id)
    have VI2:=hid_ (VI.out.keep hf2)
    have F9:=hid_ (F3.out.then_none hf2)
    have BO9:=hid_ (BO3.out.fr hf2 id)
    clear hbb hf2 BX VI F3 BO3 FC v0 v1 v2 v3 v4 v5
    have s0:w2.cell? ⟨w.heap.size,0,none⟩=some (.string nilS):=BO9.out.cell' rfl
    have z0:=BO9.out.frozen 0
    have s1:w2.cell? ⟨w.heap.size,1,none⟩=some (.string nilS):=BO9.out.cell' rfl
    have z1:=BO9.out.frozen 1
    have s2:w2.cell? ⟨w.heap.size,2,none⟩=some (.bool false):=BO9.out.cell' rfl
    have z2:=BO9.out.frozen 2
    have s3:w2.cell? ⟨w.heap.size,3,none⟩=some (.int .i64 0):=BO9.out.cell' rfl
    have z3:=BO9.out.frozen 3
    have s4:w2.cell? ⟨w.heap.size,4,none⟩=some (.slice none 0 0):=BO9.out.cell' rfl
    have z4:=BO9.out.frozen 4
    have s5:w2.cell? ⟨w.heap.size,5,none⟩=some (.bool false):=BO9.out.cell' rfl
    have z5:=BO9.out.frozen 5
    cases bb with
    | false =>
     have hno:foldL (L.map (·.R))=none:=by
      have:=foldL_none (l:=L.map (·.R)) (j:=m) (by rw [List.length_map];omega) (by rw [HLD.out];exact foldL_one_no _ (fun h=>by have:=HB.out.2 h.2;cases this)) 0 (Nat.zero_le _)
      simpa using this
     have HNO:=hid_ hno
     clear hno
     go_wp2_with fail
     clear s0 z0 s1 z1 s2 z2 s3 z3 s4 z4 s5 z5
     obtain ⟨qb,qf⟩:=box6 BO9.out (.string nilS) (.string nilS) (.bool false) (.int .i64 0) (.slice none 0 0) (.bool false)
     have q0:=qb.cell' (i:=0) rfl
     have q1:=qb.cell' (i:=1) rfl
     have q2:=qb.cell' (i:=2) rfl
     have q3:=qb.cell' (i:=3) rfl
     have q4:=qb.cell' (i:=4) rfl
     have q5:=qb.cell' (i:=5) rfl
     refine bodyPost_ret (v:=.tuple #[lwV Lw.zero (.slice none 0 0),errV 10]) ?_ rfl (.inr ⟨10,.inr ⟨rfl,HK.out,HNO.out⟩,rfl,F9.out.then_only qf (.inr (Nat.le_refl _))⟩)
     simp [results,Tryz.results109,go_sem,Lw.zero,q0,q1,q2,q3,q4,q5]
    | true =>
     have hst:FoldStL w L X m (baseL D.R) A' c' w2:=⟨by rw [List.map_drop,HLD.out];exact foldL_one D.R H7.out (HB.out.1 (by simp)),BX2.out,BO9.out,VI2.out,by show D.R.rows.length≤_;omega,F9.out⟩
     have ST:=hid_ hst
     clear hst
     go_wp2_with fail
     clear s0 z0 s1 z1 s2 z2 s3 z3 s4 z4 s5 z5
     go_loopw [9] (fun i wr=>∃ (k:Nat) (V:Lw) (A:Option Addr) (c:Nat),k≤m∧i=.int .i64 ((k:Int) - 1)∧FoldStL w L X k V A c wr) (fun i _=>(intOf i+1).toNat)
     case atStart=>exact ⟨m,_,_,_,Nat.le_refl _,rfl,ST.out⟩
     case round =>
      obtain ⟨k,V,A2,c2,hk,rfl,hst⟩:=hrel
      have S2:=hid_ hst
      clear hst
      have v0:wr.cell? ⟨X,0,none⟩=some (.string V.low):=S2.out.bx.cell' rfl
      have v1:wr.cell? ⟨X,1,none⟩=some (.string V.high):=S2.out.bx.cell' rfl
      have v2:wr.cell? ⟨X,2,none⟩=some (.bool V.unb):=S2.out.bx.cell' rfl
      have v3:wr.cell? ⟨X,3,none⟩=some (.int .i64 V.right):=S2.out.bx.cell' rfl
      have v4:wr.cell? ⟨X,4,none⟩=some (.slice A2 V.rows.length c2):=S2.out.bx.cell' rfl
      have v5:wr.cell? ⟨X,5,none⟩=some (.bool V.gone):=S2.out.bx.cell' rfl
      have s0:wr.cell? ⟨w.heap.size,0,none⟩=some (.string nilS):=S2.out.bo.cell' rfl
      have z0:=S2.out.bo.frozen 0
      have s1:wr.cell? ⟨w.heap.size,1,none⟩=some (.string nilS):=S2.out.bo.cell' rfl
      have z1:=S2.out.bo.frozen 1
      have s2:wr.cell? ⟨w.heap.size,2,none⟩=some (.bool false):=S2.out.bo.cell' rfl
      have z2:=S2.out.bo.frozen 2
      have s3:wr.cell? ⟨w.heap.size,3,none⟩=some (.int .i64 0):=S2.out.bo.cell' rfl
      have z3:=S2.out.bo.frozen 3
      have s4:wr.cell? ⟨w.heap.size,4,none⟩=some (.slice none 0 0):=S2.out.bo.cell' rfl
      have z4:=S2.out.bo.frozen 4
      have s5:wr.cell? ⟨w.heap.size,5,none⟩=some (.bool false):=S2.out.bo.cell' rfl
      have z5:=S2.out.bo.frozen 5
      by_cases hk0:k=0
      ·have hfo:foldL (L.map (·.R))=some V:=by have:=S2.out.fo;rw [hk0] at this;exact this
       have HFO:=hid_ hfo
       subst hk0
       clear hfo
       go_wp2_with fail
       clear s0 z0 s1 z1 s2 z2 s3 z3 s4 z4 s5 z5 v0 v1 v2 v3 v4 v5
       obtain ⟨qb,qf⟩:=box6 S2.out.bo (.string V.low) (.string V.high) (.bool V.unb) (.int .i64 V.right) (.slice A2 V.rows.length c2) (.bool V.gone)
       have q0:=qb.cell' (i:=0) rfl
       have q1:=qb.cell' (i:=1) rfl
       have q2:=qb.cell' (i:=2) rfl
       have q3:=qb.cell' (i:=3) rfl
       have q4:=qb.cell' (i:=4) rfl
       have q5:=qb.cell' (i:=5) rfl
       refine bodyPost_ret (v:=.tuple #[lwV V (.slice A2 V.rows.length c2),.nilIface]) ?_ rfl (.inl ⟨V,A2,c2,HK.out,HFO.out,rfl,S2.out.vin.far S2.out.bo (by decide) qf,S2.out.fr.then_only qf (.inr (Nat.le_refl _))⟩)
       simp [results,Tryz.results109,go_sem,q0,q1,q2,q3,q4,q5]
      ·obtain ⟨j,rfl⟩:∃ j,k=j+1:=⟨k - 1,by omega⟩
       have hjm:j < m:=by omega
       obtain ⟨C,hC⟩:∃ C,L[j]?=some C:=⟨_,List.getElem?_eq_getElem (by omega)⟩
       obtain ⟨b2,off2,hA,hb2,hR2,hO2⟩:=(H.out.keep S2.out.fr).at_ hC
       obtain ⟨rfl,rfl⟩:b=b2∧off=off2:=by injection hA with hA;injection hA with e1 e2;exact ⟨e1,e2⟩
       have HR2:=hid_ hR2
       have HO2:=hid_ hO2
       have HCS:=hid_ (HS.out C (List.mem_of_getElem? hC))
       have hdr:(L.map (·.R)).drop j=C.R :: (L.map (·.R)).drop (j+1):=by
        rw [List.drop_eq_getElem_cons (by rw [List.length_map];omega)]
        congr 1
        rw [List.getElem_map]
        have:=(List.getElem?_eq_some_iff.1 hC).2
        rw [this]
       have hfo:foldL ((L.map (·.R)).drop j)=upL V C.R:=by
        rw [hdr,foldL_cons _ (fun e=>by have:=congrArg List.length e;rw [List.length_drop,List.length_map,List.length_nil] at this;omega),← List.map_drop,S2.out.fo]
        rfl
       have HFO:=hid_ hfo
       have hi0':(0:Int)≤(j:Int):=Int.natCast_nonneg _
       have hi1':(j:Int) < ((m+1:Nat):Int):=by omega
       have hi2':(j:Int) < (m:Int)+1:=by omega
       have hji:((j+1:Nat):Int) - 1=(j:Int):=by omega
       have hwj:IntKind.i64.wrap ((j:Int) - 1)=(j:Int) - 1:=IntWalk.i64_in _ (by omega)
       have hge:decide ((0:Int)≤(j:Int))=true:=by simp
       rw [hji]
       clear hA hR2 hO2 hC hdr hfo hji hk0
       go_upto_region 18 with fail
       go_cut [10] (fun v wq=>∃ bb:Bool,v=.bool bb∧FoldCutL w L X j bb wq)
       case rest =>
        obtain ⟨bb,rfl,hbb⟩:=hcut
        have HBB:=hid_ hbb
        clear hbb s0 z0 s1 z1 s2 z2 s3 z3 s4 z4 s5 z5 v0 v1 v2 v3 v4 v5
        cases bb with
        | false =>
         obtain ⟨-,hno,hbo,hfw⟩:=HBB.out.resolve_left (fun h=>by cases h.1)
         have hno':foldL (L.map (·.R))=none:=by
          have:=foldL_none (l:=L.map (·.R)) (j:=j) (by rw [List.length_map];omega) (by rw [← List.map_drop];exact hno) 0 (Nat.zero_le _)
          simpa using this
         have HNO:=hid_ hno'
         have BO5:=hid_ hbo
         have F5:=hid_ hfw
         clear hno hno' hbo hfw
         have s0:wc.cell? ⟨w.heap.size,0,none⟩=some (.string nilS):=BO5.out.cell' rfl
         have z0:=BO5.out.frozen 0
         have s1:wc.cell? ⟨w.heap.size,1,none⟩=some (.string nilS):=BO5.out.cell' rfl
         have z1:=BO5.out.frozen 1
         have s2:wc.cell? ⟨w.heap.size,2,none⟩=some (.bool false):=BO5.out.cell' rfl
         have z2:=BO5.out.frozen 2
         have s3:wc.cell? ⟨w.heap.size,3,none⟩=some (.int .i64 0):=BO5.out.cell' rfl
         have z3:=BO5.out.frozen 3
         have s4:wc.cell? ⟨w.heap.size,4,none⟩=some (.slice none 0 0):=BO5.out.cell' rfl
         have z4:=BO5.out.frozen 4
         have s5:wc.cell? ⟨w.heap.size,5,none⟩=some (.bool false):=BO5.out.cell' rfl
         have z5:=BO5.out.frozen 5
         go_wp2_with fail
         clear s0 z0 s1 z1 s2 z2 s3 z3 s4 z4 s5 z5
         obtain ⟨qb,qf⟩:=box6 BO5.out (.string nilS) (.string nilS) (.bool false) (.int .i64 0) (.slice none 0 0) (.bool false)
         have q0:=qb.cell' (i:=0) rfl
         have q1:=qb.cell' (i:=1) rfl
         have q2:=qb.cell' (i:=2) rfl
         have q3:=qb.cell' (i:=3) rfl
         have q4:=qb.cell' (i:=4) rfl
         have q5:=qb.cell' (i:=5) rfl
         refine bodyPost_ret (v:=.tuple #[lwV Lw.zero (.slice none 0 0),errV 10]) ?_ rfl (.inr ⟨10,.inr ⟨rfl,HK.out,HNO.out⟩,rfl,F5.out.then_only qf (.inr (Nat.le_refl _))⟩)
         simp [results,Tryz.results109,go_sem,Lw.zero,q0,q1,q2,q3,q4,q5]
        | true =>
         obtain ⟨-,V',A4,c4,hst'⟩:=HBB.out.resolve_right (fun h=>by cases h.1)
         have ST':=hid_ hst'
         clear hst'
         go_wp2_with fail
         go_roundw
         case rel=>exact ⟨j,V',A4,c4,by omega,rfl,ST'.out⟩
         case measure=>simp [intOf]
       case first =>
        clear s0 z0 s1 z1 s2 z2 s3 z3 s4 z4 s5 z5
        have hS0:(fun w':World=>Fr none_ wr w') wr.drew:=(Fr.refl none_ wr).drew
        refine wp_region_U (m:=7) (S:=fun w':World=>Fr none_ wr w') (by kernel_rfl) ?_
        refine wpAnyU_take2 (i:=0) (v:=_) rfl (by kernel_rfl) (by kernel_rfl) (by kernel_rfl) (by kernel_rfl) (fun _ _ _ h=>h) (.inl ⟨by kernel_rfl,fun w' hS=>by have s_v0:=cellFr v0 hS;have s_v1:=cellFr v1 hS;have s_v2:=cellFr v2 hS;have s_v3:=cellFr v3 hS;have s_v4:=cellFr v4 hS;have s_v5:=cellFr v5 hS;go_simp;rfl⟩) hS0 ?_
        refine wpAnyU_take2 (i:=1) (v:=_) rfl (by kernel_rfl) (by kernel_rfl) (by kernel_rfl) (by kernel_rfl) (fun _ _ _ h=>h) (.inl ⟨by kernel_rfl,fun w' hS=>by have s_v0:=cellFr v0 hS;have s_v1:=cellFr v1 hS;have s_v2:=cellFr v2 hS;have s_v3:=cellFr v3 hS;have s_v4:=cellFr v4 hS;have s_v5:=cellFr v5 hS;go_simp;rfl⟩) hS0 ?_
        refine wpAnyU_take2 (i:=2) (v:=_) rfl (by kernel_rfl) (by kernel_rfl) (by kernel_rfl) (by kernel_rfl) (fun _ _ _ h=>h) (.inl ⟨by kernel_rfl,fun w' hS=>by have s_v0:=cellFr v0 hS;have s_v1:=cellFr v1 hS;have s_v2:=cellFr v2 hS;have s_v3:=cellFr v3 hS;have s_v4:=cellFr v4 hS;have s_v5:=cellFr v5 hS;go_simp;rfl⟩) hS0 ?_
        refine wpAnyU_take2 (i:=3) (v:=_) rfl (by kernel_rfl) (by kernel_rfl) (by kernel_rfl) (by kernel_rfl) (fun _ _ _ h=>h) (.inl ⟨by kernel_rfl,fun w' hS=>by have s_v0:=cellFr v0 hS;have s_v1:=cellFr v1 hS;have s_v2:=cellFr v2 hS;have s_v3:=cellFr v3 hS;have s_v4:=cellFr v4 hS;have s_v5:=cellFr v5 hS;go_simp;rfl⟩) hS0 ?_
        refine wpAnyU_take2 (i:=4) (v:=_) rfl (by kernel_rfl) (by kernel_rfl) (by kernel_rfl) (by kernel_rfl) (fun _ _ _ h=>h) (yieldsIf_load_mid (by kernel_rfl) 51 (.tmp 77) rfl b (off+j * 15) rfl (recL C) _ (fun w' hS i v hv=>cellFr (HR2.out i v hv) hS) Tryz.underlying51 rfl rec_size8) hS0 ?_
        clear hS0 v0 v1 v2 v3 v4 v5
        refine wpAnyU_one7 (i:=5) rfl (by kernel_rfl) (by kernel_rfl) ?_
        go_simp
        have hf0:Fr none_ wr wr.drew:=(Fr.refl none_ wr).drew
        have hle:=S2.out.len
        have hCs:=HCS.out.2.2
        have hlb:(L.length - (j+1)) * 501≤400 * 501:=Nat.mul_le_mul_right _ (by omega)
        have hl2:(L.length - j) * 501=(L.length - (j+1)) * 501+501:=by rw [show L.length - j=(L.length - (j+1))+1 by omega,Nat.add_mul]
        refine (upl_ok w.heap.size V C.R A2 c2 C.A C.c _ wr.drew (S2.out.vin.keep hf0) (by have:=S2.out.fr.size;exact this) (by omega) (HO2.out.rd.r.none_fr hf0) ⟨HO2.out.key,HO2.out.high,HCS.out.1,HCS.out.2.1⟩ (by omega)).mono ?_
        rintro e w4 (⟨V',A4,c4,hup,rfl,hvin,hf4⟩ | ⟨hup,V',A4,n4,c4,rfl,hf4⟩)
        ·have FW:Hid (Fr none_ wr w4):=hid_ (hf0.then_none hf4)
         have BX4:=hid_ (S2.out.bx.fr FW.out id)
         have BO4:=hid_ (S2.out.bo.fr FW.out id)
         have F4:=hid_ (S2.out.fr.then_none FW.out)
         have HUP:=hid_ hup
         have VI4:=hid_ hvin
         have hlen:=upL_len hup
         have hlen':V'.rows.length≤(L.length - j) * 501:=by omega
         clear hvin hup hf4
         refine ⟨FW.out,?_⟩
         refine wpAnyU_take2 (i:=6) (v:=_) rfl (by kernel_rfl) (by kernel_rfl) (by kernel_rfl) (by kernel_rfl) (fun _ _ _ h=>h) (.inl ⟨by kernel_rfl,fun w' hS=>by skip;go_simp;rfl⟩) FW.out ?_
         have HST:Hid (∀ w6,Blk w6 X 101 (lwA V' (.slice A4 V'.rows.length c4))∧Fr (only X) w4 w6→FoldStL w L X j V' A4 c4 w6):=hid_ (fun w6 h6=>⟨by rw [List.map_drop,HFO.out,HUP.out],h6.1,BO4.out.fr h6.2 (only_ne (by omega)),VI4.out.far BX4.out (by decide) h6.2,hlen',F4.out.then_only h6.2 (.inr (by omega))⟩)
         refine wpAnyU_two7 (i:=7) (j:=8) rfl rfl (by kernel_rfl) (by kernel_rfl) (by kernel_rfl) ?_ ?_
         ·go_simp
          refine wpAnyU_two7 (i:=8) (j:=9) rfl rfl (by kernel_rfl) (by kernel_rfl) (by kernel_rfl) ?_ ?_
          ·skip
           have s0:w4.cell? ⟨X,0,none⟩=some (.string V.low):=BX4.out.cell' rfl
           have z0:=BX4.out.frozen 0
           have s1:w4.cell? ⟨X,1,none⟩=some (.string V.high):=BX4.out.cell' rfl
           have z1:=BX4.out.frozen 1
           have s2:w4.cell? ⟨X,2,none⟩=some (.bool V.unb):=BX4.out.cell' rfl
           have z2:=BX4.out.frozen 2
           have s3:w4.cell? ⟨X,3,none⟩=some (.int .i64 V.right):=BX4.out.cell' rfl
           have z3:=BX4.out.frozen 3
           have s4:w4.cell? ⟨X,4,none⟩=some (.slice A2 V.rows.length c2):=BX4.out.cell' rfl
           have z4:=BX4.out.frozen 4
           have s5:w4.cell? ⟨X,5,none⟩=some (.bool V.gone):=BX4.out.cell' rfl
           have z5:=BX4.out.frozen 5
           go_simp
           refine wpAnyU_one7 (i:=9) rfl (by kernel_rfl) (by kernel_rfl) ?_
           go_simp
           clear s0 z0 s1 z1 s2 z2 s3 z3 s4 z4 s5 z5
           have h6:=hid_ (HST.out _ (box6 BX4.out (.string V'.low) (.string V'.high) (.bool V'.unb) (.int .i64 V'.right) (.slice A4 V'.rows.length c4) (.bool V'.gone)))
           refine wpAnyU_one7 (i:=10) rfl (by kernel_rfl) (by kernel_rfl) ?_
           go_simp
           refine wpAnyU_done (by kernel_rfl) ?_ _
           go_wp2
           go_meet
           case rel=>exact ⟨true,rfl,.inl ⟨rfl,V',A4,c4,h6.out⟩⟩
          ·skip
           have s0:w4.cell? ⟨X,0,none⟩=some (.string V.low):=BX4.out.cell' rfl
           have z0:=BX4.out.frozen 0
           have s1:w4.cell? ⟨X,1,none⟩=some (.string V.high):=BX4.out.cell' rfl
           have z1:=BX4.out.frozen 1
           have s2:w4.cell? ⟨X,2,none⟩=some (.bool V.unb):=BX4.out.cell' rfl
           have z2:=BX4.out.frozen 2
           have s3:w4.cell? ⟨X,3,none⟩=some (.int .i64 V.right):=BX4.out.cell' rfl
           have z3:=BX4.out.frozen 3
           have s4:w4.cell? ⟨X,4,none⟩=some (.slice A2 V.rows.length c2):=BX4.out.cell' rfl
           have z4:=BX4.out.frozen 4
           have s5:w4.cell? ⟨X,5,none⟩=some (.bool V.gone):=BX4.out.cell' rfl
           have z5:=BX4.out.frozen 5
           go_simp
           clear s0 z0 s1 z1 s2 z2 s3 z3 s4 z4 s5 z5
           have h6:=hid_ (HST.out _ (box6 BX4.out (.string V'.low) (.string V'.high) (.bool V'.unb) (.int .i64 V'.right) (.slice A4 V'.rows.length c4) (.bool V'.gone)))
           refine wpAnyU_one7 (i:=8) rfl (by kernel_rfl) (by kernel_rfl) ?_
           go_simp
           refine wpAnyU_one7 (i:=10) rfl (by kernel_rfl) (by kernel_rfl) ?_
           go_simp
           refine wpAnyU_done (by kernel_rfl) ?_ _
           go_wp2
           go_meet
           case rel=>exact ⟨true,rfl,.inl ⟨rfl,V',A4,c4,h6.out⟩⟩
         ·skip
          have s0:w4.cell? ⟨X,0,none⟩=some (.string V.low):=BX4.out.cell' rfl
          have z0:=BX4.out.frozen 0
          have s1:w4.cell? ⟨X,1,none⟩=some (.string V.high):=BX4.out.cell' rfl
          have z1:=BX4.out.frozen 1
          have s2:w4.cell? ⟨X,2,none⟩=some (.bool V.unb):=BX4.out.cell' rfl
          have z2:=BX4.out.frozen 2
          have s3:w4.cell? ⟨X,3,none⟩=some (.int .i64 V.right):=BX4.out.cell' rfl
          have z3:=BX4.out.frozen 3
          have s4:w4.cell? ⟨X,4,none⟩=some (.slice A2 V.rows.length c2):=BX4.out.cell' rfl
          have z4:=BX4.out.frozen 4
          have s5:w4.cell? ⟨X,5,none⟩=some (.bool V.gone):=BX4.out.cell' rfl
          have z5:=BX4.out.frozen 5
          go_simp
          refine wpAnyU_one7 (i:=7) rfl (by kernel_rfl) (by kernel_rfl) ?_
          go_simp
          refine wpAnyU_one7 (i:=9) rfl (by kernel_rfl) (by kernel_rfl) ?_
          go_simp
          clear s0 z0 s1 z1 s2 z2 s3 z3 s4 z4 s5 z5
          have h6:=hid_ (HST.out _ (box6 BX4.out (.string V'.low) (.string V'.high) (.bool V'.unb) (.int .i64 V'.right) (.slice A4 V'.rows.length c4) (.bool V'.gone)))
          refine wpAnyU_one7 (i:=10) rfl (by kernel_rfl) (by kernel_rfl) ?_
          go_simp
          refine wpAnyU_done (by kernel_rfl) ?_ _
          go_wp2
          go_meet
          case rel=>exact ⟨true,rfl,.inl ⟨rfl,V',A4,c4,h6.out⟩⟩
        ·have FW:Hid (Fr none_ wr w4):=hid_ (hf0.then_none hf4)
         have BX4:=hid_ (S2.out.bx.fr FW.out id)
         have BO4:=hid_ (S2.out.bo.fr FW.out id)
         have F4:=hid_ (S2.out.fr.then_none FW.out)
         have HUP:=hid_ hup
         clear hup hf4
         refine ⟨FW.out,?_⟩
         refine wpAnyU_take2 (i:=6) (v:=_) rfl (by kernel_rfl) (by kernel_rfl) (by kernel_rfl) (by kernel_rfl) (fun _ _ _ h=>h) (.inl ⟨by kernel_rfl,fun w' hS=>by skip;go_simp;rfl⟩) FW.out ?_
         have HST:Hid (∀ w6,Blk w6 X 101 (lwA V' (.slice A4 n4 c4))∧Fr (only X) w4 w6→foldL ((L.drop j).map (·.R))=none∧Blk w6 w.heap.size 101 lwZ∧Fr none_ w w6):=hid_ (fun w6 h6=>⟨by rw [List.map_drop,HFO.out,HUP.out],BO4.out.fr h6.2 (only_ne (by omega)),F4.out.then_only h6.2 (.inr (by omega))⟩)
         refine wpAnyU_two7 (i:=7) (j:=8) rfl rfl (by kernel_rfl) (by kernel_rfl) (by kernel_rfl) ?_ ?_
         ·go_simp
          refine wpAnyU_two7 (i:=8) (j:=9) rfl rfl (by kernel_rfl) (by kernel_rfl) (by kernel_rfl) ?_ ?_
          ·skip
           have s0:w4.cell? ⟨X,0,none⟩=some (.string V.low):=BX4.out.cell' rfl
           have z0:=BX4.out.frozen 0
           have s1:w4.cell? ⟨X,1,none⟩=some (.string V.high):=BX4.out.cell' rfl
           have z1:=BX4.out.frozen 1
           have s2:w4.cell? ⟨X,2,none⟩=some (.bool V.unb):=BX4.out.cell' rfl
           have z2:=BX4.out.frozen 2
           have s3:w4.cell? ⟨X,3,none⟩=some (.int .i64 V.right):=BX4.out.cell' rfl
           have z3:=BX4.out.frozen 3
           have s4:w4.cell? ⟨X,4,none⟩=some (.slice A2 V.rows.length c2):=BX4.out.cell' rfl
           have z4:=BX4.out.frozen 4
           have s5:w4.cell? ⟨X,5,none⟩=some (.bool V.gone):=BX4.out.cell' rfl
           have z5:=BX4.out.frozen 5
           go_simp
           refine wpAnyU_one7 (i:=9) rfl (by kernel_rfl) (by kernel_rfl) ?_
           go_simp
           clear s0 z0 s1 z1 s2 z2 s3 z3 s4 z4 s5 z5
           have h6:=hid_ (HST.out _ (box6 BX4.out (.string V'.low) (.string V'.high) (.bool V'.unb) (.int .i64 V'.right) (.slice A4 n4 c4) (.bool V'.gone)))
           refine wpAnyU_one7 (i:=10) rfl (by kernel_rfl) (by kernel_rfl) ?_
           go_simp
           refine wpAnyU_done (by kernel_rfl) ?_ _
           go_wp2
           go_meet
           case rel=>exact ⟨false,rfl,.inr ⟨rfl,h6.out⟩⟩
          ·skip
           have s0:w4.cell? ⟨X,0,none⟩=some (.string V.low):=BX4.out.cell' rfl
           have z0:=BX4.out.frozen 0
           have s1:w4.cell? ⟨X,1,none⟩=some (.string V.high):=BX4.out.cell' rfl
           have z1:=BX4.out.frozen 1
           have s2:w4.cell? ⟨X,2,none⟩=some (.bool V.unb):=BX4.out.cell' rfl
           have z2:=BX4.out.frozen 2
           have s3:w4.cell? ⟨X,3,none⟩=some (.int .i64 V.right):=BX4.out.cell' rfl
           have z3:=BX4.out.frozen 3
           have s4:w4.cell? ⟨X,4,none⟩=some (.slice A2 V.rows.length c2):=BX4.out.cell' rfl
           have z4:=BX4.out.frozen 4
           have s5:w4.cell? ⟨X,5,none⟩=some (.bool V.gone):=BX4.out.cell' rfl
           have z5:=BX4.out.frozen 5
           go_simp
           clear s0 z0 s1 z1 s2 z2 s3 z3 s4 z4 s5 z5
           have h6:=hid_ (HST.out _ (box6 BX4.out (.string V'.low) (.string V'.high) (.bool V'.unb) (.int .i64 V'.right) (.slice A4 n4 c4) (.bool V'.gone)))
           refine wpAnyU_one7 (i:=8) rfl (by kernel_rfl) (by kernel_rfl) ?_
           go_simp
           refine wpAnyU_one7 (i:=10) rfl (by kernel_rfl) (by kernel_rfl) ?_
           go_simp
           refine wpAnyU_done (by kernel_rfl) ?_ _
           go_wp2
           go_meet
           case rel=>exact ⟨false,rfl,.inr ⟨rfl,h6.out⟩⟩
         ·skip
          have s0:w4.cell? ⟨X,0,none⟩=some (.string V.low):=BX4.out.cell' rfl
          have z0:=BX4.out.frozen 0
          have s1:w4.cell? ⟨X,1,none⟩=some (.string V.high):=BX4.out.cell' rfl
          have z1:=BX4.out.frozen 1
          have s2:w4.cell? ⟨X,2,none⟩=some (.bool V.unb):=BX4.out.cell' rfl
          have z2:=BX4.out.frozen 2
          have s3:w4.cell? ⟨X,3,none⟩=some (.int .i64 V.right):=BX4.out.cell' rfl
          have z3:=BX4.out.frozen 3
          have s4:w4.cell? ⟨X,4,none⟩=some (.slice A2 V.rows.length c2):=BX4.out.cell' rfl
          have z4:=BX4.out.frozen 4
          have s5:w4.cell? ⟨X,5,none⟩=some (.bool V.gone):=BX4.out.cell' rfl
          have z5:=BX4.out.frozen 5
          go_simp
          refine wpAnyU_one7 (i:=7) rfl (by kernel_rfl) (by kernel_rfl) ?_
          go_simp
          refine wpAnyU_one7 (i:=9) rfl (by kernel_rfl) (by kernel_rfl) ?_
          go_simp
          clear s0 z0 s1 z1 s2 z2 s3 z3 s4 z4 s5 z5
          have h6:=hid_ (HST.out _ (box6 BX4.out (.string V'.low) (.string V'.high) (.bool V'.unb) (.int .i64 V'.right) (.slice A4 n4 c4) (.bool V'.gone)))
          refine wpAnyU_one7 (i:=10) rfl (by kernel_rfl) (by kernel_rfl) ?_
          go_simp
          refine wpAnyU_done (by kernel_rfl) ?_ _
          go_wp2
          go_meet
          case rel=>exact ⟨false,rfl,.inr ⟨rfl,h6.out⟩⟩
end Go.Proofs.YthpkbppaaagaoaaGreat

/- Texts of one proof, merged: Rfu8. -/
import Derived.Test.YthpkbppaaagaoaaGreatMhB
import Derived.Test.YthpkbppaaagaoaaGreatMhW
import Derived.Test.YthpkbppaaagaoaaGreatMhV
import Derived.Test.YthpkbppaaagaoaaGreatMhX
namespace Go.Proofs.YthpkbppaaagaoaaGreat
open Go.RowKit Go.BigFrame
set_option maxRecDepth 100000
set_option linter.unusedVariables false

theorem VwIn.far8 {w w':World} {V V0:Vw} {A:Option Addr} {c X:Nat} {ve:Value} (h:VwIn w V A c) (hX:Blk w X 116 (vwA V0 ve)) (hf:Fr (only X) w w'):VwIn w' V A c:=by
  refine ⟨?_,h.cap,h.capm,h.ok⟩
  rcases Nat.eq_zero_or_pos V.ents.length with h0 | h0
  · exact ⟨h.rd.1,fun hn=>absurd hn (by omega)⟩
  · obtain ⟨p,hp⟩:∃ p,V.ents[0]?=some p:=⟨_,List.getElem?_eq_getElem h0⟩
    obtain ⟨b,off,rfl,hb,c0,c1⟩:=et_at h.rd hp
    refine h.rd.fr hf (fun ad e=>?_)
    cases e
    intro e
    have e':b=X:=e
    subst e'
    rw [hX.cell] at c0 c1
    simp only [Nat.zero_mul,Nat.add_zero] at c0 c1
    match off,c0,c1 with
    | 0,c0,c1=>simp at c1
    | 1,c0,c1=>simp at c1
    | 2,c0,c1=>simp at c0
    | 3,c0,c1=>simp at c0
    | 4,c0,c1 =>
      have e:ve=.string p.1:=by simpa using c0
      simp at c1
    | 5,c0,c1=>simp at c0
    | 6,c0,c1=>simp at c0
    | 7,c0,c1=>simp at c0
    | 8,c0,c1=>simp at c1
    | k+9,c0,c1=>simp at c0
theorem rvw_size8:(Tryz.prog.info? 116).map (·.size)=some 9:=by kernel_rfl
abbrev vwZ8:Array Value:=#[.string ⟨#[]⟩,.string ⟨#[]⟩,.bool false,.int .i64 0,.slice none 0 0,.bool false,.int .i64 0,.int .i64 0,.string ⟨#[]⟩]
structure RFoldStU (w:World) (L:List Ch) (X k:Nat) (V:Vw) (A:Option Addr) (c:Nat) (wr:World):Prop where
  fo:foldU ((L.drop k).map (·.R))=some V
  bx:Blk wr X 116 (vwA V (.slice A V.ents.length c))
  bo:Blk wr w.heap.size 116 vwZ8
  vin:VwIn wr V A c
  len:V.ents.length≤500+(L.length - k)
  fr:Fr none_ w wr
theorem RFoldStU.keep {w wr w':World} {L:List Ch} {X k:Nat} {V:Vw} {A:Option Addr} {c:Nat} (h:RFoldStU w L X k V A c wr) (hf:Fr none_ wr w'):RFoldStU w L X k V A c w':=
  ⟨h.fo,h.bx.fr hf id,h.bo.fr hf id,h.vin.keep hf,h.len,h.fr.then_none hf⟩
def RFoldCutU (w:World) (L:List Ch) (X k:Nat) (bb:Bool) (wr:World):Prop:=
  (bb=true∧∃ (V:Vw) (A:Option Addr) (c:Nat),RFoldStU w L X k V A c wr)∨(bb=false∧foldU ((L.drop k).map (·.R))=none∧Blk wr w.heap.size 116 vwZ8∧Fr none_ w wr)
def RFoldPostU (l:List Rc) (w:World) (e:Ending) (w':World):Prop:=
  (∃ V A c,(∀ R ∈ l,KindOk R)∧foldU l=some V∧e=.returned (.tuple #[vwV V (.slice A V.ents.length c),.int .i64 0])∧VwIn w' V A c∧Fr none_ w w') ∨
  (∃ k:Int,((k=9∧∃ R ∈ l,¬ KindOk R)∨(k=10∧(∀ R ∈ l,KindOk R)∧foldU l=none))∧e=.returned (.tuple #[vwV Vw.zero (.slice none 0 0),.int .i64 k])∧Fr none_ w w')
def UpOkU (V:Vw) (R:Rc) (V':Vw) (bb:Bool):Prop:=upM V R=if bb=true then some V' else none
theorem foldU_at {l:List Rc} {k:Nat} {R:Rc} (hR:l[k]?=some R) (hk:k+1 < l.length):foldU (l.drop k)=(foldU (l.drop (k+1))).bind fun V=>upM V R:=by
  obtain ⟨h,rfl⟩:=List.getElem?_eq_some_iff.1 hR
  rw [List.drop_eq_getElem_cons h,foldU_cons _ (by intro e;have:=congrArg List.length e;simp at this;omega)]
theorem foldU_noK {l:List Rc} {k:Nat} (hk:k < l.length) (h:foldU (l.drop k)=none):foldU l=none:=by simpa using foldU_none hk h 0 (Nat.zero_le _)
theorem foldU_up {w wr:World} {L:List Ch} {X j:Nat} {C:Ch} {V:Vw} {A:Option Addr} {c:Nat} (h:RFoldStU w L X (j+1) V A c wr) (hC:L[j]?=some C) (hl:j+1 < L.length):foldU ((L.drop j).map (·.R))=upM V C.R:=by
  rw [List.map_drop,foldU_at (ch_at hC) (by rw [List.length_map];exact hl),← List.map_drop,h.fo]
  rfl
theorem cutU_of {w wq:World} {L:List Ch} {X j:Nat} {R:Rc} {V V':Vw} {A:Option Addr} {c:Nat} {bb:Bool} (hfo:foldU ((L.drop j).map (·.R))=upM V R) (hu:UpOkU V R V' bb) (bx:Blk wq X 116 (vwA V' (.slice A V'.ents.length c)))
    (bo:Blk wq w.heap.size 116 vwZ8) (vin:VwIn wq V' A c) (len:V'.ents.length≤500+(L.length - j)) (fr:Fr none_ w wq):RFoldCutU w L X j bb wq:=by
  cases bb with
  | true=>exact .inl ⟨rfl,V',A,c,by rw [hfo];exact hu,bx,bo,vin,len,fr⟩
  | false=>exact .inr ⟨rfl,by rw [hfo];exact hu,bo,fr⟩
theorem kindU_of {L:List Ch} {n:Nat} (hn:L.length=n) (h:∀ (j:Nat) C,j < n→L[j]?=some C→KindOk C.R):∀ R ∈ L.map (·.R),KindOk R:=fun R hR=>by
  obtain ⟨C,hC,rfl⟩:=List.mem_map.1 hR
  obtain ⟨j,hj,e⟩:=List.mem_iff_getElem.1 hC
  exact h j C (by omega) (by rw [List.getElem?_eq_getElem hj,e])
theorem at_neg {V:Vw} (g:Good V) {key:ByteArray} {k:Int} (h:AtIs V.ents key k) (hk:k < 0):atB V.ents key=false:=by
  rw [at_rising g.s.ris h];exact decide_eq_false (by omega)
theorem at_pos {V:Vw} (g:Good V) {key:ByteArray} {k:Int} (h:AtIs V.ents key k) (hk:0≤k):atB V.ents key=true∧k=(plN V.ents key:Int)∧plN V.ents key < V.ents.length:=by
  have ha:atB V.ents key=true:=by rw [at_rising g.s.ris h];exact decide_eq_true hk
  refine ⟨ha,?_,atB_lt ha⟩
  rcases h with ⟨i,p,rfl,hp,rfl⟩ | ⟨rfl,_⟩
  · have hr:Ris V.ents:=g.s.ris
    rw [(hr.at hp).1]
  · omega
theorem upM_8 {V:Vw} {R:Rc} (h:R.kind=8) (hh:V.held=false):UpOkU V R { V with ents:=putL V.ents (plN V.ents R.key) (R.key,R.page) } (!atB V.ents R.key && inS V.low V.high V.unb R.key):=by
  unfold UpOkU upM
  rw [if_pos ⟨h,hh⟩]
  cases atB V.ents R.key <;> cases inS V.low V.high V.unb R.key <;> simp
theorem upM_9 {V:Vw} {R:Rc} (h:R.kind=9) (hh:V.held=false) (h1:atB V.ents R.key=true) (h2:plN V.ents R.key≠0):UpOkU V R { V with ents:=V.ents.take (plN V.ents R.key),high:=R.key,unb:=false,right:=R.page } true:=upM_split h hh (by rw [h1];simp [h2])
theorem upM_9n {V:Vw} {R:Rc} (h:R.kind=9) (hh:V.held=false) (h1:atB V.ents R.key=false∨plN V.ents R.key=0):upM V R=none:=by
  unfold upM
  rw [if_neg (by omega),if_pos ⟨h,hh⟩,if_pos h1]
theorem upM_10 {V:Vw} {R:Rc} {p q:Et} {n:Nat} (h:R.kind=10) (hh:V.held=false) (h1:atB V.ents R.hkey=true) (hn:plN V.ents R.hkey=n+1) (hp:V.ents[n+1]?=some p) (hq:V.ents[n]?=some q) :
    UpOkU V R { V with held:=true,hp:=R.hpage,hl:=R.hleft,hk:=R.hkey } ((p.2==R.hpage) && (q.2==R.hleft)):=by
  unfold UpOkU upM
  rw [if_neg (by omega),if_neg (by omega),if_pos ⟨h,hh⟩,h1,hn,hp,show n+1 - 1=n from rfl,hq]
  by_cases e1:p.2=R.hpage <;> by_cases e2:q.2=R.hleft <;> simp [e1,e2]
theorem upM_10n {V:Vw} {R:Rc} (h:R.kind=10) (hh:V.held=false) (h1:atB V.ents R.hkey=false∨plN V.ents R.hkey=0):upM V R=none:=by
  unfold upM
  rw [if_neg (by omega),if_neg (by omega),if_pos ⟨h,hh⟩,if_pos (h1.imp id .inl)]
theorem upM_11 {V:Vw} {R:Rc} (h:R.kind=11) (hh:V.held=true):UpOkU V R { V with ents:=V.ents.take (plN V.ents V.hk) ++ V.ents.drop (plN V.ents V.hk+1),held:=false,hp:=0,hl:=0,hk:=nilS } true:=upM_drop h hh
theorem upM_no {V:Vw} {R:Rc} (h:R.kind=7∨(V.held=true∧R.kind≠11)∨(V.held=false∧R.kind=11)):upM V R=none:=by
  unfold upM
  rcases h with h | ⟨h1,h2⟩ | ⟨h1,h2⟩
  · rw [if_neg (by omega),if_neg (by omega),if_neg (by omega),if_neg (by omega)]
  · rw [if_neg (by rw [h1];simp),if_neg (by rw [h1];simp),if_neg (by rw [h1];simp),if_neg (by omega)]
  · rw [if_neg (by omega),if_neg (by omega),if_neg (by omega),if_neg (by rw [h1];simp)]
theorem VwIn.cut8 {w:World} {V:Vw} {A:Option Addr} {c n:Nat} {V':Vw} (h:VwIn w V A c) (hn:n≤V.ents.length) (he:V'.ents=V.ents.take n) (ok:V'.Ok):VwIn w V' A c:=by
  have hl:V'.ents.length=n:=by rw [he];simp;omega
  refine ⟨?_,by have:=h.cap;omega,h.capm,ok⟩
  rw [hl,he,etFlat_take]
  exact h.rd.upto hn
set_option maxHeartbeats 16000000 in
theorem rfoldU_ok (A:Option Addr) (n cap:Nat) (L:List Ch) (w:World) (h:ChReads w A n L) (hn:n≤400) (hs:∀ C ∈ L,C.R.ents.length≤500) :
  Calls Tryz.prog 56 #[.slice A n cap] w (RFoldPostU (L.map (·.R)) w):=by
 obtain ⟨i0,hi0,hz0,hs0,hb0⟩:=info_parts entry_info
 have Hi:=hid_ (And.intro hi0 (And.intro hz0 (And.intro hs0 hb0)))
 clear hi0 hz0 hs0 hb0
 have hln:=h.1
 have HLN:=hid_ hln
 obtain ⟨w0,hw0⟩:∃ w0,w0=w.alloc (.cells vwZ8 116):=⟨_,rfl⟩
 have f0:Fr none_ w w0:=by rw [hw0];exact (Fr.refl none_ w).alloc _
 have BO:Hid (Blk w0 w.heap.size 116 vwZ8):=hid_ (by rw [hw0];exact Blk.new w _ _)
 have F0:=hid_ f0
 have H:=hid_ h
 have HS:=hid_ hs
 have hsz0:w.heap.size < w0.heap.size:=BO.out.lt
 clear h f0 hs
 go_enter Tryz.func56,Tryz.ntmps56
 go_wp2_with fail
 change Code.wp _ _ _ _ (w.alloc (.cells vwZ8 116))
 rw [← hw0]
 clear hw0
 go_loopw [4] (fun i wr=>∃ k:Nat,k≤n∧i=.int .i64 k∧(∀ (j:Nat) C,j < k→L[j]?=some C→KindOk C.R)∧Fr none_ w0 wr) (fun i _=>n - (intOf i).toNat)
 case atStart=>exact ⟨0,Nat.zero_le _,rfl,fun j C hj=>by omega,Fr.refl _ _⟩
 case round =>
  obtain ⟨k,hk,rfl,hall,hF⟩:=hrel
  have HA:=hid_ hall
  have F:=hid_ hF
  have BO1:=hid_ (BO.out.fr hF id)
  have F1:=hid_ (F0.out.then_none hF)
  have hsz1:=hF.size
  clear hall hF
  have hi0:(0:Int)≤(k:Int):=Int.natCast_nonneg _
  by_cases hlt:k < n
  ·obtain ⟨C,hC⟩:∃ C,L[k]?=some C:=⟨_,List.getElem?_eq_getElem (by omega)⟩
   obtain ⟨b,off,rfl,hb,hR,hO⟩:=(H.out.keep F1.out).at_ hC
   have hi1:(k:Int) < (n:Int):=by omega
   have k0:wr.cell? ⟨b,off+k * 15,none⟩=some (.int .i64 C.R.kind):=hR 0 _ rfl
   have HC:=hid_ hC
   clear hR hO hC
   by_cases h7:C.R.kind < 7
   ·have hno:∃ R ∈ L.map (·.R),¬ KindOk R:=⟨C.R,List.mem_map.2 ⟨C,List.mem_of_getElem? HC.out,rfl⟩,fun hh=>by have:=hh.1;omega⟩
    have HNO:=hid_ hno
    clear hno
    have BOX:=BO1
    go_wp2_with (first | (refine wpList_store_mid rfl 116 (.tmp 2) (.tmp 35) rfl w.heap.size 0 vwZ8 rfl rfl (BOX.out.there7 rfl) rvw_size8 (by simp [Value.oneCell']) ?_;have ov:=BOX.out.over7 (vwZ8).toList rfl;obtain ⟨w9,hw9⟩:∃ z,z=wr.setCells w.heap.size 0 (vwZ8).toList:=⟨_,rfl⟩;rw [← hw9] at ov;change wpList _ _ _ _ _ (wr.setCells w.heap.size 0 (vwZ8).toList);rw [← hw9];have OV:=hid_ ov;clear hw9 ov))
    refine bodyPost_ret (results_cell_tmp7 _ _ rfl w.heap.size 0 (vwZ8).toList _ rfl (Blk.range7 (l:=(vwZ8).toList) OV.out.1) Tryz.underlying116 rfl rvw_size8) rfl (.inr ⟨9,.inl ⟨rfl,HNO.out⟩,rfl,F1.out.then_only OV.out.2 (.inr (Nat.le_refl _))⟩)
   by_cases h11:11 < C.R.kind
   ·have hno:∃ R ∈ L.map (·.R),¬ KindOk R:=⟨C.R,List.mem_map.2 ⟨C,List.mem_of_getElem? HC.out,rfl⟩,fun hh=>by have:=hh.2;omega⟩
    have HNO:=hid_ hno
    clear hno
    have BOX:=BO1
    go_wp2_with (first | (refine wpList_store_mid rfl 116 (.tmp 2) (.tmp 35) rfl w.heap.size 0 vwZ8 rfl rfl (BOX.out.there7 rfl) rvw_size8 (by simp [Value.oneCell']) ?_;have ov:=BOX.out.over7 (vwZ8).toList rfl;obtain ⟨w9,hw9⟩:∃ z,z=wr.setCells w.heap.size 0 (vwZ8).toList:=⟨_,rfl⟩;rw [← hw9] at ov;change wpList _ _ _ _ _ (wr.setCells w.heap.size 0 (vwZ8).toList);rw [← hw9];have OV:=hid_ ov;clear hw9 ov))
    refine bodyPost_ret (results_cell_tmp7 _ _ rfl w.heap.size 0 (vwZ8).toList _ rfl (Blk.range7 (l:=(vwZ8).toList) OV.out.1) Tryz.underlying116 rfl rvw_size8) rfl (.inr ⟨9,.inl ⟨rfl,HNO.out⟩,rfl,F1.out.then_only OV.out.2 (.inr (Nat.le_refl _))⟩)
   go_wp2_with fail
   go_roundw
   case rel=>exact ⟨k+1,by omega,by go_num,fun j C' hj hC'=>by
    rcases Nat.lt_succ_iff_lt_or_eq.1 hj with hj | rfl
    ·exact HA.out j C' hj hC'
    ·rw [HC.out] at hC';cases hC';exact ⟨by omega,by omega⟩,F.out⟩
   case measure=>simp [intOf];omega
  ·obtain rfl:k=n:=by omega
   have HK:Hid (∀ R ∈ L.map (·.R),KindOk R):=hid_ (kindU_of hln HA.out)
   clear hlt hi0 BO F0
   by_cases hk0:k=0
   ·have hno:foldU (L.map (·.R))=none:=by rw [List.eq_nil_of_length_eq_zero (by omega:L.length=0)];rfl
    have HNO:=hid_ hno
    subst hk0
    clear hno
    have BOX:=BO1
    go_wp2_with (first | (refine wpList_store_mid rfl 116 (.tmp 2) (.tmp 39) rfl w.heap.size 0 vwZ8 rfl rfl (BOX.out.there7 rfl) rvw_size8 (by simp [Value.oneCell']) ?_;have ov:=BOX.out.over7 (vwZ8).toList rfl;obtain ⟨w9,hw9⟩:∃ z,z=wr.setCells w.heap.size 0 (vwZ8).toList:=⟨_,rfl⟩;rw [← hw9] at ov;change wpList _ _ _ _ _ (wr.setCells w.heap.size 0 (vwZ8).toList);rw [← hw9];have OV:=hid_ ov;clear hw9 ov))
    refine bodyPost_ret (results_cell_tmp7 _ _ rfl w.heap.size 0 (vwZ8).toList _ rfl (Blk.range7 (l:=(vwZ8).toList) OV.out.1) Tryz.underlying116 rfl rvw_size8) rfl (.inr ⟨10,.inr ⟨rfl,HK.out,HNO.out⟩,rfl,F1.out.then_only OV.out.2 (.inr (Nat.le_refl _))⟩)
   obtain ⟨m,rfl⟩:∃ m,k=m+1:=⟨k - 1,by omega⟩
   obtain ⟨D,hD⟩:∃ D,L[m]?=some D:=⟨_,List.getElem?_eq_getElem (by omega)⟩
   obtain ⟨b,off,rfl,hb,hR,hO⟩:=(H.out.keep F1.out).at_ hD
   have HD:=hid_ hD
   have HR:=hid_ hR
   have HO:=hid_ hO
   have hDs:=HS.out D (List.mem_of_getElem? hD)
   have hLD:(L.map (·.R)).drop m=[D.R]:=foldU_last (by rw [List.length_map];omega) (ch_at hD)
   have HLD:=hid_ hLD
   have hi0:(0:Int)≤(m:Int):=Int.natCast_nonneg _
   have hi1:(m:Int) < ((m+1:Nat):Int):=by omega
   have hi2:(m:Int) < (m:Int)+1:=by omega
   have hw1:IntKind.i64.wrap ((m:Int)+1 - 1)=(m:Int):=by rw [show (m:Int)+1 - 1=(m:Int) by omega];exact IntWalk.i64_in _ (by omega)
   have hw2:IntKind.i64.wrap ((m:Int)+1 - 2)=(m:Int) - 1:=by rw [show (m:Int)+1 - 2=(m:Int) - 1 by omega];exact IntWalk.i64_in _ (by omega)
   have hm0:((m:Int)+1==0)=false:=neB (by omega)
   clear hD hR hO hLD hk0
   go_upto_region 9 with (first | (refine wpList_load_mid rfl 51 (.tmp 44) rfl b (off+m * 15) rfl (recL D) _ HR.out Tryz.underlying51 rfl rec_size8 ?_) | (refine wpList_store_mid rfl 51 (.tmp 5) (.tmp 45) rfl wr.heap.size 0 (recL D).toArray rfl rfl (new_there wr _ recZ8) rec_size8 (rec_one D) ?_;obtain ⟨w1,hw1⟩:∃ w1,w1=(wr.alloc (.cells recZ8 51)).setCells wr.heap.size 0 (recL D):=⟨_,rfl⟩;change wpList _ _ _ _ _ ((wr.alloc (.cells recZ8 51)).setCells wr.heap.size 0 (recL D));rw [← hw1];have P1:Hid (Blk w1 wr.heap.size 51 (recL D).toArray∧Fr none_ wr w1):=hid_ (by rw [hw1];exact new_copy wr _ recZ8 _ rfl);clear hw1))
   have BO3:=hid_ (BO1.out.fr P1.out.2 id)
   have F3:=hid_ (F1.out.then_none P1.out.2)
   have hsz3:=P1.out.2.size
   have hwm:=F1.out.size
   have g1:w1.cell? ⟨wr.heap.size,1,none⟩=some (.string D.R.low):=P1.out.1.cell' rfl
   have g2:w1.cell? ⟨wr.heap.size,2,none⟩=some (.string D.R.high):=P1.out.1.cell' rfl
   have g3:w1.cell? ⟨wr.heap.size,3,none⟩=some (.bool D.R.unb):=P1.out.1.cell' rfl
   have g4:w1.cell? ⟨wr.heap.size,4,none⟩=some (.int .i64 D.R.right):=P1.out.1.cell' rfl
   have g6:w1.cell? ⟨wr.heap.size,6,none⟩=some (.slice D.B D.R.ents.length D.d):=P1.out.1.cell' rfl
   have hb1:=P1.out.1.lt
   go_upto_region 10 with (refine wpList_store_mid rfl 116 (.tmp 6) (.tmp 56) rfl w1.heap.size 0 (vwA (baseV D.R) (.slice D.B D.R.ents.length D.d)) rfl rfl (new_there w1 _ vwZ8) rvw_size8 (by simp [Value.oneCell']) ?_;obtain ⟨w2,hw2⟩:∃ w2,w2=(w1.alloc (.cells vwZ8 116)).setCells w1.heap.size 0 (vwA (baseV D.R) (.slice D.B D.R.ents.length D.d)).toList:=⟨_,rfl⟩;change wpList _ _ _ _ _ ((w1.alloc (.cells vwZ8 116)).setCells w1.heap.size 0 (vwA (baseV D.R) (.slice D.B D.R.ents.length D.d)).toList);rw [← hw2];have P2:Hid (Blk w2 w1.heap.size 116 (vwA (baseV D.R) (.slice D.B D.R.ents.length D.d))∧Fr none_ w1 w2):=hid_ (by rw [hw2];exact new_copy w1 _ vwZ8 _ rfl);clear hw2)
   clear g1 g2 g3 g4 g6
   have BO4:=hid_ (BO3.out.fr P2.out.2 id)
   have F4:=hid_ (F3.out.then_none P2.out.2)
   have BD:=hid_ (P1.out.1.fr P2.out.2 id)
   obtain ⟨X,hX⟩:∃ X,X=w1.heap.size:=⟨_,rfl⟩
   rw [← hX] at P2
   rw [← hX]
   have hXw:w.heap.size < X:=by omega
   clear hX
   have HV:Hid (VwIn w2 (baseV D.R) D.B D.d):=hid_ ⟨HO.out.rd.e.none_fr (P1.out.2.then_none P2.out.2),HO.out.cap,HO.out.capm,⟨HO.out.low,HO.out.high,SzOk.nil,HO.out.ents⟩⟩
   (try go_frame)
   go_cut [7] (fun v wq=>∃ bb:Bool,v=.bool bb∧(bb=true ↔ (D.R.kind=7∧Sound (baseV D.R)))∧Fr none_ w2 wq)
   case first =>
    have g0:w2.cell? ⟨wr.heap.size,0,none⟩=some (.int .i64 D.R.kind):=BD.out.cell' rfl
    have v0:w2.cell? ⟨X,0,none⟩=some (.string (baseV D.R).low):=P2.out.1.cell' rfl
    have v1:w2.cell? ⟨X,1,none⟩=some (.string (baseV D.R).high):=P2.out.1.cell' rfl
    have v2:w2.cell? ⟨X,2,none⟩=some (.bool (baseV D.R).unb):=P2.out.1.cell' rfl
    have v3:w2.cell? ⟨X,3,none⟩=some (.int .i64 (baseV D.R).right):=P2.out.1.cell' rfl
    have v4:w2.cell? ⟨X,4,none⟩=some (.slice D.B (baseV D.R).ents.length D.d):=P2.out.1.cell' rfl
    have v5:w2.cell? ⟨X,5,none⟩=some (.bool (baseV D.R).held):=P2.out.1.cell' rfl
    have v6:w2.cell? ⟨X,6,none⟩=some (.int .i64 (baseV D.R).hp):=P2.out.1.cell' rfl
    have v7:w2.cell? ⟨X,7,none⟩=some (.int .i64 (baseV D.R).hl):=P2.out.1.cell' rfl
    have v8:w2.cell? ⟨X,8,none⟩=some (.string (baseV D.R).hk):=P2.out.1.cell' rfl
    by_cases h7:D.R.kind=7
    ·rw [h7] at g0
     have H7:=hid_ h7
     clear h7
     go_wp2_with fail
     refine (rsoundV_ok (baseV D.R) D.B D.d w2 HV.out).mono ?_
     rintro e w3 ⟨bs,rfl,hbs,hf⟩
     have HBS:=hid_ hbs
     have F5:=hid_ hf
     clear hbs hf v0 v1 v2 v3 v4 v5 v6 v7 v8 g0
     go_wp2_with fail
     go_meet
     case rel=>exact ⟨bs,rfl,⟨fun h=>⟨H7.out,HBS.out.1 h⟩,fun h=>HBS.out.2 h.2⟩,F5.out⟩
    ·have e7:(D.R.kind==7)=false:=neB h7
     have H7:=hid_ h7
     clear h7
     go_wp2_with fail
     go_meet
     case rel=>exact ⟨false,rfl,⟨(fun h=>by cases h),fun h=>absurd h.1 H7.out⟩,Fr.refl _ _⟩
   case rest =>
   obtain ⟨bs,rfl,hbs,hf⟩:=hcut
   have hst:RFoldCutU w L X m bs wc:=by
    cases bs with
    | true=>exact .inl ⟨rfl,baseV D.R,D.B,D.d,by rw [List.map_drop,HLD.out];exact foldU_one D.R (hbs.1 rfl).1 (hbs.1 rfl).2,P2.out.1.fr hf id,BO4.out.fr hf id,HV.out.keep hf,by show D.R.ents.length≤_;omega,F4.out.then_none hf⟩
    | false=>exact .inr ⟨rfl,by rw [List.map_drop,HLD.out];exact foldU_one_no _ (fun h=>by have:=hbs.2 h;cases this),BO4.out.fr hf id,F4.out.then_none hf⟩
   have ST:=hid_ hst
   have HWU:=hid_ hf
   clear hst hbs hf BO4 F4 BD P1 P2 HV BO3 F3 BO1 F
   clear hsz0 hsz1 hsz3 hwm hDs HO HR HD hi1 hi2 hw1 hm0 hb1
   go_wp2_with fail
   obtain ⟨wu,rfl⟩:∃ z:World,z=wr:=⟨_,rfl⟩
   obtain ⟨wu2,rfl⟩:∃ z:World,z=wc:=⟨_,rfl⟩
   go_loopw [7,8] (fun okv i wr=>∃ k:Nat,k≤m∧i=.int .i64 ((k:Int) - 1)∧∃ bb:Bool,okv=.bool bb∧RFoldCutU w L X k bb wr) (fun _ i _=>(intOf i+1).toNat)
   case atStart=>exact ⟨m,Nat.le_refl _,by first | rfl | (congr 1;omega),bs,rfl,ST.out⟩
   case round =>
    obtain ⟨k,hk,rfl,bb,rfl,hcut⟩:=hrel
    clear hw2 ST
    have hm1:L.length=m+1:=HLN.out
    cases bb with
    | false =>
     obtain ⟨h,_⟩ | ⟨_,hno,hbo,hfr⟩:=hcut
     ·cases h
     have hno:foldU (L.map (·.R))=none:=foldU_noK (k:=k) (by rw [List.length_map];omega) (by rw [← List.map_drop];exact hno)
     have HNO:=hid_ hno
     have BO1:=hid_ hbo
     have FF:=hid_ hfr
     clear hno hbo hfr
     by_cases hk0:0 < k
     ·have e1:decide ((0:Int)≤(k:Int) - 1)=true:=decide_eq_true (by omega)
      have e2:decide ((1:Int)≤(k:Int))=true:=decide_eq_true (by omega)
      have e3:decide (0 < k)=true:=decide_eq_true (by omega)
      have e4:decide (1≤k)=true:=decide_eq_true (by omega)
      clear hk
      have BOX:=BO1
      go_wp2_with (first | (refine wpList_store_mid rfl 116 (.tmp 2) (.tmp 217) rfl w.heap.size 0 vwZ8 rfl rfl (BOX.out.there7 rfl) rvw_size8 (by simp [Value.oneCell']) ?_;have ov:=BOX.out.over7 (vwZ8).toList rfl;obtain ⟨w9,hw9⟩:∃ z,z=wr.setCells w.heap.size 0 (vwZ8).toList:=⟨_,rfl⟩;rw [← hw9] at ov;change wpList _ _ _ _ _ (wr.setCells w.heap.size 0 (vwZ8).toList);rw [← hw9];have OV:=hid_ ov;clear hw9 ov))
      refine bodyPost_ret (results_cell_tmp7 _ _ rfl w.heap.size 0 (vwZ8).toList _ rfl (Blk.range7 (l:=(vwZ8).toList) OV.out.1) Tryz.underlying116 rfl rvw_size8) rfl (.inr ⟨10,.inr ⟨rfl,HK.out,HNO.out⟩,rfl,FF.out.then_only OV.out.2 (.inr (Nat.le_refl _))⟩)
     ·have e1:decide ((0:Int)≤(k:Int) - 1)=false:=decide_eq_false (by omega)
      have e2:decide ((1:Int)≤(k:Int))=false:=decide_eq_false (by omega)
      have e3:decide (0 < k)=false:=decide_eq_false (by omega)
      have e4:decide (1≤k)=false:=decide_eq_false (by omega)
      clear hk
      have BOX:=BO1
      go_wp2_with (first | (refine wpList_store_mid rfl 116 (.tmp 2) (.tmp 217) rfl w.heap.size 0 vwZ8 rfl rfl (BOX.out.there7 rfl) rvw_size8 (by simp [Value.oneCell']) ?_;have ov:=BOX.out.over7 (vwZ8).toList rfl;obtain ⟨w9,hw9⟩:∃ z,z=wr.setCells w.heap.size 0 (vwZ8).toList:=⟨_,rfl⟩;rw [← hw9] at ov;change wpList _ _ _ _ _ (wr.setCells w.heap.size 0 (vwZ8).toList);rw [← hw9];have OV:=hid_ ov;clear hw9 ov))
      refine bodyPost_ret (results_cell_tmp7 _ _ rfl w.heap.size 0 (vwZ8).toList _ rfl (Blk.range7 (l:=(vwZ8).toList) OV.out.1) Tryz.underlying116 rfl rvw_size8) rfl (.inr ⟨10,.inr ⟨rfl,HK.out,HNO.out⟩,rfl,FF.out.then_only OV.out.2 (.inr (Nat.le_refl _))⟩)
    | true =>
     obtain ⟨_,V,A2,c2,hst⟩ | ⟨h,_⟩:=hcut
     rotate_left
     ·cases h
     have S2:=hid_ hst
     clear hst
     by_cases hk0:k=0
     ·have hfo:foldU (L.map (·.R))=some V:=by have:=S2.out.fo;rw [hk0] at this;exact this
      have HFO:=hid_ hfo
      subst hk0
      clear hfo
      have e1:decide ((0:Int)≤((0:Nat):Int) - 1)=false:=by decide
      go_wp2_with (first | (refine wpList_load_mid rfl 116 (.tmp 6) rfl X 0 rfl (vwA V (.slice A2 V.ents.length c2)).toList _ (Blk.range7 (l:=(vwA V (.slice A2 V.ents.length c2)).toList) S2.out.bx) Tryz.underlying116 rfl rvw_size8 ?_) | (refine wpList_store_mid rfl 116 (.tmp 2) (.tmp 218) rfl w.heap.size 0 (vwA V (.slice A2 V.ents.length c2)) rfl rfl (S2.out.bo.there7 rfl) rvw_size8 (by simp [Value.oneCell']) ?_;have ov:=S2.out.bo.over7 (vwA V (.slice A2 V.ents.length c2)).toList rfl;obtain ⟨w9,hw9⟩:∃ z,z=wr.setCells w.heap.size 0 (vwA V (.slice A2 V.ents.length c2)).toList:=⟨_,rfl⟩;rw [← hw9] at ov;change wpList _ _ _ _ _ (wr.setCells w.heap.size 0 (vwA V (.slice A2 V.ents.length c2)).toList);rw [← hw9];have OV:=hid_ ov;clear hw9 ov))
      refine bodyPost_ret (results_cell_tmp7 _ _ rfl w.heap.size 0 (vwA V (.slice A2 V.ents.length c2)).toList _ rfl (Blk.range7 (l:=(vwA V (.slice A2 V.ents.length c2)).toList) OV.out.1) Tryz.underlying116 rfl rvw_size8) rfl (.inl ⟨V,A2,c2,HK.out,HFO.out,rfl,S2.out.vin.far8 (V0:=Vw.zero) (ve:=.slice none 0 0) S2.out.bo OV.out.2,S2.out.fr.then_only OV.out.2 (.inr (Nat.le_refl _))⟩)
     ·obtain ⟨j,rfl⟩:∃ j,k=j+1:=⟨k - 1,by omega⟩
      have hjm:j < m:=by omega
      obtain ⟨C,hC⟩:∃ C,L[j]?=some C:=⟨_,List.getElem?_eq_getElem (by omega)⟩
      obtain ⟨b2,off2,hA,hb2,hR2,hO2⟩:=(H.out.keep S2.out.fr).at_ hC
      obtain ⟨rfl,rfl⟩:b=b2∧off=off2:=by injection hA with hA;injection hA with e1 e2;exact ⟨e1,e2⟩
      have hkd:=HK.out C.R (List.mem_map.2 ⟨C,List.mem_of_getElem? hC,rfl⟩)
      have HUP:=hid_ (foldU_up S2.out hC (by omega))
      have HG:=hid_ (fold_good S2.out.fo)
      have HR2:=hid_ hR2
      have HCO:=hid_ hO2
      have hlen:=S2.out.len
      have hi0:(0:Int)≤(j:Int):=Int.natCast_nonneg _
      have hi1:(j:Int) < (m:Int)+1:=by omega
      have e1:decide ((0:Int)≤(j:Int))=true:=decide_eq_true (by omega)
      have hw3:IntKind.i64.wrap ((j:Int) - 1)=(j:Int) - 1:=IntWalk.i64_in _ (by omega)
      rw [show ((j+1:Nat):Int) - 1=(j:Int) by omega]
      have HKD:=hid_ hkd
      clear hR2 hO2 hA hC hkd hk0 hk
      go_upto_region 15 with (first | (refine wpList_load_mid rfl 51 (.tmp 76) rfl b (off+j * 15) rfl (recL C) _ HR2.out Tryz.underlying51 rfl rec_size8 ?_) | (refine wpList_store_mid rfl 51 (.tmp 9) (.tmp 77) rfl wr.heap.size 0 (recL C).toArray rfl rfl (new_there wr _ recZ8) rec_size8 (rec_one C) ?_;obtain ⟨w1,hw1⟩:∃ w1,w1=(wr.alloc (.cells recZ8 51)).setCells wr.heap.size 0 (recL C):=⟨_,rfl⟩;change wpList _ _ _ _ _ ((wr.alloc (.cells recZ8 51)).setCells wr.heap.size 0 (recL C));rw [← hw1];have P1:Hid (Blk w1 wr.heap.size 51 (recL C).toArray∧Fr none_ wr w1):=hid_ (by rw [hw1];exact new_copy wr _ recZ8 _ rfl);clear hw1))
      have S3:=hid_ (S2.out.keep P1.out.2)
      have BR:=hid_ P1.out.1
      have hsz3:=P1.out.2.size
      have hsS:=S2.out.fr.size
      have HCO3:=hid_ (HCO.out.keep P1.out.2)
      have hXl:=S2.out.bx.lt
      have hkd:=HKD.out
      have hcap:=S3.out.vin.cap
      have hcpm:=S3.out.vin.capm
      unfold maxLen at hcpm
      clear HKD HR2 HCO
      have r0:w1.cell? ⟨wr.heap.size,0,none⟩=some (.int .i64 C.R.kind):=BR.out.cell' rfl
      have v5:w1.cell? ⟨X,5,none⟩=some (.bool V.held):=S3.out.bx.cell' rfl
      by_cases hbad:C.R.kind=7∨(V.held=true∧C.R.kind≠11)∨(V.held=false∧C.R.kind=11)
      ·have hno:foldU (L.map (·.R))=none:=foldU_noK (k:=j) (by rw [List.length_map];omega) (by rw [← List.map_drop,HUP.out];exact upM_no hbad)
       have HNO:=hid_ hno
       have FF:=S3.out.fr
       have HFF:=hid_ FF
       have BB:=hid_ S3.out.bo
       clear hno FF hkd
       by_cases h7:C.R.kind=7
       ·rw [h7] at r0
        clear h7 hbad
        have BOX:=BB
        go_wp2_with (first | (refine wpList_store_mid rfl 116 (.tmp 2) (.tmp 89) rfl w.heap.size 0 vwZ8 rfl rfl (BOX.out.there7 rfl) rvw_size8 (by simp [Value.oneCell']) ?_;have ov:=BOX.out.over7 (vwZ8).toList rfl;obtain ⟨w9,hw9⟩:∃ z,z=w1.setCells w.heap.size 0 (vwZ8).toList:=⟨_,rfl⟩;rw [← hw9] at ov;change wpList _ _ _ _ _ (w1.setCells w.heap.size 0 (vwZ8).toList);rw [← hw9];have OV:=hid_ ov;clear hw9 ov))
        refine bodyPost_ret (results_cell_tmp7 _ _ rfl w.heap.size 0 (vwZ8).toList _ rfl (Blk.range7 (l:=(vwZ8).toList) OV.out.1) Tryz.underlying116 rfl rvw_size8) rfl (.inr ⟨10,.inr ⟨rfl,HK.out,HNO.out⟩,rfl,HFF.out.then_only OV.out.2 (.inr (Nat.le_refl _))⟩)
       have e7:(C.R.kind==7)=false:=neB h7
       rcases hbad with h | ⟨h1,h2⟩ | ⟨h1,h2⟩
       ·exact absurd h h7
       ·rw [h1] at v5
        have e11:(C.R.kind==11)=false:=neB h2
        clear h1 h2 h7
        have BOX:=BB
        go_wp2_with (first | (refine wpList_store_mid rfl 116 (.tmp 2) (.tmp 89) rfl w.heap.size 0 vwZ8 rfl rfl (BOX.out.there7 rfl) rvw_size8 (by simp [Value.oneCell']) ?_;have ov:=BOX.out.over7 (vwZ8).toList rfl;obtain ⟨w9,hw9⟩:∃ z,z=w1.setCells w.heap.size 0 (vwZ8).toList:=⟨_,rfl⟩;rw [← hw9] at ov;change wpList _ _ _ _ _ (w1.setCells w.heap.size 0 (vwZ8).toList);rw [← hw9];have OV:=hid_ ov;clear hw9 ov))
        refine bodyPost_ret (results_cell_tmp7 _ _ rfl w.heap.size 0 (vwZ8).toList _ rfl (Blk.range7 (l:=(vwZ8).toList) OV.out.1) Tryz.underlying116 rfl rvw_size8) rfl (.inr ⟨10,.inr ⟨rfl,HK.out,HNO.out⟩,rfl,HFF.out.then_only OV.out.2 (.inr (Nat.le_refl _))⟩)
       ·rw [h1] at v5
        rw [h2] at r0
        clear h1 h2 h7 e7
        have BOX:=BB
        go_wp2_with (first | (refine wpList_store_mid rfl 116 (.tmp 2) (.tmp 89) rfl w.heap.size 0 vwZ8 rfl rfl (BOX.out.there7 rfl) rvw_size8 (by simp [Value.oneCell']) ?_;have ov:=BOX.out.over7 (vwZ8).toList rfl;obtain ⟨w9,hw9⟩:∃ z,z=w1.setCells w.heap.size 0 (vwZ8).toList:=⟨_,rfl⟩;rw [← hw9] at ov;change wpList _ _ _ _ _ (w1.setCells w.heap.size 0 (vwZ8).toList);rw [← hw9];have OV:=hid_ ov;clear hw9 ov))
        refine bodyPost_ret (results_cell_tmp7 _ _ rfl w.heap.size 0 (vwZ8).toList _ rfl (Blk.range7 (l:=(vwZ8).toList) OV.out.1) Tryz.underlying116 rfl rvw_size8) rfl (.inr ⟨10,.inr ⟨rfl,HK.out,HNO.out⟩,rfl,HFF.out.then_only OV.out.2 (.inr (Nat.le_refl _))⟩)
      have hcases:(C.R.kind=8∧V.held=false)∨(C.R.kind=9∧V.held=false)∨(C.R.kind=10∧V.held=false)∨(C.R.kind=11∧V.held=true):=by
       have h1:=hkd.1
       have h2:=hkd.2
       cases hh:V.held with
       | true =>
        by_cases h:C.R.kind=11
        ·exact .inr (.inr (.inr ⟨h,rfl⟩))
        ·exact absurd (.inr (.inl ⟨hh,h⟩)) hbad
       | false =>
        have a1:C.R.kind≠7:=fun h=>hbad (.inl h)
        have a2:C.R.kind≠11:=fun h=>hbad (.inr (.inr ⟨hh,h⟩))
        have:C.R.kind=8∨C.R.kind=9∨C.R.kind=10:=by omega
        rcases this with h | h | h
        ·exact .inl ⟨h,rfl⟩
        ·exact .inr (.inl ⟨h,rfl⟩)
        ·exact .inr (.inr (.inl ⟨h,rfl⟩))
      clear hkd hbad
      rcases hcases with ⟨h2,hh⟩ | ⟨h2,hh⟩ | ⟨h2,hh⟩ | ⟨h2,hh⟩
      ·rw [h2] at r0
       rw [hh] at v5
       have H2:=hid_ h2
       have HH:=hid_ hh
       clear h2 hh
       as_aux_lemma =>
        have r7:w1.cell? ⟨wr.heap.size,7,none⟩=some (.string C.R.key):=BR.out.cell' rfl
        have hu:=upM_8 H2.out HH.out
        have HU:=hid_ hu
        clear hu
        go_upto_region 18 with fail
        clear r0
        (try go_frame)
        go_cut [7] (fun v wq=>∃ bb:Bool,v=.bool bb∧UpOkU V C.R { V with ents:=putL V.ents (plN V.ents C.R.key) (C.R.key,C.R.page) } bb∧Fr none_ w1 wq)
        case first =>
         go_wp2_with (first | (refine wpList_load_mid rfl 116 (.tmp 6) rfl X 0 rfl (vwA V (.slice A2 V.ents.length c2)).toList _ (Blk.range7 (l:=(vwA V (.slice A2 V.ents.length c2)).toList) S3.out.bx) Tryz.underlying116 rfl rvw_size8 ?_) | (refine wpList_load_midG (by kernel_rfl) 116 (.tmp 6) rfl X 0 rfl (vwA V (.slice A2 V.ents.length c2)).toList _ (Blk.range7 (l:=(vwA V (.slice A2 V.ents.length c2)).toList) S3.out.bx) Tryz.underlying116 rfl rvw_size8 ?_))
         refine (rat_ok V A2 c2 C.R.key w1 S3.out.vin).mono ?_
         rintro e w2 ⟨k,rfl,hat,hf⟩
         have HAT:=hid_ hat
         have F3:=hid_ hf
         have S4:=hid_ (S3.out.keep hf)
         have BR4:=hid_ (BR.out.fr hf id)
         clear hat hf v5 r7
         by_cases hk:k < 0
         ·have e2:decide (k < 0)=true:=decide_eq_true hk
          have hu:=HU.out
          rw [at_neg HG.out HAT.out hk] at hu
          have HU2:=hid_ hu
          clear hu hk
          have r7:w2.cell? ⟨wr.heap.size,7,none⟩=some (.string C.R.key):=BR4.out.cell' rfl
          go_wp2_with (first | (refine wpList_load_mid rfl 116 (.tmp 6) rfl X 0 rfl (vwA V (.slice A2 V.ents.length c2)).toList _ (Blk.range7 (l:=(vwA V (.slice A2 V.ents.length c2)).toList) S4.out.bx) Tryz.underlying116 rfl rvw_size8 ?_) | (refine wpList_load_midG (by kernel_rfl) 116 (.tmp 6) rfl X 0 rfl (vwA V (.slice A2 V.ents.length c2)).toList _ (Blk.range7 (l:=(vwA V (.slice A2 V.ents.length c2)).toList) S4.out.bx) Tryz.underlying116 rfl rvw_size8 ?_))
          refine (rvin_ok V (.slice A2 V.ents.length c2) C.R.key w2 S4.out.vin.ok.low S4.out.vin.ok.high HCO3.out.key).mono ?_
          rintro e w3 ⟨rfl,hf⟩
          have F4:=hid_ (F3.out.then_none hf)
          clear hf r7
          go_wp2_with fail
          go_meet
          case rel=>exact ⟨_,rfl,HU2.out,F4.out⟩
         ·have e2:decide (k < 0)=false:=decide_eq_false hk
          have hu:=HU.out
          rw [(at_pos HG.out HAT.out (by omega)).1] at hu
          have HU2:=hid_ hu
          clear hu hk
          go_wp2_with fail
          go_meet
          case rel=>exact ⟨false,rfl,HU2.out,F3.out⟩
        case rest =>
        obtain ⟨bb,rfl,hbb,hf⟩:=hcut
        obtain ⟨w3,rfl⟩:∃ z:World,z=wc:=⟨_,rfl⟩
        have HB:=hid_ hbb
        have S5:=hid_ (S3.out.keep hf)
        have BR5:=hid_ (BR.out.fr hf id)
        have hsz5:=hf.size
        clear hbb hf S3 BR HU v5 r7
        have r7:w3.cell? ⟨wr.heap.size,7,none⟩=some (.string C.R.key):=BR5.out.cell' rfl
        go_wp2_with (first | (refine wpList_load_mid rfl 116 (.tmp 6) rfl X 0 rfl (vwA V (.slice A2 V.ents.length c2)).toList _ (Blk.range7 (l:=(vwA V (.slice A2 V.ents.length c2)).toList) S5.out.bx) Tryz.underlying116 rfl rvw_size8 ?_) | (refine wpList_load_midG (by kernel_rfl) 116 (.tmp 6) rfl X 0 rfl (vwA V (.slice A2 V.ents.length c2)).toList _ (Blk.range7 (l:=(vwA V (.slice A2 V.ents.length c2)).toList) S5.out.bx) Tryz.underlying116 rfl rvw_size8 ?_))
        refine (rahead8_ok V A2 c2 C.R.key w3 S5.out.vin HCO3.out.key).mono ?_
        rintro e w4 ⟨rfl,hf⟩
        have S6:=hid_ (S5.out.keep hf)
        have BR6:=hid_ (BR5.out.fr hf id)
        have hs6:=S6.out.fr.size
        clear hf S5 BR5 r7
        have hpl:=plN_le V.ents C.R.key
        obtain ⟨n,hn⟩:∃ n,n=plN V.ents C.R.key:=⟨_,rfl⟩
        rw [← hn] at hpl HB
        rw [← hn]
        clear hn
        have hj0:(0:Int)≤(n:Int):=Int.natCast_nonneg _
        have hj1:(n:Int)≤(V.ents.length:Int):=by omega
        have hj2:(n:Int)≤(c2:Int):=by omega
        have hj3:(V.ents.length:Int)≤(c2:Int):=by omega
        have FL:=hid_ (etFlat_take V.ents n)
        go_upto_region 20 with fail
        (try go_frame)
        go_cut [11] (fun v wq=>∃ A' c',v=.slice A' (n+1) c'∧wq.ownsRow w4.heap.size 132 2 (.slice A' (n+1) c') (n+1) (etFlat (V.ents.take n) ++ [.string C.R.key,.int .i64 C.R.page])∧Fr none_ w4 wq)
        case first =>
         have v4:w4.cell? ⟨X,4,none⟩=some (.slice A2 V.ents.length c2):=S6.out.bx.cell' rfl
         have r7:w4.cell? ⟨wr.heap.size,7,none⟩=some (.string C.R.key):=BR6.out.cell' rfl
         have r9:w4.cell? ⟨wr.heap.size,9,none⟩=some (.int .i64 C.R.page):=BR6.out.cell' rfl
         have hS0:(fun w':World=>Fr none_ w4 w') w4.drew:=(Fr.refl none_ w4).drew
         refine wp_region_u 14 (fun w':World=>Fr none_ w4 w') (by kernel_rfl) ?_
         refine u_take 1 (some 109) (.pointer (some ⟨X,4,none⟩)) rfl rfl (by kernel_rfl) (by kernel_rfl) (by kernel_rfl) (by kernel_rfl) (fun _ _ _ h=>h) (y_val (by kernel_rfl) (fun w' hS=>by kernel_rfl)) hS0 ?_
         go_frame
         refine u_take 2 (some 110) (.slice A2 V.ents.length c2) rfl rfl (by kernel_rfl) (by kernel_rfl) (by kernel_rfl) (by kernel_rfl) (fun _ _ _ h=>h) (y_cell 49 (.tmp 109) ⟨X,4,none⟩ _ (by kernel_rfl) rfl (by kernel_rfl) (fun w' hS=>cellFr v4 hS) Tryz.underlying49 rfl) hS0 ?_
         go_frame
         refine u_take 3 (some 111) (.int .i64 n) rfl rfl (by kernel_rfl) (by kernel_rfl) (by kernel_rfl) (by kernel_rfl) (fun _ _ _ h=>h) (y_val (by kernel_rfl) (fun w' hS=>by kernel_rfl)) hS0 ?_
         go_frame
         refine u_take 4 (some 112) (.slice A2 n c2) rfl rfl (by kernel_rfl) (by kernel_rfl) (by kernel_rfl) (by kernel_rfl) (fun _ _ _ h=>h) (y_sliceHi (m:=V.ents.length) 49 (.tmp 110) (.tmp 111) 132 (by kernel_rfl) rfl Tryz.underlying49 ent_sz (by kernel_rfl) (by kernel_rfl) (by omega)) hS0 ?_
         go_frame
         refine u_take 6 (some 114) (.pointer (some ⟨wr.heap.size,7,none⟩)) rfl rfl (by kernel_rfl) (by kernel_rfl) (by kernel_rfl) (by kernel_rfl) (fun _ _ _ h=>h) (y_val (by kernel_rfl) (fun w' hS=>by kernel_rfl)) hS0 ?_
         go_frame
         refine u_take 7 (some 115) (.string C.R.key) rfl rfl (by kernel_rfl) (by kernel_rfl) (by kernel_rfl) (by kernel_rfl) (fun _ _ _ h=>h) (y_cell 9 (.tmp 114) ⟨wr.heap.size,7,none⟩ _ (by kernel_rfl) rfl (by kernel_rfl) (fun w' hS=>cellFr r7 hS) Tryz.underlying9 rfl) hS0 ?_
         go_frame
         refine u_take 8 (some 116) (.pointer (some ⟨wr.heap.size,9,none⟩)) rfl rfl (by kernel_rfl) (by kernel_rfl) (by kernel_rfl) (by kernel_rfl) (fun _ _ _ h=>h) (y_val (by kernel_rfl) (fun w' hS=>by kernel_rfl)) hS0 ?_
         go_frame
         refine u_take 9 (some 117) (.int .i64 C.R.page) rfl rfl (by kernel_rfl) (by kernel_rfl) (by kernel_rfl) (by kernel_rfl) (fun _ _ _ h=>h) (y_cell 3 (.tmp 116) ⟨wr.heap.size,9,none⟩ _ (by kernel_rfl) rfl (by kernel_rfl) (fun w' hS=>cellFr r9 hS) Tryz.underlying3 rfl) hS0 ?_
         go_frame
         refine u_take 10 (some 118) (.agg #[.string C.R.key,.int .i64 C.R.page]) rfl rfl (by kernel_rfl) (by kernel_rfl) (by kernel_rfl) (by kernel_rfl) (fun _ _ _ h=>h) (y_val (by kernel_rfl) (fun w' hS=>by kernel_rfl)) hS0 ?_
         go_frame
         clear v4 r7 r9 hS0
         obtain ⟨y1,hy1⟩:∃ z,z=w4.drew:=⟨_,rfl⟩
         have F2:Hid (Fr none_ w4 y1):=hid_ (by rw [hy1];exact (Fr.refl none_ w4).drew)
         rw [← hy1]
         clear hy1
         refine u_two 0 11 rfl rfl (by kernel_rfl) (by kernel_rfl) (by kernel_rfl) ?_ ?_
         ·skip
          refine wp_known (.slice (some ⟨y1.heap.size,0,none⟩) 0 0) (y1.alloc (.cells #[] 132)) (by kernel_rfl) ⟨.inr (F2.out.alloc _),?_⟩
          go_frame
          obtain ⟨y3,hy3⟩:∃ z,z=y1.alloc (.cells #[] 132):=⟨_,rfl⟩
          have sy3:y1.heap.size < y3.heap.size:=by rw [hy3];simp [World.size_alloc]
          have f5:Fr none_ y1 y3:=by rw [hy3];exact (Fr.refl none_ _).alloc _
          have OE:Hid (y3.ownsRow w4.heap.size 132 2 (.slice (some ⟨y1.heap.size,0,none⟩) 0 0) 0 []):=hid_ (by rw [hy3];exact own_empty _ _ _ _ (by have:=F2.out.size;omega))
          have F4:=hid_ (F2.out.then_none f5)
          rw [← hy3]
          clear hy3 f5
          refine u_two 5 11 rfl rfl (by kernel_rfl) (by kernel_rfl) (by kernel_rfl) ?_ ?_
          ·skip
           refine wp_append_any _ (.tmp 108) (.tmp 112) 49 rfl w4.heap.size 132 i0 _ 2 24 Tryz.underlying49 Hi.out.1 Hi.out.2.1 Hi.out.2.2.1 Hi.out.2.2.2 rfl (by omega) (.slice (some ⟨y1.heap.size,0,none⟩) 0 0) (0) ([]) (by kernel_rfl) OE.out (A2) (n) (c2) (etFlat (V.ents.take n)) (by kernel_rfl) (by rw [FL.out];exact (S6.out.vin.rd.upto hpl).none_fr F4.out) (etFlat_one _) (by simp only [maxLen];omega) (by omega) (by have:=F4.out.size;omega) ?_
           intro A8 c9 y6 hown hgr
           simp only [Nat.zero_add,List.nil_append] at hown
           rw [Nat.zero_add]
           have sy6:=hgr.size
           have F7:=hid_ (F4.out.grown hgr (fun k hk=>.inr (by have:=(OE.out.lt k hk).1;omega)))
           have O10:=hid_ hown
           refine ⟨.inr F7.out,?_⟩
           go_frame
           clear hown hgr OE
           have O4:=O10
           clear O10
           refine u_run 11 (some 119) (.slice (some ⟨y6.heap.size,0,none⟩) 1 1) (y6.alloc (.cells #[.string C.R.key,.int .i64 C.R.page] 132)) rfl rfl (by kernel_rfl) (by kernel_rfl) (by kernel_rfl) (.inr (F7.out.alloc _)) ?_
           go_frame
           obtain ⟨y11,hy11⟩:∃ z,z=y6.alloc (.cells #[.string C.R.key,.int .i64 C.R.page] 132):=⟨_,rfl⟩
           have sy11:y6.heap.size < y11.heap.size:=by rw [hy11];simp [World.size_alloc]
           have f13:Fr none_ y6 y11:=by rw [hy11];exact (Fr.refl none_ _).alloc _
           replace O4:=hid_ (own_none O4.out f13)
           have BE:Hid (Blk y11 y6.heap.size 132 #[.string C.R.key,.int .i64 C.R.page]):=hid_ (by rw [hy11];exact Blk.new _ _ _)
           have F12:=hid_ (F7.out.then_none f13)
           rw [← hy11]
           clear hy11 f13
           refine u_one 12 rfl (by kernel_rfl) (by kernel_rfl) ?_
           refine wp_append_any _ (.tmp 113) (.tmp 119) 49 rfl w4.heap.size 132 i0 _ 2 24 Tryz.underlying49 Hi.out.1 Hi.out.2.1 Hi.out.2.2.1 Hi.out.2.2.2 rfl (by omega) (.slice A8 (n) c9) (n) (etFlat (V.ents.take n)) (by kernel_rfl) O4.out (some ⟨y6.heap.size,0,none⟩) (1) (1) ([.string C.R.key,.int .i64 C.R.page]) (by kernel_rfl) (reads_blk7 (cs:=[.string C.R.key,.int .i64 C.R.page]) BE.out) (by simp [Value.oneCell']) (by simp only [maxLen];omega) (by omega) (by have:=F12.out.size;omega) ?_
           intro A16 c17 y14 hown hgr
           have sy14:=hgr.size
           have F15:=hid_ (F12.out.grown hgr (fun k hk=>.inr (by have:=(O4.out.lt k hk).1;omega)))
           clear BE
           have O18:=hid_ hown
           refine ⟨.inr F15.out,?_⟩
           go_frame
           clear hown hgr O4
           have O7:=O18
           clear O18
           refine u_run 13 (some 11) (.slice A16 (n+1) c17) y14 rfl rfl (by kernel_rfl) (by kernel_rfl) (by kernel_rfl) (.inr F15.out) ?_
           go_frame
           refine u_done (by kernel_rfl) ?_
           (try simp only [Exit.then])
           (try go_frame)
           rename_i hKm
           refine hKm _ _ ?_
           go_meet
           case rel=>exact ⟨_,_,rfl,O7.out,F15.out⟩
          ·skip
           refine wp_known (.slice (some ⟨y3.heap.size,0,none⟩) 1 1) (y3.alloc (.cells #[.string C.R.key,.int .i64 C.R.page] 132)) (by kernel_rfl) ⟨.inr (F4.out.alloc _),?_⟩
           go_frame
           obtain ⟨y19,hy19⟩:∃ z,z=y3.alloc (.cells #[.string C.R.key,.int .i64 C.R.page] 132):=⟨_,rfl⟩
           have sy19:y3.heap.size < y19.heap.size:=by rw [hy19];simp [World.size_alloc]
           have f21:Fr none_ y3 y19:=by rw [hy19];exact (Fr.refl none_ _).alloc _
           replace OE:=hid_ (own_none OE.out f21)
           have BE:Hid (Blk y19 y3.heap.size 132 #[.string C.R.key,.int .i64 C.R.page]):=hid_ (by rw [hy19];exact Blk.new _ _ _)
           have F20:=hid_ (F4.out.then_none f21)
           rw [← hy19]
           clear hy19 f21
           refine u_one 5 rfl (by kernel_rfl) (by kernel_rfl) ?_
           refine wp_append_any _ (.tmp 108) (.tmp 112) 49 rfl w4.heap.size 132 i0 _ 2 24 Tryz.underlying49 Hi.out.1 Hi.out.2.1 Hi.out.2.2.1 Hi.out.2.2.2 rfl (by omega) (.slice (some ⟨y1.heap.size,0,none⟩) 0 0) (0) ([]) (by kernel_rfl) OE.out (A2) (n) (c2) (etFlat (V.ents.take n)) (by kernel_rfl) (by rw [FL.out];exact (S6.out.vin.rd.upto hpl).none_fr F20.out) (etFlat_one _) (by simp only [maxLen];omega) (by omega) (by have:=F20.out.size;omega) ?_
           intro A24 c25 y22 hown hgr
           simp only [Nat.zero_add,List.nil_append] at hown
           rw [Nat.zero_add]
           have sy22:=hgr.size
           have F23:=hid_ (F20.out.grown hgr (fun k hk=>.inr (by have:=(OE.out.lt k hk).1;omega)))
           replace BE:=hid_ (BE.out.fr (Fr.grown (S:=fun b=>(Value.slice (some ⟨y1.heap.size,0,none⟩) 0 0).ownBlock=some b) (Fr.refl _ _) hgr (fun k hk=>.inl hk)) (fun hk=>by simp [Value.ownBlock] at hk;omega))
           have O26:=hid_ hown
           refine ⟨.inr F23.out,?_⟩
           go_frame
           clear hown hgr OE
           have O4:=O26
           clear O26
           refine u_one 12 rfl (by kernel_rfl) (by kernel_rfl) ?_
           refine wp_append_any _ (.tmp 113) (.tmp 119) 49 rfl w4.heap.size 132 i0 _ 2 24 Tryz.underlying49 Hi.out.1 Hi.out.2.1 Hi.out.2.2.1 Hi.out.2.2.2 rfl (by omega) (.slice A24 (n) c25) (n) (etFlat (V.ents.take n)) (by kernel_rfl) O4.out (some ⟨y3.heap.size,0,none⟩) (1) (1) ([.string C.R.key,.int .i64 C.R.page]) (by kernel_rfl) (reads_blk7 (cs:=[.string C.R.key,.int .i64 C.R.page]) BE.out) (by simp [Value.oneCell']) (by simp only [maxLen];omega) (by omega) (by have:=F23.out.size;omega) ?_
           intro A29 c30 y27 hown hgr
           have sy27:=hgr.size
           have F28:=hid_ (F23.out.grown hgr (fun k hk=>.inr (by have:=(O4.out.lt k hk).1;omega)))
           clear BE
           have O31:=hid_ hown
           refine ⟨.inr F28.out,?_⟩
           go_frame
           clear hown hgr O4
           have O7:=O31
           clear O31
           refine u_run 13 (some 11) (.slice A29 (n+1) c30) y27 rfl rfl (by kernel_rfl) (by kernel_rfl) (by kernel_rfl) (.inr F28.out) ?_
           go_frame
           refine u_done (by kernel_rfl) ?_
           (try simp only [Exit.then])
           (try go_frame)
           rename_i hKm
           refine hKm _ _ ?_
           go_meet
           case rel=>exact ⟨_,_,rfl,O7.out,F28.out⟩
         ·skip
          refine wp_known (.slice (some ⟨y1.heap.size,0,none⟩) 1 1) (y1.alloc (.cells #[.string C.R.key,.int .i64 C.R.page] 132)) (by kernel_rfl) ⟨.inr (F2.out.alloc _),?_⟩
          go_frame
          obtain ⟨y32,hy32⟩:∃ z,z=y1.alloc (.cells #[.string C.R.key,.int .i64 C.R.page] 132):=⟨_,rfl⟩
          have sy32:y1.heap.size < y32.heap.size:=by rw [hy32];simp [World.size_alloc]
          have f34:Fr none_ y1 y32:=by rw [hy32];exact (Fr.refl none_ _).alloc _
          have BE:Hid (Blk y32 y1.heap.size 132 #[.string C.R.key,.int .i64 C.R.page]):=hid_ (by rw [hy32];exact Blk.new _ _ _)
          have F33:=hid_ (F2.out.then_none f34)
          rw [← hy32]
          clear hy32 f34
          refine u_run 0 (some 108) (.slice (some ⟨y32.heap.size,0,none⟩) 0 0) (y32.alloc (.cells #[] 132)) rfl rfl (by kernel_rfl) (by kernel_rfl) (by kernel_rfl) (.inr (F33.out.alloc _)) ?_
          go_frame
          obtain ⟨y35,hy35⟩:∃ z,z=y32.alloc (.cells #[] 132):=⟨_,rfl⟩
          have sy35:y32.heap.size < y35.heap.size:=by rw [hy35];simp [World.size_alloc]
          have f37:Fr none_ y32 y35:=by rw [hy35];exact (Fr.refl none_ _).alloc _
          replace BE:=hid_ (BE.out.fr f37 id)
          have OE:Hid (y35.ownsRow w4.heap.size 132 2 (.slice (some ⟨y32.heap.size,0,none⟩) 0 0) 0 []):=hid_ (by rw [hy35];exact own_empty _ _ _ _ (by have:=F33.out.size;omega))
          have F36:=hid_ (F33.out.then_none f37)
          rw [← hy35]
          clear hy35 f37
          refine u_one 5 rfl (by kernel_rfl) (by kernel_rfl) ?_
          refine wp_append_any _ (.tmp 108) (.tmp 112) 49 rfl w4.heap.size 132 i0 _ 2 24 Tryz.underlying49 Hi.out.1 Hi.out.2.1 Hi.out.2.2.1 Hi.out.2.2.2 rfl (by omega) (.slice (some ⟨y32.heap.size,0,none⟩) 0 0) (0) ([]) (by kernel_rfl) OE.out (A2) (n) (c2) (etFlat (V.ents.take n)) (by kernel_rfl) (by rw [FL.out];exact (S6.out.vin.rd.upto hpl).none_fr F36.out) (etFlat_one _) (by simp only [maxLen];omega) (by omega) (by have:=F36.out.size;omega) ?_
          intro A40 c41 y38 hown hgr
          simp only [Nat.zero_add,List.nil_append] at hown
          rw [Nat.zero_add]
          have sy38:=hgr.size
          have F39:=hid_ (F36.out.grown hgr (fun k hk=>.inr (by have:=(OE.out.lt k hk).1;omega)))
          replace BE:=hid_ (BE.out.fr (Fr.grown (S:=fun b=>(Value.slice (some ⟨y32.heap.size,0,none⟩) 0 0).ownBlock=some b) (Fr.refl _ _) hgr (fun k hk=>.inl hk)) (fun hk=>by simp [Value.ownBlock] at hk;omega))
          have O42:=hid_ hown
          refine ⟨.inr F39.out,?_⟩
          go_frame
          clear hown hgr OE
          have O4:=O42
          clear O42
          refine u_one 12 rfl (by kernel_rfl) (by kernel_rfl) ?_
          refine wp_append_any _ (.tmp 113) (.tmp 119) 49 rfl w4.heap.size 132 i0 _ 2 24 Tryz.underlying49 Hi.out.1 Hi.out.2.1 Hi.out.2.2.1 Hi.out.2.2.2 rfl (by omega) (.slice A40 (n) c41) (n) (etFlat (V.ents.take n)) (by kernel_rfl) O4.out (some ⟨y1.heap.size,0,none⟩) (1) (1) ([.string C.R.key,.int .i64 C.R.page]) (by kernel_rfl) (reads_blk7 (cs:=[.string C.R.key,.int .i64 C.R.page]) BE.out) (by simp [Value.oneCell']) (by simp only [maxLen];omega) (by omega) (by have:=F39.out.size;omega) ?_
          intro A45 c46 y43 hown hgr
          have sy43:=hgr.size
          have F44:=hid_ (F39.out.grown hgr (fun k hk=>.inr (by have:=(O4.out.lt k hk).1;omega)))
          clear BE
          have O47:=hid_ hown
          refine ⟨.inr F44.out,?_⟩
          go_frame
          clear hown hgr O4
          have O7:=O47
          clear O47
          refine u_run 13 (some 11) (.slice A45 (n+1) c46) y43 rfl rfl (by kernel_rfl) (by kernel_rfl) (by kernel_rfl) (.inr F44.out) ?_
          go_frame
          refine u_done (by kernel_rfl) ?_
          (try simp only [Exit.then])
          (try go_frame)
          rename_i hKm
          refine hKm _ _ ?_
          go_meet
          case rel=>exact ⟨_,_,rfl,O7.out,F44.out⟩
        case rest =>
        obtain ⟨A3,c3,rfl,hown,hf⟩:=hcut
        obtain ⟨w5,rfl⟩:∃ z:World,z=wc:=⟨_,rfl⟩
        have O:=hid_ hown
        have HF:=hid_ hf
        have hsz7:=hf.size
        obtain ⟨A5,hA5⟩:∃ A5,(if c2=n then A2 else Option.map (fun x=>x.add (n * 2)) A2)=A5:=⟨_,rfl⟩
        have R2:=(S6.out.vin.rd.none_fr hf).cut hpl hcap
        rw [hA5] at R2
        have R2':=hid_ R2
        have v4:w5.cell? ⟨X,4,none⟩=some (.slice A2 V.ents.length c2):=(S6.out.bx.fr hf id).cell' rfl
        have zv4:=(S6.out.bx.fr hf id).frozen 4
        clear R2 hown hf FL
        go_upto_region 22 with (at_builtin;refine wpList_append_any _ rfl (.tmp 121) (.tmp 125) 49 rfl w4.heap.size 132 i0 _ 2 24 Tryz.underlying49 Hi.out.1 Hi.out.2.1 Hi.out.2.2.1 Hi.out.2.2.2 rfl (by omega) (.slice A3 (n+1) c3) (n+1) _ rfl O.out A5 (V.ents.length - n) (c2 - n) ((etFlat V.ents).drop (n * 2)) rfl R2'.out (fun u hu=>etFlat_one V.ents u (List.mem_of_mem_drop hu)) (by simp only [maxLen];omega) (by omega) (by omega) ?_;intro A' c' w6 hown6 hgr6;have O6:=hid_ hown6;have F6:=hid_ (HF.out.grown hgr6 (fun k hk=>.inr (O.out.lt k hk).1));clear hown6 hgr6 v4 zv4;have v4:w6.cell? ⟨X,4,none⟩=some (.slice A2 V.ents.length c2):=(S6.out.bx.fr F6.out id).cell' rfl;have zv4:=(S6.out.bx.fr F6.out id).frozen 4)
        have S8:=hid_ (S6.out.keep F6.out)
        have BR8:=hid_ (BR6.out.fr F6.out id)
        have hsz8:=F6.out.size
        clear O HF S6 BR6
        obtain ⟨L2,hL2⟩:∃ L2,L2=putL V.ents n (C.R.key,C.R.page):=⟨_,rfl⟩
        have hll:L2.length=V.ents.length+1:=by rw [hL2];exact putL_len _ hpl
        have hfl:etFlat L2=etFlat (V.ents.take n) ++ [.string C.R.key,.int .i64 C.R.page] ++ (etFlat V.ents).drop (n * 2):=by
         rw [hL2,putL,etFlat_app,etFlat_app,etFlat_drop]
         rfl
        have hok:EtsOk L2:=by rw [hL2];exact putL_ok S8.out.vin.ok.ents hpl (by omega) HCO3.out.key
        have HFL:=hid_ hfl
        have HOK2:=hid_ hok
        rw [← hL2] at HB
        clear hL2 hfl hok
                
        have O9:Hid (w6.ownsRow w4.heap.size 132 2 (.slice A' L2.length c') L2.length (etFlat L2)):=hid_ (by
         rw [hll,HFL.out]
         have h:=O6.out
         rw [show n+1+(V.ents.length - n)=V.ents.length+1 by omega] at h
         exact h)
        clear O6
        rw [show n+1+(V.ents.length - n)=L2.length by omega]
        obtain ⟨w7,hw7⟩:∃ z,z=w6.setCell ⟨X,4,none⟩ (.slice A' L2.length c'):=⟨_,rfl⟩
        have fw7:Fr (only X) w6 w7:=by rw [hw7];exact Fr.only1 w6 ⟨X,4,none⟩ _
        have BXw7:Hid (Blk w7 X 116 (vwA { V with ents:=L2 } (.slice A' L2.length c'))):=hid_ (by rw [hw7];exact S8.out.bx.set_ 4 _)
        change Code.wp _ _ _ _ (w6.setCell ⟨X,4,none⟩ (.slice A' L2.length c'))
        rw [← hw7]
        clear hw7
        have BRw7:=hid_ (BR8.out.fr fw7 (only_ne (by omega)))
        have hvin:VwIn w7 { V with ents:=L2 } A' c':=vin_of_own (V:={ V with ents:=L2 }) (own_fr O9.out fw7 (fun k hk e=>own_blk_ne O9.out S8.out.bx (by decide) (by rw [hk,show k=X from e]))) rfl ⟨S8.out.vin.ok.low,S8.out.vin.ok.high,S8.out.vin.ok.hk,HOK2.out⟩
        have hbo:=S8.out.bo.fr fw7 (only_ne (by omega))
        have hfr:=S8.out.fr.then_only fw7 (.inr (by omega))
        clear v4 zv4 fw7
        have hcut:=cutU_of HUP.out HB.out BXw7.out hbo hvin (show L2.length≤_ by omega) hfr
        have HCUT:=hid_ hcut
        have r0:w7.cell? ⟨wr.heap.size,0,none⟩=some (.int .i64 C.R.kind):=BRw7.out.cell' rfl
        rw [H2.out] at r0
        clear hcut
        go_wp2_with fail
        go_roundw
        case rel=>exact ⟨j,by omega,by first | rfl | (congr 1;omega),_,rfl,HCUT.out⟩
        case measure=>first | (simp [intOf];done) | (simp [intOf];omega)
      ·rw [h2] at r0
       rw [hh] at v5
       have H2:=hid_ h2
       have HH:=hid_ hh
       clear h2 hh
       as_aux_lemma =>
        have r7:w1.cell? ⟨wr.heap.size,7,none⟩=some (.string C.R.key):=BR.out.cell' rfl
        go_upto_region 23 with fail
        go_wp2_with (first | (refine wpList_load_mid rfl 116 (.tmp 6) rfl X 0 rfl (vwA V (.slice A2 V.ents.length c2)).toList _ (Blk.range7 (l:=(vwA V (.slice A2 V.ents.length c2)).toList) S3.out.bx) Tryz.underlying116 rfl rvw_size8 ?_) | (refine wpList_load_midG (by kernel_rfl) 116 (.tmp 6) rfl X 0 rfl (vwA V (.slice A2 V.ents.length c2)).toList _ (Blk.range7 (l:=(vwA V (.slice A2 V.ents.length c2)).toList) S3.out.bx) Tryz.underlying116 rfl rvw_size8 ?_))
        refine (rat_ok V A2 c2 C.R.key w1 S3.out.vin).mono ?_
        rintro e w2 ⟨k,rfl,hat,hf⟩
        have HAT:=hid_ hat
        have S4:=hid_ (S3.out.keep hf)
        have BR4:=hid_ (BR.out.fr hf id)
        have hsz4:=hf.size
        clear hat hf v5 r7 r0 S3 BR
        have hk3:k=-1∨k=0∨∃ N:Nat,0 < N∧k=(N:Int):=by
         rcases HAT.out with ⟨i,p,h,_,_⟩ | ⟨h,_⟩
         ·rcases Nat.eq_zero_or_pos i with h0 | h0
          ·exact .inr (.inl (by omega))
          ·exact .inr (.inr ⟨i,h0,h⟩)
         ·exact .inl h
        rcases hk3 with rfl | rfl | ⟨N,hN,rfl⟩
        ·have HNU:=hid_ (upM_9n H2.out HH.out (.inl (at_neg HG.out HAT.out (by omega))))
         have hj0:(0:Int)≤(c2:Int):=Int.natCast_nonneg _
         have v4:w2.cell? ⟨X,4,none⟩=some (.slice A2 V.ents.length c2):=S4.out.bx.cell' rfl
         have zv4:=S4.out.bx.frozen 4
         go_upto_region 26 with (at_builtin;refine wpList_known rfl (.int .i64 0) _ (by kernel_rfl) ?_)
         obtain ⟨w5,hw5⟩:∃ z,z=w2.setCell ⟨X,4,none⟩ (.slice A2 0 c2):=⟨_,rfl⟩
         have fw5:Fr (only X) w2 w5:=by rw [hw5];exact Fr.only1 w2 ⟨X,4,none⟩ _
         have BXw5:Hid (Blk w5 X 116 (vwA { V with ents:=[] } (.slice A2 0 c2))):=hid_ (by rw [hw5];exact S4.out.bx.set_ 4 _)
         change Code.wp _ _ _ _ (w2.setCell ⟨X,4,none⟩ (.slice A2 0 c2))
         rw [← hw5]
         clear hw5
         have BRw5:=hid_ (BR4.out.fr fw5 (only_ne (by omega)))
         clear v4 zv4
         have v1:w5.cell? ⟨X,1,none⟩=some (.string V.high):=BXw5.out.cell' rfl
         have zv1:=BXw5.out.frozen 1
         have r7:w5.cell? ⟨wr.heap.size,7,none⟩=some (.string C.R.key):=BRw5.out.cell' rfl
         go_upto_region 27 with fail
         obtain ⟨w6,hw6⟩:∃ z,z=w5.setCell ⟨X,1,none⟩ (.string C.R.key):=⟨_,rfl⟩
         have fw6:Fr (only X) w5 w6:=by rw [hw6];exact Fr.only1 w5 ⟨X,1,none⟩ _
         have BXw6:Hid (Blk w6 X 116 (vwA { V with ents:=[],high:=C.R.key } (.slice A2 0 c2))):=hid_ (by rw [hw6];exact BXw5.out.set_ 1 _)
         change Code.wp _ _ _ _ (w5.setCell ⟨X,1,none⟩ (.string C.R.key))
         rw [← hw6]
         clear hw6
         have BRw6:=hid_ (BRw5.out.fr fw6 (only_ne (by omega)))
         clear v1 zv1 r7
         have v2:w6.cell? ⟨X,2,none⟩=some (.bool V.unb):=BXw6.out.cell' rfl
         have zv2:=BXw6.out.frozen 2
         go_upto_region 28 with fail
         obtain ⟨w7,hw7⟩:∃ z,z=w6.setCell ⟨X,2,none⟩ (.bool false):=⟨_,rfl⟩
         have fw7:Fr (only X) w6 w7:=by rw [hw7];exact Fr.only1 w6 ⟨X,2,none⟩ _
         have BXw7:Hid (Blk w7 X 116 (vwA { V with ents:=[],high:=C.R.key,unb:=false } (.slice A2 0 c2))):=hid_ (by rw [hw7];exact BXw6.out.set_ 2 _)
         change Code.wp _ _ _ _ (w6.setCell ⟨X,2,none⟩ (.bool false))
         rw [← hw7]
         clear hw7
         have BRw7:=hid_ (BRw6.out.fr fw7 (only_ne (by omega)))
         clear v2 zv2
         have v3:w7.cell? ⟨X,3,none⟩=some (.int .i64 V.right):=BXw7.out.cell' rfl
         have zv3:=BXw7.out.frozen 3
         have r9:w7.cell? ⟨wr.heap.size,9,none⟩=some (.int .i64 C.R.page):=BRw7.out.cell' rfl
         go_upto_region 29 with fail
         obtain ⟨w8,hw8⟩:∃ z,z=w7.setCell ⟨X,3,none⟩ (.int .i64 C.R.page):=⟨_,rfl⟩
         have fw8:Fr (only X) w7 w8:=by rw [hw8];exact Fr.only1 w7 ⟨X,3,none⟩ _
         have BXw8:Hid (Blk w8 X 116 (vwA { V with ents:=[],high:=C.R.key,unb:=false,right:=C.R.page } (.slice A2 0 c2))):=hid_ (by rw [hw8];exact BXw7.out.set_ 3 _)
         change Code.wp _ _ _ _ (w7.setCell ⟨X,3,none⟩ (.int .i64 C.R.page))
         rw [← hw8]
         clear hw8
         have BRw8:=hid_ (BRw7.out.fr fw8 (only_ne (by omega)))
         clear v3 zv3 r9
         have fAll:Fr (only X) w2 w8:=(((fw5.then_only fw6 (.inl rfl)).then_only fw7 (.inl rfl)).then_only fw8 (.inl rfl))
         have hbo:=S4.out.bo.fr fAll (only_ne (by omega))
         have hfr:=S4.out.fr.then_only fAll (.inr (by omega))
         clear fAll fw5 fw6 fw7 fw8
         have hcut:=(show RFoldCutU w L X j false w8 from .inr ⟨rfl,by rw [HUP.out];exact HNU.out,hbo,hfr⟩)
         have HCUT:=hid_ hcut
         have r0:w8.cell? ⟨wr.heap.size,0,none⟩=some (.int .i64 C.R.kind):=BRw8.out.cell' rfl
         rw [H2.out] at r0
         clear hcut
         go_wp2_with fail
         go_roundw
         case rel=>exact ⟨j,by omega,by first | rfl | (congr 1;omega),_,rfl,HCUT.out⟩
         case measure=>first | (simp [intOf];done) | (simp [intOf];omega)
        ·have HNU:=hid_ (upM_9n H2.out HH.out (.inr (by have:=(at_pos HG.out HAT.out (by omega)).2.1;omega)))
         have hj0:(0:Int)≤(c2:Int):=Int.natCast_nonneg _
         have v4:w2.cell? ⟨X,4,none⟩=some (.slice A2 V.ents.length c2):=S4.out.bx.cell' rfl
         have zv4:=S4.out.bx.frozen 4
         go_upto_region 26 with (at_builtin;refine wpList_known rfl (.int .i64 0) _ (by kernel_rfl) ?_)
         obtain ⟨w5,hw5⟩:∃ z,z=w2.setCell ⟨X,4,none⟩ (.slice A2 0 c2):=⟨_,rfl⟩
         have fw5:Fr (only X) w2 w5:=by rw [hw5];exact Fr.only1 w2 ⟨X,4,none⟩ _
         have BXw5:Hid (Blk w5 X 116 (vwA { V with ents:=[] } (.slice A2 0 c2))):=hid_ (by rw [hw5];exact S4.out.bx.set_ 4 _)
         change Code.wp _ _ _ _ (w2.setCell ⟨X,4,none⟩ (.slice A2 0 c2))
         rw [← hw5]
         clear hw5
         have BRw5:=hid_ (BR4.out.fr fw5 (only_ne (by omega)))
         clear v4 zv4
         have v1:w5.cell? ⟨X,1,none⟩=some (.string V.high):=BXw5.out.cell' rfl
         have zv1:=BXw5.out.frozen 1
         have r7:w5.cell? ⟨wr.heap.size,7,none⟩=some (.string C.R.key):=BRw5.out.cell' rfl
         go_upto_region 27 with fail
         obtain ⟨w6,hw6⟩:∃ z,z=w5.setCell ⟨X,1,none⟩ (.string C.R.key):=⟨_,rfl⟩
         have fw6:Fr (only X) w5 w6:=by rw [hw6];exact Fr.only1 w5 ⟨X,1,none⟩ _
         have BXw6:Hid (Blk w6 X 116 (vwA { V with ents:=[],high:=C.R.key } (.slice A2 0 c2))):=hid_ (by rw [hw6];exact BXw5.out.set_ 1 _)
         change Code.wp _ _ _ _ (w5.setCell ⟨X,1,none⟩ (.string C.R.key))
         rw [← hw6]
         clear hw6
         have BRw6:=hid_ (BRw5.out.fr fw6 (only_ne (by omega)))
         clear v1 zv1 r7
         have v2:w6.cell? ⟨X,2,none⟩=some (.bool V.unb):=BXw6.out.cell' rfl
         have zv2:=BXw6.out.frozen 2
         go_upto_region 28 with fail
         obtain ⟨w7,hw7⟩:∃ z,z=w6.setCell ⟨X,2,none⟩ (.bool false):=⟨_,rfl⟩
         have fw7:Fr (only X) w6 w7:=by rw [hw7];exact Fr.only1 w6 ⟨X,2,none⟩ _
         have BXw7:Hid (Blk w7 X 116 (vwA { V with ents:=[],high:=C.R.key,unb:=false } (.slice A2 0 c2))):=hid_ (by rw [hw7];exact BXw6.out.set_ 2 _)
         change Code.wp _ _ _ _ (w6.setCell ⟨X,2,none⟩ (.bool false))
         rw [← hw7]
         clear hw7
         have BRw7:=hid_ (BRw6.out.fr fw7 (only_ne (by omega)))
         clear v2 zv2
         have v3:w7.cell? ⟨X,3,none⟩=some (.int .i64 V.right):=BXw7.out.cell' rfl
         have zv3:=BXw7.out.frozen 3
         have r9:w7.cell? ⟨wr.heap.size,9,none⟩=some (.int .i64 C.R.page):=BRw7.out.cell' rfl
         go_upto_region 29 with fail
         obtain ⟨w8,hw8⟩:∃ z,z=w7.setCell ⟨X,3,none⟩ (.int .i64 C.R.page):=⟨_,rfl⟩
         have fw8:Fr (only X) w7 w8:=by rw [hw8];exact Fr.only1 w7 ⟨X,3,none⟩ _
         have BXw8:Hid (Blk w8 X 116 (vwA { V with ents:=[],high:=C.R.key,unb:=false,right:=C.R.page } (.slice A2 0 c2))):=hid_ (by rw [hw8];exact BXw7.out.set_ 3 _)
         change Code.wp _ _ _ _ (w7.setCell ⟨X,3,none⟩ (.int .i64 C.R.page))
         rw [← hw8]
         clear hw8
         have BRw8:=hid_ (BRw7.out.fr fw8 (only_ne (by omega)))
         clear v3 zv3 r9
         have fAll:Fr (only X) w2 w8:=(((fw5.then_only fw6 (.inl rfl)).then_only fw7 (.inl rfl)).then_only fw8 (.inl rfl))
         have hbo:=S4.out.bo.fr fAll (only_ne (by omega))
         have hfr:=S4.out.fr.then_only fAll (.inr (by omega))
         clear fAll fw5 fw6 fw7 fw8
         have hcut:=(show RFoldCutU w L X j false w8 from .inr ⟨rfl,by rw [HUP.out];exact HNU.out,hbo,hfr⟩)
         have HCUT:=hid_ hcut
         have r0:w8.cell? ⟨wr.heap.size,0,none⟩=some (.int .i64 C.R.kind):=BRw8.out.cell' rfl
         rw [H2.out] at r0
         clear hcut
         go_wp2_with fail
         go_roundw
         case rel=>exact ⟨j,by omega,by first | rfl | (congr 1;omega),_,rfl,HCUT.out⟩
         case measure=>first | (simp [intOf];done) | (simp [intOf];omega)
        ·obtain ⟨hp1,hp2,hp3⟩:=at_pos HG.out HAT.out (by omega)
         have hp4:N=plN V.ents C.R.key:=by omega
         have hu:=upM_9 H2.out HH.out hp1 (by omega)
         rw [← hp4] at hu hp3
         have HB:=hid_ hu
         clear hu hp1 hp2 hp4
         have hj0:(0:Int)≤(N:Int):=Int.natCast_nonneg _
         have hj1:(N:Int)≤(V.ents.length:Int):=by omega
         have hj2:(N:Int)≤(c2:Int):=by omega
         have e2:decide (0 < N)=true:=decide_eq_true hN
         have v4:w2.cell? ⟨X,4,none⟩=some (.slice A2 V.ents.length c2):=S4.out.bx.cell' rfl
         have zv4:=S4.out.bx.frozen 4
         go_upto_region 26 with (at_builtin;refine wpList_known rfl (.int .i64 N) _ (ex_max (.tmp 139) _ _ _ rfl rfl (by omega) _) ?_)
         obtain ⟨L2,hL2⟩:∃ L2,L2=V.ents.take N:=⟨_,rfl⟩
         have hll:L2.length=N:=by rw [hL2];simp;omega
         have HL2:=hid_ hL2
         have hok:EtsOk L2:=⟨by have:=S4.out.vin.ok.ents.1;omega,fun p hp=>S4.out.vin.ok.ents.2 p (by rw [HL2.out] at hp;exact List.mem_of_mem_take hp)⟩
         have HOK2:=hid_ hok
         rw [← hL2] at HB
         clear hL2 hok
         rw [← hll]
         obtain ⟨w5,hw5⟩:∃ z,z=w2.setCell ⟨X,4,none⟩ (.slice A2 L2.length c2):=⟨_,rfl⟩
         have fw5:Fr (only X) w2 w5:=by rw [hw5];exact Fr.only1 w2 ⟨X,4,none⟩ _
         have BXw5:Hid (Blk w5 X 116 (vwA { V with ents:=L2 } (.slice A2 L2.length c2))):=hid_ (by rw [hw5];exact S4.out.bx.set_ 4 _)
         change Code.wp _ _ _ _ (w2.setCell ⟨X,4,none⟩ (.slice A2 L2.length c2))
         rw [← hw5]
         clear hw5
         have BRw5:=hid_ (BR4.out.fr fw5 (only_ne (by omega)))
         clear v4 zv4
         have v1:w5.cell? ⟨X,1,none⟩=some (.string V.high):=BXw5.out.cell' rfl
         have zv1:=BXw5.out.frozen 1
         have r7:w5.cell? ⟨wr.heap.size,7,none⟩=some (.string C.R.key):=BRw5.out.cell' rfl
         go_upto_region 27 with fail
         obtain ⟨w6,hw6⟩:∃ z,z=w5.setCell ⟨X,1,none⟩ (.string C.R.key):=⟨_,rfl⟩
         have fw6:Fr (only X) w5 w6:=by rw [hw6];exact Fr.only1 w5 ⟨X,1,none⟩ _
         have BXw6:Hid (Blk w6 X 116 (vwA { V with ents:=L2,high:=C.R.key } (.slice A2 L2.length c2))):=hid_ (by rw [hw6];exact BXw5.out.set_ 1 _)
         change Code.wp _ _ _ _ (w5.setCell ⟨X,1,none⟩ (.string C.R.key))
         rw [← hw6]
         clear hw6
         have BRw6:=hid_ (BRw5.out.fr fw6 (only_ne (by omega)))
         clear v1 zv1 r7
         have v2:w6.cell? ⟨X,2,none⟩=some (.bool V.unb):=BXw6.out.cell' rfl
         have zv2:=BXw6.out.frozen 2
         go_upto_region 28 with fail
         obtain ⟨w7,hw7⟩:∃ z,z=w6.setCell ⟨X,2,none⟩ (.bool false):=⟨_,rfl⟩
         have fw7:Fr (only X) w6 w7:=by rw [hw7];exact Fr.only1 w6 ⟨X,2,none⟩ _
         have BXw7:Hid (Blk w7 X 116 (vwA { V with ents:=L2,high:=C.R.key,unb:=false } (.slice A2 L2.length c2))):=hid_ (by rw [hw7];exact BXw6.out.set_ 2 _)
         change Code.wp _ _ _ _ (w6.setCell ⟨X,2,none⟩ (.bool false))
         rw [← hw7]
         clear hw7
         have BRw7:=hid_ (BRw6.out.fr fw7 (only_ne (by omega)))
         clear v2 zv2
         have v3:w7.cell? ⟨X,3,none⟩=some (.int .i64 V.right):=BXw7.out.cell' rfl
         have zv3:=BXw7.out.frozen 3
         have r9:w7.cell? ⟨wr.heap.size,9,none⟩=some (.int .i64 C.R.page):=BRw7.out.cell' rfl
         go_upto_region 29 with fail
         obtain ⟨w8,hw8⟩:∃ z,z=w7.setCell ⟨X,3,none⟩ (.int .i64 C.R.page):=⟨_,rfl⟩
         have fw8:Fr (only X) w7 w8:=by rw [hw8];exact Fr.only1 w7 ⟨X,3,none⟩ _
         have BXw8:Hid (Blk w8 X 116 (vwA { V with ents:=L2,high:=C.R.key,unb:=false,right:=C.R.page } (.slice A2 L2.length c2))):=hid_ (by rw [hw8];exact BXw7.out.set_ 3 _)
         change Code.wp _ _ _ _ (w7.setCell ⟨X,3,none⟩ (.int .i64 C.R.page))
         rw [← hw8]
         clear hw8
         have BRw8:=hid_ (BRw7.out.fr fw8 (only_ne (by omega)))
         clear v3 zv3 r9
         have fAll:Fr (only X) w2 w8:=(((fw5.then_only fw6 (.inl rfl)).then_only fw7 (.inl rfl)).then_only fw8 (.inl rfl))
         have hbo:=S4.out.bo.fr fAll (only_ne (by omega))
         have hfr:=S4.out.fr.then_only fAll (.inr (by omega))
         have hvin:VwIn w8 { V with ents:=L2,high:=C.R.key,unb:=false,right:=C.R.page } A2 c2:=(S4.out.vin.far8 S4.out.bx fAll).cut8 (n:=N) (by omega) HL2.out ⟨S4.out.vin.ok.low,HCO3.out.key,S4.out.vin.ok.hk,HOK2.out⟩
         clear fAll fw5 fw6 fw7 fw8
         have hcut:=cutU_of HUP.out HB.out BXw8.out hbo hvin (show L2.length≤_ by omega) hfr
         have HCUT:=hid_ hcut
         have r0:w8.cell? ⟨wr.heap.size,0,none⟩=some (.int .i64 C.R.kind):=BRw8.out.cell' rfl
         rw [H2.out] at r0
         clear hcut
         go_wp2_with fail
         go_roundw
         case rel=>exact ⟨j,by omega,by first | rfl | (congr 1;omega),_,rfl,HCUT.out⟩
         case measure=>first | (simp [intOf];done) | (simp [intOf];omega)
      ·rw [h2] at r0
       rw [hh] at v5
       have H2:=hid_ h2
       have HH:=hid_ hh
       clear h2 hh
       as_aux_lemma =>
        have r12:w1.cell? ⟨wr.heap.size,12,none⟩=some (.string C.R.hkey):=BR.out.cell' rfl
        go_upto_region 30 with fail
        go_wp2_with (first | (refine wpList_load_mid rfl 116 (.tmp 6) rfl X 0 rfl (vwA V (.slice A2 V.ents.length c2)).toList _ (Blk.range7 (l:=(vwA V (.slice A2 V.ents.length c2)).toList) S3.out.bx) Tryz.underlying116 rfl rvw_size8 ?_) | (refine wpList_load_midG (by kernel_rfl) 116 (.tmp 6) rfl X 0 rfl (vwA V (.slice A2 V.ents.length c2)).toList _ (Blk.range7 (l:=(vwA V (.slice A2 V.ents.length c2)).toList) S3.out.bx) Tryz.underlying116 rfl rvw_size8 ?_))
        refine (rat_ok V A2 c2 C.R.hkey w1 S3.out.vin).mono ?_
        rintro e w2 ⟨k,rfl,hat,hf⟩
        have HAT:=hid_ hat
        have S4:=hid_ (S3.out.keep hf)
        have BR4:=hid_ (BR.out.fr hf id)
        have hsz4:=hf.size
        clear hat hf v5 r12 r0 S3 BR
        go_upto_region 31 with fail
        (try go_frame)
        go_cut [7] (fun v wq=>∃ bb:Bool,v=.bool bb∧UpOkU V C.R { V with held:=true,hp:=C.R.hpage,hl:=C.R.hleft,hk:=C.R.hkey } bb∧Fr none_ w2 wq)
        case first =>
         have hk3:k=-1∨k=0∨∃ N:Nat,0 < N∧k=(N:Int):=by
          rcases HAT.out with ⟨i,p,h,_,_⟩ | ⟨h,_⟩
          ·rcases Nat.eq_zero_or_pos i with h0 | h0
           ·exact .inr (.inl (by omega))
           ·exact .inr (.inr ⟨i,h0,h⟩)
          ·exact .inl h
         rcases hk3 with rfl | rfl | ⟨N,hN,rfl⟩
         ·have HNU:=hid_ (upM_10n H2.out HH.out (.inl (at_neg HG.out HAT.out (by omega))))
          refine wp_region_q7 (fun w'=>Fr none_ w2 w') (by kernel_rfl) (by kernel_rfl) (Fr.refl none_ w2).drew ?_
          refine q_val7 (some 158) (.int .i64 (-1)) rfl (by kernel_rfl) (fun w' hC=>by kernel_rfl) ?_
          refine q_val7 (some 159) (.bool false) rfl (by kernel_rfl) (fun w' hC=>by kernel_rfl) ?_
          go_frame
          refine q_val7 (some 160) (.bool false) rfl (by kernel_rfl) (fun w' hC=>by kernel_rfl) ?_
          refine q_skip7 (some 161) rfl (by kernel_rfl) ?_
          go_frame
          refine q_skip7 (some 162) rfl (by kernel_rfl) ?_
          refine q_skip7 (some 163) rfl (by kernel_rfl) ?_
          go_frame
          refine q_skip7 (some 164) rfl (by kernel_rfl) ?_
          refine q_skip7 (some 165) rfl (by kernel_rfl) ?_
          go_frame
          refine q_skip7 (some 166) rfl (by kernel_rfl) ?_
          refine q_skip7 (some 167) rfl (by kernel_rfl) ?_
          go_frame
          refine q_skip7 (some 168) rfl (by kernel_rfl) ?_
          refine q_skip7 (some 169) rfl (by kernel_rfl) ?_
          go_frame
          refine q_skip7 (some 170) rfl (by kernel_rfl) ?_
          refine q_skip7 (some 171) rfl (by kernel_rfl) ?_
          go_frame
          refine q_val7 (some 172) (.bool false) rfl (by kernel_rfl) (fun w' hC=>by kernel_rfl) ?_
          refine q_val7 (some 173) (.bool false) rfl (by kernel_rfl) (fun w' hC=>by kernel_rfl) ?_
          go_frame
          refine q_skip7 (some 174) rfl (by kernel_rfl) ?_
          refine q_skip7 (some 175) rfl (by kernel_rfl) ?_
          go_frame
          refine q_skip7 (some 176) rfl (by kernel_rfl) ?_
          refine q_skip7 (some 177) rfl (by kernel_rfl) ?_
          go_frame
          refine q_skip7 (some 178) rfl (by kernel_rfl) ?_
          refine q_skip7 (some 179) rfl (by kernel_rfl) ?_
          go_frame
          refine q_skip7 (some 180) rfl (by kernel_rfl) ?_
          refine q_skip7 (some 181) rfl (by kernel_rfl) ?_
          go_frame
          refine q_skip7 (some 182) rfl (by kernel_rfl) ?_
          refine q_skip7 (some 183) rfl (by kernel_rfl) ?_
          go_frame
          refine q_skip7 (some 184) rfl (by kernel_rfl) ?_
          refine q_skip7 (some 185) rfl (by kernel_rfl) ?_
          go_frame
          refine q_val7 (some 186) (.bool false) rfl (by kernel_rfl) (fun w' hC=>by kernel_rfl) ?_
          refine q_val7 (some 7) (.bool false) rfl (by kernel_rfl) (fun w' hC=>by kernel_rfl) ?_
          go_frame
          refine q_done7 ?_
          intro w9 hf9
          have F9:=hid_ hf9
          clear hf9
          (try simp only [Exit.then])
          (try go_frame)
          (first | (rename_i hKm;refine hKm _ _ ?_) | (rename_i hKm _;refine hKm _ _ ?_) | (rename_i hKm _ _;refine hKm _ _ ?_) | (rename_i hKm _ _ _;refine hKm _ _ ?_) | (rename_i hKm _ _ _ _;refine hKm _ _ ?_) | (rename_i hKm _ _ _ _ _;refine hKm _ _ ?_))
          go_meet
          case rel=>exact ⟨false,rfl,HNU.out,F9.out⟩
         ·have HNU:=hid_ (upM_10n H2.out HH.out (.inr (by have:=(at_pos HG.out HAT.out (by omega)).2.1;omega)))
          refine wp_region_q7 (fun w'=>Fr none_ w2 w') (by kernel_rfl) (by kernel_rfl) (Fr.refl none_ w2).drew ?_
          refine q_val7 (some 158) (.int .i64 0) rfl (by kernel_rfl) (fun w' hC=>by kernel_rfl) ?_
          refine q_val7 (some 159) (.bool false) rfl (by kernel_rfl) (fun w' hC=>by kernel_rfl) ?_
          go_frame
          refine q_val7 (some 160) (.bool false) rfl (by kernel_rfl) (fun w' hC=>by kernel_rfl) ?_
          refine q_skip7 (some 161) rfl (by kernel_rfl) ?_
          go_frame
          refine q_skip7 (some 162) rfl (by kernel_rfl) ?_
          refine q_skip7 (some 163) rfl (by kernel_rfl) ?_
          go_frame
          refine q_skip7 (some 164) rfl (by kernel_rfl) ?_
          refine q_skip7 (some 165) rfl (by kernel_rfl) ?_
          go_frame
          refine q_skip7 (some 166) rfl (by kernel_rfl) ?_
          refine q_skip7 (some 167) rfl (by kernel_rfl) ?_
          go_frame
          refine q_skip7 (some 168) rfl (by kernel_rfl) ?_
          refine q_skip7 (some 169) rfl (by kernel_rfl) ?_
          go_frame
          refine q_skip7 (some 170) rfl (by kernel_rfl) ?_
          refine q_skip7 (some 171) rfl (by kernel_rfl) ?_
          go_frame
          refine q_val7 (some 172) (.bool false) rfl (by kernel_rfl) (fun w' hC=>by kernel_rfl) ?_
          refine q_val7 (some 173) (.bool false) rfl (by kernel_rfl) (fun w' hC=>by kernel_rfl) ?_
          go_frame
          refine q_skip7 (some 174) rfl (by kernel_rfl) ?_
          refine q_skip7 (some 175) rfl (by kernel_rfl) ?_
          go_frame
          refine q_skip7 (some 176) rfl (by kernel_rfl) ?_
          refine q_skip7 (some 177) rfl (by kernel_rfl) ?_
          go_frame
          refine q_skip7 (some 178) rfl (by kernel_rfl) ?_
          refine q_skip7 (some 179) rfl (by kernel_rfl) ?_
          go_frame
          refine q_skip7 (some 180) rfl (by kernel_rfl) ?_
          refine q_skip7 (some 181) rfl (by kernel_rfl) ?_
          go_frame
          refine q_skip7 (some 182) rfl (by kernel_rfl) ?_
          refine q_skip7 (some 183) rfl (by kernel_rfl) ?_
          go_frame
          refine q_skip7 (some 184) rfl (by kernel_rfl) ?_
          refine q_skip7 (some 185) rfl (by kernel_rfl) ?_
          go_frame
          refine q_val7 (some 186) (.bool false) rfl (by kernel_rfl) (fun w' hC=>by kernel_rfl) ?_
          refine q_val7 (some 7) (.bool false) rfl (by kernel_rfl) (fun w' hC=>by kernel_rfl) ?_
          go_frame
          refine q_done7 ?_
          intro w9 hf9
          have F9:=hid_ hf9
          clear hf9
          (try simp only [Exit.then])
          (try go_frame)
          (first | (rename_i hKm;refine hKm _ _ ?_) | (rename_i hKm _;refine hKm _ _ ?_) | (rename_i hKm _ _;refine hKm _ _ ?_) | (rename_i hKm _ _ _;refine hKm _ _ ?_) | (rename_i hKm _ _ _ _;refine hKm _ _ ?_) | (rename_i hKm _ _ _ _ _;refine hKm _ _ ?_))
          go_meet
          case rel=>exact ⟨false,rfl,HNU.out,F9.out⟩
         ·obtain ⟨hp1,hp2,hp3⟩:=at_pos HG.out HAT.out (by omega)
          have hp4:N=plN V.ents C.R.hkey:=by omega
          obtain ⟨M,rfl⟩:∃ M,N=M+1:=⟨N - 1,by omega⟩
          rw [← hp4] at hp3
          obtain ⟨p,hp⟩:∃ p,V.ents[M+1]?=some p:=⟨_,List.getElem?_eq_getElem hp3⟩
          obtain ⟨q,hq⟩:∃ q,V.ents[M]?=some q:=⟨_,List.getElem?_eq_getElem (by omega)⟩
          have hu:=upM_10 H2.out HH.out hp1 hp4.symm hp hq
          have HU:=hid_ hu
          obtain ⟨b3,off3,hA3,hb3,d0,d1⟩:=et_at S4.out.vin.rd hp
          obtain ⟨b4,off4,hA4,hb4,g0,g1⟩:=et_at S4.out.vin.rd hq
          obtain ⟨rfl,rfl⟩:b3=b4∧off3=off4:=by rw [hA3] at hA4;injection hA4 with hA4;injection hA4 with e1 e2;exact ⟨e1,e2⟩
          have v4:w2.cell? ⟨X,4,none⟩=some (.slice (some ⟨b3,off3,none⟩) V.ents.length c2):=by rw [← hA3];exact S4.out.bx.cell' rfl
          have r10:w2.cell? ⟨wr.heap.size,10,none⟩=some (.int .i64 C.R.hpage):=BR4.out.cell' rfl
          have r11:w2.cell? ⟨wr.heap.size,11,none⟩=some (.int .i64 C.R.hleft):=BR4.out.cell' rfl
          have hgt:decide ((0:Int) < ((M+1:Nat):Int))=true:=decide_eq_true (by omega)
          have hsub:IntKind.i64.wrap (((M+1:Nat):Int) - 1)=(M:Int):=by rw [show ((M+1:Nat):Int) - 1=(M:Int) by omega];exact IntWalk.i64_in _ (by omega)
          clear hu hp hq hp1 hp2 hp4 hA3 hA4 d0 g0
          cases hb1:(p.2==C.R.hpage) with
          | false =>
           have hu:=HU.out
           rw [hb1] at hu
           have HU1:=hid_ hu
           clear hu
           refine wp_region_q7 (fun w'=>Fr none_ w2 w') (by kernel_rfl) (by kernel_rfl) (Fr.refl none_ w2).drew ?_
           refine q_val7 (some 158) (.int .i64 (M+1:Nat)) rfl (by kernel_rfl) (fun w' hC=>by kernel_rfl) ?_
           refine q_bool7 (some 159) (decide ((0:Int) < ((M+1:Nat):Int))) true (hgt) rfl (by kernel_rfl) (fun w' hC=>by kernel_rfl) ?_
           go_frame
           refine q_val7 (some 160) (.bool true) rfl (by kernel_rfl) (fun w' hC=>by kernel_rfl) ?_
           refine q_val7 (some 161) (.pointer (some ⟨X,4,none⟩)) rfl (by kernel_rfl) (fun w' hC=>by kernel_rfl) ?_
           go_frame
           refine q_cell7 (some 162) (.slice (some ⟨b3,off3,none⟩) V.ents.length c2) 49 (.tmp 161) ⟨X,4,none⟩ _ rfl (by kernel_rfl) rfl (by kernel_rfl) (fun w' hC=>cellFr v4 hC) Tryz.underlying49 rfl ?_
           refine q_val7 (some 163) (.int .i64 (M+1:Nat)) rfl (by kernel_rfl) (fun w' hC=>by kernel_rfl) ?_
           go_frame
           refine q_val7 (some 164) (.int .i64 (M+1:Nat)) rfl (by kernel_rfl) (fun w' hC=>ex_max (.tmp 163) _ _ _ rfl (by kernel_rfl) (by omega) w') ?_
           refine q_val7 (some 165) (.pointer (some ⟨b3,(off3+(M+1) * 2),none⟩)) rfl (by kernel_rfl) (fun w' hC=>ex_index 49 132 (.tmp 162) (.tmp 164) b3 off3 (M+1) V.ents.length c2 rfl (by kernel_rfl) (by kernel_rfl) Tryz.underlying49 ent_sz (by omega) w') ?_
           go_frame
           refine q_val7 (some 166) (.pointer (some ⟨b3,(off3+(M+1) * 2)+1,none⟩)) rfl (by kernel_rfl) (fun w' hC=>by kernel_rfl) ?_
           refine q_cell7 (some 167) (.int .i64 p.2) 3 (.tmp 166) ⟨b3,(off3+(M+1) * 2)+1,none⟩ _ rfl (by kernel_rfl) rfl (by kernel_rfl) (fun w' hC=>cellFr d1 hC) Tryz.underlying3 rfl ?_
           go_frame
           refine q_val7 (some 168) (.pointer (some ⟨wr.heap.size,10,none⟩)) rfl (by kernel_rfl) (fun w' hC=>by kernel_rfl) ?_
           refine q_val7 (some 169) (.pointer (some ⟨wr.heap.size,10,none⟩)) rfl (by kernel_rfl) (fun w' hC=>by kernel_rfl) ?_
           go_frame
           refine q_cell7 (some 170) (.int .i64 C.R.hpage) 3 (.tmp 169) ⟨wr.heap.size,10,none⟩ _ rfl (by kernel_rfl) rfl (by kernel_rfl) (fun w' hC=>cellFr r10 hC) Tryz.underlying3 rfl ?_
           refine q_bool7 (some 171) (p.2==C.R.hpage) false (hb1) rfl (by kernel_rfl) (fun w' hC=>by kernel_rfl) ?_
           go_frame
           refine q_val7 (some 172) (.bool false) rfl (by kernel_rfl) (fun w' hC=>by kernel_rfl) ?_
           refine q_val7 (some 173) (.bool false) rfl (by kernel_rfl) (fun w' hC=>by kernel_rfl) ?_
           go_frame
           refine q_skip7 (some 174) rfl (by kernel_rfl) ?_
           refine q_skip7 (some 175) rfl (by kernel_rfl) ?_
           go_frame
           refine q_skip7 (some 176) rfl (by kernel_rfl) ?_
           refine q_skip7 (some 177) rfl (by kernel_rfl) ?_
           go_frame
           refine q_skip7 (some 178) rfl (by kernel_rfl) ?_
           refine q_skip7 (some 179) rfl (by kernel_rfl) ?_
           go_frame
           refine q_skip7 (some 180) rfl (by kernel_rfl) ?_
           refine q_skip7 (some 181) rfl (by kernel_rfl) ?_
           go_frame
           refine q_skip7 (some 182) rfl (by kernel_rfl) ?_
           refine q_skip7 (some 183) rfl (by kernel_rfl) ?_
           go_frame
           refine q_skip7 (some 184) rfl (by kernel_rfl) ?_
           refine q_skip7 (some 185) rfl (by kernel_rfl) ?_
           go_frame
           refine q_val7 (some 186) (.bool false) rfl (by kernel_rfl) (fun w' hC=>by kernel_rfl) ?_
           refine q_val7 (some 7) (.bool false) rfl (by kernel_rfl) (fun w' hC=>by kernel_rfl) ?_
           go_frame
           refine q_done7 ?_
           intro w9 hf9
           have F9:=hid_ hf9
           clear hf9
           (try simp only [Exit.then])
           (try go_frame)
           (first | (rename_i hKm;refine hKm _ _ ?_) | (rename_i hKm _;refine hKm _ _ ?_) | (rename_i hKm _ _;refine hKm _ _ ?_) | (rename_i hKm _ _ _;refine hKm _ _ ?_) | (rename_i hKm _ _ _ _;refine hKm _ _ ?_) | (rename_i hKm _ _ _ _ _;refine hKm _ _ ?_))
           go_meet
           case rel=>exact ⟨false,rfl,HU1.out,F9.out⟩
          | true =>
           have hu:=HU.out
           rw [hb1] at hu
           have HU1:=hid_ hu
           clear hu
           cases hb2:(q.2==C.R.hleft) with
           | false =>
            have hu:=HU1.out
            rw [hb2] at hu
            have HU2:=hid_ hu
            clear hu
            refine wp_region_q7 (fun w'=>Fr none_ w2 w') (by kernel_rfl) (by kernel_rfl) (Fr.refl none_ w2).drew ?_
            refine q_val7 (some 158) (.int .i64 (M+1:Nat)) rfl (by kernel_rfl) (fun w' hC=>by kernel_rfl) ?_
            refine q_bool7 (some 159) (decide ((0:Int) < ((M+1:Nat):Int))) true (hgt) rfl (by kernel_rfl) (fun w' hC=>by kernel_rfl) ?_
            go_frame
            refine q_val7 (some 160) (.bool true) rfl (by kernel_rfl) (fun w' hC=>by kernel_rfl) ?_
            refine q_val7 (some 161) (.pointer (some ⟨X,4,none⟩)) rfl (by kernel_rfl) (fun w' hC=>by kernel_rfl) ?_
            go_frame
            refine q_cell7 (some 162) (.slice (some ⟨b3,off3,none⟩) V.ents.length c2) 49 (.tmp 161) ⟨X,4,none⟩ _ rfl (by kernel_rfl) rfl (by kernel_rfl) (fun w' hC=>cellFr v4 hC) Tryz.underlying49 rfl ?_
            refine q_val7 (some 163) (.int .i64 (M+1:Nat)) rfl (by kernel_rfl) (fun w' hC=>by kernel_rfl) ?_
            go_frame
            refine q_val7 (some 164) (.int .i64 (M+1:Nat)) rfl (by kernel_rfl) (fun w' hC=>ex_max (.tmp 163) _ _ _ rfl (by kernel_rfl) (by omega) w') ?_
            refine q_val7 (some 165) (.pointer (some ⟨b3,(off3+(M+1) * 2),none⟩)) rfl (by kernel_rfl) (fun w' hC=>ex_index 49 132 (.tmp 162) (.tmp 164) b3 off3 (M+1) V.ents.length c2 rfl (by kernel_rfl) (by kernel_rfl) Tryz.underlying49 ent_sz (by omega) w') ?_
            go_frame
            refine q_val7 (some 166) (.pointer (some ⟨b3,(off3+(M+1) * 2)+1,none⟩)) rfl (by kernel_rfl) (fun w' hC=>by kernel_rfl) ?_
            refine q_cell7 (some 167) (.int .i64 p.2) 3 (.tmp 166) ⟨b3,(off3+(M+1) * 2)+1,none⟩ _ rfl (by kernel_rfl) rfl (by kernel_rfl) (fun w' hC=>cellFr d1 hC) Tryz.underlying3 rfl ?_
            go_frame
            refine q_val7 (some 168) (.pointer (some ⟨wr.heap.size,10,none⟩)) rfl (by kernel_rfl) (fun w' hC=>by kernel_rfl) ?_
            refine q_val7 (some 169) (.pointer (some ⟨wr.heap.size,10,none⟩)) rfl (by kernel_rfl) (fun w' hC=>by kernel_rfl) ?_
            go_frame
            refine q_cell7 (some 170) (.int .i64 C.R.hpage) 3 (.tmp 169) ⟨wr.heap.size,10,none⟩ _ rfl (by kernel_rfl) rfl (by kernel_rfl) (fun w' hC=>cellFr r10 hC) Tryz.underlying3 rfl ?_
            refine q_bool7 (some 171) (p.2==C.R.hpage) true (hb1) rfl (by kernel_rfl) (fun w' hC=>by kernel_rfl) ?_
            go_frame
            refine q_val7 (some 172) (.bool true) rfl (by kernel_rfl) (fun w' hC=>by kernel_rfl) ?_
            refine q_val7 (some 173) (.bool true) rfl (by kernel_rfl) (fun w' hC=>by kernel_rfl) ?_
            go_frame
            refine q_val7 (some 174) (.pointer (some ⟨X,4,none⟩)) rfl (by kernel_rfl) (fun w' hC=>by kernel_rfl) ?_
            refine q_cell7 (some 175) (.slice (some ⟨b3,off3,none⟩) V.ents.length c2) 49 (.tmp 174) ⟨X,4,none⟩ _ rfl (by kernel_rfl) rfl (by kernel_rfl) (fun w' hC=>cellFr v4 hC) Tryz.underlying49 rfl ?_
            go_frame
            refine q_val7 (some 176) (.int .i64 (M+1:Nat)) rfl (by kernel_rfl) (fun w' hC=>by kernel_rfl) ?_
            refine q_int7 (some 177) (IntKind.i64.wrap (((M+1:Nat):Int) - 1)) ((M:Nat)) (hsub) rfl (by kernel_rfl) (fun w' hC=>by kernel_rfl) ?_
            go_frame
            refine q_val7 (some 178) (.int .i64 (M:Nat)) rfl (by kernel_rfl) (fun w' hC=>ex_max (.tmp 177) _ _ _ rfl (by kernel_rfl) (by omega) w') ?_
            refine q_val7 (some 179) (.pointer (some ⟨b3,(off3+M * 2),none⟩)) rfl (by kernel_rfl) (fun w' hC=>ex_index 49 132 (.tmp 175) (.tmp 178) b3 off3 M V.ents.length c2 rfl (by kernel_rfl) (by kernel_rfl) Tryz.underlying49 ent_sz (by omega) w') ?_
            go_frame
            refine q_val7 (some 180) (.pointer (some ⟨b3,(off3+M * 2)+1,none⟩)) rfl (by kernel_rfl) (fun w' hC=>by kernel_rfl) ?_
            refine q_cell7 (some 181) (.int .i64 q.2) 3 (.tmp 180) ⟨b3,(off3+M * 2)+1,none⟩ _ rfl (by kernel_rfl) rfl (by kernel_rfl) (fun w' hC=>cellFr g1 hC) Tryz.underlying3 rfl ?_
            go_frame
            refine q_val7 (some 182) (.pointer (some ⟨wr.heap.size,10,none⟩)) rfl (by kernel_rfl) (fun w' hC=>by kernel_rfl) ?_
            refine q_val7 (some 183) (.pointer (some ⟨wr.heap.size,11,none⟩)) rfl (by kernel_rfl) (fun w' hC=>by kernel_rfl) ?_
            go_frame
            refine q_cell7 (some 184) (.int .i64 C.R.hleft) 3 (.tmp 183) ⟨wr.heap.size,11,none⟩ _ rfl (by kernel_rfl) rfl (by kernel_rfl) (fun w' hC=>cellFr r11 hC) Tryz.underlying3 rfl ?_
            refine q_bool7 (some 185) (q.2==C.R.hleft) false (hb2) rfl (by kernel_rfl) (fun w' hC=>by kernel_rfl) ?_
            go_frame
            refine q_val7 (some 186) (.bool false) rfl (by kernel_rfl) (fun w' hC=>by kernel_rfl) ?_
            refine q_val7 (some 7) (.bool false) rfl (by kernel_rfl) (fun w' hC=>by kernel_rfl) ?_
            go_frame
            refine q_done7 ?_
            intro w9 hf9
            have F9:=hid_ hf9
            clear hf9
            (try simp only [Exit.then])
            (try go_frame)
            (first | (rename_i hKm;refine hKm _ _ ?_) | (rename_i hKm _;refine hKm _ _ ?_) | (rename_i hKm _ _;refine hKm _ _ ?_) | (rename_i hKm _ _ _;refine hKm _ _ ?_) | (rename_i hKm _ _ _ _;refine hKm _ _ ?_) | (rename_i hKm _ _ _ _ _;refine hKm _ _ ?_))
            go_meet
            case rel=>exact ⟨false,rfl,HU2.out,F9.out⟩
           | true =>
            have hu:=HU1.out
            rw [hb2] at hu
            have HU2:=hid_ hu
            clear hu
            refine wp_region_q7 (fun w'=>Fr none_ w2 w') (by kernel_rfl) (by kernel_rfl) (Fr.refl none_ w2).drew ?_
            refine q_val7 (some 158) (.int .i64 (M+1:Nat)) rfl (by kernel_rfl) (fun w' hC=>by kernel_rfl) ?_
            refine q_bool7 (some 159) (decide ((0:Int) < ((M+1:Nat):Int))) true (hgt) rfl (by kernel_rfl) (fun w' hC=>by kernel_rfl) ?_
            go_frame
            refine q_val7 (some 160) (.bool true) rfl (by kernel_rfl) (fun w' hC=>by kernel_rfl) ?_
            refine q_val7 (some 161) (.pointer (some ⟨X,4,none⟩)) rfl (by kernel_rfl) (fun w' hC=>by kernel_rfl) ?_
            go_frame
            refine q_cell7 (some 162) (.slice (some ⟨b3,off3,none⟩) V.ents.length c2) 49 (.tmp 161) ⟨X,4,none⟩ _ rfl (by kernel_rfl) rfl (by kernel_rfl) (fun w' hC=>cellFr v4 hC) Tryz.underlying49 rfl ?_
            refine q_val7 (some 163) (.int .i64 (M+1:Nat)) rfl (by kernel_rfl) (fun w' hC=>by kernel_rfl) ?_
            go_frame
            refine q_val7 (some 164) (.int .i64 (M+1:Nat)) rfl (by kernel_rfl) (fun w' hC=>ex_max (.tmp 163) _ _ _ rfl (by kernel_rfl) (by omega) w') ?_
            refine q_val7 (some 165) (.pointer (some ⟨b3,(off3+(M+1) * 2),none⟩)) rfl (by kernel_rfl) (fun w' hC=>ex_index 49 132 (.tmp 162) (.tmp 164) b3 off3 (M+1) V.ents.length c2 rfl (by kernel_rfl) (by kernel_rfl) Tryz.underlying49 ent_sz (by omega) w') ?_
            go_frame
            refine q_val7 (some 166) (.pointer (some ⟨b3,(off3+(M+1) * 2)+1,none⟩)) rfl (by kernel_rfl) (fun w' hC=>by kernel_rfl) ?_
            refine q_cell7 (some 167) (.int .i64 p.2) 3 (.tmp 166) ⟨b3,(off3+(M+1) * 2)+1,none⟩ _ rfl (by kernel_rfl) rfl (by kernel_rfl) (fun w' hC=>cellFr d1 hC) Tryz.underlying3 rfl ?_
            go_frame
            refine q_val7 (some 168) (.pointer (some ⟨wr.heap.size,10,none⟩)) rfl (by kernel_rfl) (fun w' hC=>by kernel_rfl) ?_
            refine q_val7 (some 169) (.pointer (some ⟨wr.heap.size,10,none⟩)) rfl (by kernel_rfl) (fun w' hC=>by kernel_rfl) ?_
            go_frame
            refine q_cell7 (some 170) (.int .i64 C.R.hpage) 3 (.tmp 169) ⟨wr.heap.size,10,none⟩ _ rfl (by kernel_rfl) rfl (by kernel_rfl) (fun w' hC=>cellFr r10 hC) Tryz.underlying3 rfl ?_
            refine q_bool7 (some 171) (p.2==C.R.hpage) true (hb1) rfl (by kernel_rfl) (fun w' hC=>by kernel_rfl) ?_
            go_frame
            refine q_val7 (some 172) (.bool true) rfl (by kernel_rfl) (fun w' hC=>by kernel_rfl) ?_
            refine q_val7 (some 173) (.bool true) rfl (by kernel_rfl) (fun w' hC=>by kernel_rfl) ?_
            go_frame
            refine q_val7 (some 174) (.pointer (some ⟨X,4,none⟩)) rfl (by kernel_rfl) (fun w' hC=>by kernel_rfl) ?_
            refine q_cell7 (some 175) (.slice (some ⟨b3,off3,none⟩) V.ents.length c2) 49 (.tmp 174) ⟨X,4,none⟩ _ rfl (by kernel_rfl) rfl (by kernel_rfl) (fun w' hC=>cellFr v4 hC) Tryz.underlying49 rfl ?_
            go_frame
            refine q_val7 (some 176) (.int .i64 (M+1:Nat)) rfl (by kernel_rfl) (fun w' hC=>by kernel_rfl) ?_
            refine q_int7 (some 177) (IntKind.i64.wrap (((M+1:Nat):Int) - 1)) ((M:Nat)) (hsub) rfl (by kernel_rfl) (fun w' hC=>by kernel_rfl) ?_
            go_frame
            refine q_val7 (some 178) (.int .i64 (M:Nat)) rfl (by kernel_rfl) (fun w' hC=>ex_max (.tmp 177) _ _ _ rfl (by kernel_rfl) (by omega) w') ?_
            refine q_val7 (some 179) (.pointer (some ⟨b3,(off3+M * 2),none⟩)) rfl (by kernel_rfl) (fun w' hC=>ex_index 49 132 (.tmp 175) (.tmp 178) b3 off3 M V.ents.length c2 rfl (by kernel_rfl) (by kernel_rfl) Tryz.underlying49 ent_sz (by omega) w') ?_
            go_frame
            refine q_val7 (some 180) (.pointer (some ⟨b3,(off3+M * 2)+1,none⟩)) rfl (by kernel_rfl) (fun w' hC=>by kernel_rfl) ?_
            refine q_cell7 (some 181) (.int .i64 q.2) 3 (.tmp 180) ⟨b3,(off3+M * 2)+1,none⟩ _ rfl (by kernel_rfl) rfl (by kernel_rfl) (fun w' hC=>cellFr g1 hC) Tryz.underlying3 rfl ?_
            go_frame
            refine q_val7 (some 182) (.pointer (some ⟨wr.heap.size,10,none⟩)) rfl (by kernel_rfl) (fun w' hC=>by kernel_rfl) ?_
            refine q_val7 (some 183) (.pointer (some ⟨wr.heap.size,11,none⟩)) rfl (by kernel_rfl) (fun w' hC=>by kernel_rfl) ?_
            go_frame
            refine q_cell7 (some 184) (.int .i64 C.R.hleft) 3 (.tmp 183) ⟨wr.heap.size,11,none⟩ _ rfl (by kernel_rfl) rfl (by kernel_rfl) (fun w' hC=>cellFr r11 hC) Tryz.underlying3 rfl ?_
            refine q_bool7 (some 185) (q.2==C.R.hleft) true (hb2) rfl (by kernel_rfl) (fun w' hC=>by kernel_rfl) ?_
            go_frame
            refine q_val7 (some 186) (.bool true) rfl (by kernel_rfl) (fun w' hC=>by kernel_rfl) ?_
            refine q_val7 (some 7) (.bool true) rfl (by kernel_rfl) (fun w' hC=>by kernel_rfl) ?_
            go_frame
            refine q_done7 ?_
            intro w9 hf9
            have F9:=hid_ hf9
            clear hf9
            (try simp only [Exit.then])
            (try go_frame)
            (first | (rename_i hKm;refine hKm _ _ ?_) | (rename_i hKm _;refine hKm _ _ ?_) | (rename_i hKm _ _;refine hKm _ _ ?_) | (rename_i hKm _ _ _;refine hKm _ _ ?_) | (rename_i hKm _ _ _ _;refine hKm _ _ ?_) | (rename_i hKm _ _ _ _ _;refine hKm _ _ ?_))
            go_meet
            case rel=>exact ⟨true,rfl,HU2.out,F9.out⟩
        case rest =>
        obtain ⟨bb,rfl,hbb,hf⟩:=hcut
        obtain ⟨w3,rfl⟩:∃ z:World,z=wc:=⟨_,rfl⟩
        have HB:=hid_ hbb
        have S5:=hid_ (S4.out.keep hf)
        have BR5:=hid_ (BR4.out.fr hf id)
        have hsz5:=hf.size
        clear hbb hf S4 BR4 HAT
        have v5:w3.cell? ⟨X,5,none⟩=some (.bool V.held):=S5.out.bx.cell' rfl
        have zv5:=S5.out.bx.frozen 5
        go_upto_region 33 with fail
        obtain ⟨w5,hw5⟩:∃ z,z=w3.setCell ⟨X,5,none⟩ (.bool true):=⟨_,rfl⟩
        have fw5:Fr (only X) w3 w5:=by rw [hw5];exact Fr.only1 w3 ⟨X,5,none⟩ _
        have BXw5:Hid (Blk w5 X 116 (vwA { V with held:=true } (.slice A2 V.ents.length c2))):=hid_ (by rw [hw5];exact S5.out.bx.set_ 5 _)
        change Code.wp _ _ _ _ (w3.setCell ⟨X,5,none⟩ (.bool true))
        rw [← hw5]
        clear hw5
        have BRw5:=hid_ (BR5.out.fr fw5 (only_ne (by omega)))
        clear v5 zv5
        have v6:w5.cell? ⟨X,6,none⟩=some (.int .i64 V.hp):=BXw5.out.cell' rfl
        have zv6:=BXw5.out.frozen 6
        have v7:w5.cell? ⟨X,7,none⟩=some (.int .i64 V.hl):=BXw5.out.cell' rfl
        have zv7:=BXw5.out.frozen 7
        have v8:w5.cell? ⟨X,8,none⟩=some (.string V.hk):=BXw5.out.cell' rfl
        have zv8:=BXw5.out.frozen 8
        have r10:w5.cell? ⟨wr.heap.size,10,none⟩=some (.int .i64 C.R.hpage):=BRw5.out.cell' rfl
        have r11:w5.cell? ⟨wr.heap.size,11,none⟩=some (.int .i64 C.R.hleft):=BRw5.out.cell' rfl
        have r12:w5.cell? ⟨wr.heap.size,12,none⟩=some (.string C.R.hkey):=BRw5.out.cell' rfl
        go_upto_region 34 with fail
        obtain ⟨w6,hw6⟩:∃ z,z=((w5.setCell ⟨X,6,none⟩ (.int .i64 C.R.hpage)).setCell ⟨X,7,none⟩ (.int .i64 C.R.hleft)).setCell ⟨X,8,none⟩ (.string C.R.hkey):=⟨_,rfl⟩
        have fw6:Fr (only X) w5 w6:=by rw [hw6];exact (((Fr.refl (only X) w5).setCell (p:=⟨X,6,none⟩) (.inl (Eq.refl _)) _).setCell (p:=⟨X,7,none⟩) (.inl (Eq.refl _)) _).setCell (p:=⟨X,8,none⟩) (.inl (Eq.refl _)) _
        have BXw6:Hid (Blk w6 X 116 (vwA { V with held:=true,hp:=C.R.hpage,hl:=C.R.hleft,hk:=C.R.hkey } (.slice A2 V.ents.length c2))):=hid_ (by rw [hw6];exact ((BXw5.out.set_ 6 _).set_ 7 _).set_ 8 _)
        change Code.wp _ _ _ _ (((w5.setCell ⟨X,6,none⟩ (.int .i64 C.R.hpage)).setCell ⟨X,7,none⟩ (.int .i64 C.R.hleft)).setCell ⟨X,8,none⟩ (.string C.R.hkey))
        rw [← hw6]
        clear hw6
        have BRw6:=hid_ (BRw5.out.fr fw6 (only_ne (by omega)))
        have fAll:Fr (only X) w3 w6:=fw5.then_only fw6 (.inl rfl)
        clear v6 v7 v8 zv6 zv7 zv8 fw6 r10 r11 r12
        have hvin0:=S5.out.vin.far8 S5.out.bx fAll
        have hvin:VwIn w6 { V with held:=true,hp:=C.R.hpage,hl:=C.R.hleft,hk:=C.R.hkey } A2 c2:=⟨hvin0.rd,hvin0.cap,hvin0.capm,⟨hvin0.ok.low,hvin0.ok.high,HCO3.out.hkey,hvin0.ok.ents⟩⟩
        have hbo:=S5.out.bo.fr fAll (only_ne (by omega))
        have hfr:=S5.out.fr.then_only fAll (.inr (by omega))
        clear fAll hvin0 fw5
        have hcut:=cutU_of HUP.out HB.out BXw6.out hbo hvin (show V.ents.length≤_ by omega) hfr
        have HCUT:=hid_ hcut
        have r0:w6.cell? ⟨wr.heap.size,0,none⟩=some (.int .i64 C.R.kind):=BRw6.out.cell' rfl
        rw [H2.out] at r0
        clear hcut
        go_wp2_with fail
        go_roundw
        case rel=>exact ⟨j,by omega,by first | rfl | (congr 1;omega),_,rfl,HCUT.out⟩
        case measure=>first | (simp [intOf];done) | (simp [intOf];omega)
      ·rw [h2] at r0
       rw [hh] at v5
       have H2:=hid_ h2
       have HH:=hid_ hh
       clear h2 hh
       as_aux_lemma =>
        have v8:w1.cell? ⟨X,8,none⟩=some (.string V.hk):=S3.out.bx.cell' rfl
        go_upto_region 35 with fail
        go_wp2_with (first | (refine wpList_load_mid rfl 116 (.tmp 6) rfl X 0 rfl (vwA V (.slice A2 V.ents.length c2)).toList _ (Blk.range7 (l:=(vwA V (.slice A2 V.ents.length c2)).toList) S3.out.bx) Tryz.underlying116 rfl rvw_size8 ?_) | (refine wpList_load_midG (by kernel_rfl) 116 (.tmp 6) rfl X 0 rfl (vwA V (.slice A2 V.ents.length c2)).toList _ (Blk.range7 (l:=(vwA V (.slice A2 V.ents.length c2)).toList) S3.out.bx) Tryz.underlying116 rfl rvw_size8 ?_))
        refine (rat_ok V A2 c2 V.hk w1 S3.out.vin).mono ?_
        rintro e w2 ⟨k,rfl,hat,hf⟩
        have HAT:=hid_ hat
        have S4:=hid_ (S3.out.keep hf)
        have BR4:=hid_ (BR.out.fr hf id)
        have hsz4:=hf.size
        have hs6:=S4.out.fr.size
        clear hat hf v5 v8 r0 S3 BR
        have hkp:0≤k:=by
         rcases Int.lt_or_le k 0 with h | h
         ·have:=at_neg HG.out HAT.out h
          rw [(HG.out.h HH.out).1] at this
          cases this
         ·exact h
        obtain ⟨hp1,hp2,hp3⟩:=at_pos HG.out HAT.out hkp
        obtain ⟨N,hN⟩:∃ N,N=plN V.ents V.hk:=⟨_,rfl⟩
        rw [← hN] at hp2 hp3
        have hu:=upM_11 H2.out HH.out
        rw [← hN] at hu
        have HB:=hid_ hu
        subst hp2
        clear hu hp1 hN hkp HAT
        have hj0:(0:Int)≤(N:Int):=Int.natCast_nonneg _
        have hw4:IntKind.i64.wrap ((N:Int)+1)=((N+1:Nat):Int):=by rw [show (N:Int)+1=((N+1:Nat):Int) by omega];exact IntWalk.i64_in _ (by omega)
        have FL:=hid_ (etFlat_take V.ents N)
        obtain ⟨A5,hA5⟩:∃ A5,(if c2=N+1 then A2 else A2.map (·.add ((N+1) * 2)))=A5:=⟨_,rfl⟩
        have R2:=S4.out.vin.rd.cut (show N+1≤V.ents.length by omega) hcap
        rw [hA5] at R2
        have R2':=hid_ R2
        clear R2
        go_upto_region 36 with fail
        (try go_frame)
        have v4:w2.cell? ⟨X,4,none⟩=some (.slice A2 V.ents.length c2):=S4.out.bx.cell' rfl
        have hS0:(fun w':World=>Fr none_ w2 w') w2.drew:=(Fr.refl none_ w2).drew
        refine wp_region_u 13 (fun w':World=>Fr none_ w2 w') (by kernel_rfl) ?_
        refine u_take 1 (some 200) (.pointer (some ⟨X,4,none⟩)) rfl rfl (by kernel_rfl) (by kernel_rfl) (by kernel_rfl) (by kernel_rfl) (fun _ _ _ h=>h) (y_val (by kernel_rfl) (fun w' hS=>by kernel_rfl)) hS0 ?_
        go_frame
        refine u_take 2 (some 201) (.slice A2 V.ents.length c2) rfl rfl (by kernel_rfl) (by kernel_rfl) (by kernel_rfl) (by kernel_rfl) (fun _ _ _ h=>h) (y_cell 49 (.tmp 200) ⟨X,4,none⟩ _ (by kernel_rfl) rfl (by kernel_rfl) (fun w' hS=>cellFr v4 hS) Tryz.underlying49 rfl) hS0 ?_
        go_frame
        refine u_take 3 (some 202) (.int .i64 N) rfl rfl (by kernel_rfl) (by kernel_rfl) (by kernel_rfl) (by kernel_rfl) (fun _ _ _ h=>h) (y_val (by kernel_rfl) (fun w' hS=>by kernel_rfl)) hS0 ?_
        go_frame
        refine u_take 4 (some 203) (.slice A2 N c2) rfl rfl (by kernel_rfl) (by kernel_rfl) (by kernel_rfl) (by kernel_rfl) (fun _ _ _ h=>h) (y_sliceHi (m:=V.ents.length) 49 (.tmp 201) (.tmp 202) 132 (by kernel_rfl) rfl Tryz.underlying49 ent_sz (by kernel_rfl) (by kernel_rfl) (by omega)) hS0 ?_
        go_frame
        refine u_take 6 (some 205) (.pointer (some ⟨X,4,none⟩)) rfl rfl (by kernel_rfl) (by kernel_rfl) (by kernel_rfl) (by kernel_rfl) (fun _ _ _ h=>h) (y_val (by kernel_rfl) (fun w' hS=>by kernel_rfl)) hS0 ?_
        go_frame
        refine u_take 7 (some 206) (.slice A2 V.ents.length c2) rfl rfl (by kernel_rfl) (by kernel_rfl) (by kernel_rfl) (by kernel_rfl) (fun _ _ _ h=>h) (y_cell 49 (.tmp 205) ⟨X,4,none⟩ _ (by kernel_rfl) rfl (by kernel_rfl) (fun w' hS=>cellFr v4 hS) Tryz.underlying49 rfl) hS0 ?_
        go_frame
        refine u_take 8 (some 207) (.int .i64 N) rfl rfl (by kernel_rfl) (by kernel_rfl) (by kernel_rfl) (by kernel_rfl) (fun _ _ _ h=>h) (y_val (by kernel_rfl) (fun w' hS=>by kernel_rfl)) hS0 ?_
        go_frame
        refine u_take 9 (some 208) (.int .i64 (N+1:Nat)) rfl rfl (by kernel_rfl) (by kernel_rfl) (by kernel_rfl) (by kernel_rfl) (fun _ _ _ h=>h) (y_int (x:=IntKind.i64.wrap ((N:Int)+1)) hw4 (by kernel_rfl) (fun w' hS=>by kernel_rfl)) hS0 ?_
        go_frame
        refine u_take 10 (some 209) (.slice A5 (V.ents.length - (N+1)) (c2 - (N+1))) rfl rfl (by kernel_rfl) (by kernel_rfl) (by kernel_rfl) (by kernel_rfl) (fun _ _ _ h=>h) (by rw [← hA5];exact y_sliceLo (n:=N+1) (m:=V.ents.length) (c:=c2) (A:=A2) 49 (.tmp 206) (.tmp 208) 132 (by kernel_rfl) rfl Tryz.underlying49 ent_sz (by kernel_rfl) (by kernel_rfl) (by omega) hcap) hS0 ?_
        go_frame
        clear v4 hS0
        obtain ⟨y1,hy1⟩:∃ z,z=w2.drew:=⟨_,rfl⟩
        have F2:Hid (Fr none_ w2 y1):=hid_ (by rw [hy1];exact (Fr.refl none_ w2).drew)
        rw [← hy1]
        clear hy1
        refine u_run 0 (some 199) (.slice (some ⟨y1.heap.size,0,none⟩) 0 0) (y1.alloc (.cells #[] 132)) rfl rfl (by kernel_rfl) (by kernel_rfl) (by kernel_rfl) (.inr (F2.out.alloc _)) ?_
        go_frame
        obtain ⟨y3,hy3⟩:∃ z,z=y1.alloc (.cells #[] 132):=⟨_,rfl⟩
        have sy3:y1.heap.size < y3.heap.size:=by rw [hy3];simp [World.size_alloc]
        have f5:Fr none_ y1 y3:=by rw [hy3];exact (Fr.refl none_ _).alloc _
        have OE:Hid (y3.ownsRow w2.heap.size 132 2 (.slice (some ⟨y1.heap.size,0,none⟩) 0 0) 0 []):=hid_ (by rw [hy3];exact own_empty _ _ _ _ (by have:=F2.out.size;omega))
        have F4:=hid_ (F2.out.then_none f5)
        rw [← hy3]
        clear hy3 f5
        refine u_one 5 rfl (by kernel_rfl) (by kernel_rfl) ?_
        refine wp_append_any _ (.tmp 199) (.tmp 203) 49 rfl w2.heap.size 132 i0 _ 2 24 Tryz.underlying49 Hi.out.1 Hi.out.2.1 Hi.out.2.2.1 Hi.out.2.2.2 rfl (by omega) (.slice (some ⟨y1.heap.size,0,none⟩) 0 0) (0) ([]) (by kernel_rfl) OE.out (A2) (N) (c2) (etFlat (V.ents.take N)) (by kernel_rfl) (by rw [FL.out];exact (S4.out.vin.rd.upto (show N≤V.ents.length by omega)).none_fr F4.out) (etFlat_one _) (by simp only [maxLen];omega) (by omega) (by have:=F4.out.size;omega) ?_
        intro A8 c9 y6 hown hgr
        simp only [Nat.zero_add,List.nil_append] at hown
        rw [Nat.zero_add]
        have sy6:=hgr.size
        have F7:=hid_ (F4.out.grown hgr (fun k hk=>.inr (by have:=(OE.out.lt k hk).1;omega)))
        have O10:=hid_ hown
        refine ⟨.inr F7.out,?_⟩
        go_frame
        clear hown hgr OE
        have O3a:=O10
        clear O10
        refine u_one 11 rfl (by kernel_rfl) (by kernel_rfl) ?_
        refine wp_append_any _ (.tmp 204) (.tmp 209) 49 rfl w2.heap.size 132 i0 _ 2 24 Tryz.underlying49 Hi.out.1 Hi.out.2.1 Hi.out.2.2.1 Hi.out.2.2.2 rfl (by omega) (.slice A8 (N) c9) (N) (etFlat (V.ents.take N)) (by kernel_rfl) O3a.out (A5) (V.ents.length - (N+1)) (c2 - (N+1)) ((etFlat V.ents).drop ((N+1) * 2)) (by kernel_rfl) (R2'.out.none_fr F7.out) (fun u hu=>etFlat_one V.ents u (List.mem_of_mem_drop hu)) (by simp only [maxLen];omega) (by omega) (by have:=F7.out.size;omega) ?_
        intro A13 c14 y11 hown hgr
        have sy11:=hgr.size
        have F12:=hid_ (F7.out.grown hgr (fun k hk=>.inr (by have:=(O3a.out.lt k hk).1;omega)))
        have O15:=hid_ hown
        refine ⟨.inr F12.out,?_⟩
        go_frame
        clear hown hgr O3a
        have O6a:=O15
        clear O15
        refine u_run 12 (some 211) (.pointer (some ⟨X,4,none⟩)) y11 rfl rfl (by kernel_rfl) (by kernel_rfl) (by kernel_rfl) (.inr F12.out) ?_
        go_frame
        have S5:=hid_ (S4.out.keep F12.out)
        have BR5:=hid_ (BR4.out.fr F12.out id)
        have hsz7:=F12.out.size
        have v4:y11.cell? ⟨X,4,none⟩=some (.slice A2 V.ents.length c2):=S5.out.bx.cell' rfl
        have zv4:=S5.out.bx.frozen 4
        refine u_one 13 rfl (by kernel_rfl) (by kernel_rfl) ?_
        go_simp
        refine u_done (by kernel_rfl) ?_
        obtain ⟨A',hA'⟩:∃ z,z=A13:=⟨_,rfl⟩
        obtain ⟨c',hc'⟩:∃ z,z=c14:=⟨_,rfl⟩
        have O6:=hid_ (own_base O6a.out hs6)
        rw [← hA',← hc'] at O6
        rw [← hA',← hc']
        clear hA' hc' O6a S4 BR4
        obtain ⟨L2,hL2⟩:∃ L2,L2=V.ents.take N ++ V.ents.drop (N+1):=⟨_,rfl⟩
        have hll:L2.length=N+(V.ents.length - (N+1)):=by rw [hL2];simp;omega
        have HFL:Hid (etFlat L2=etFlat (V.ents.take N) ++ (etFlat V.ents).drop ((N+1) * 2)):=hid_ (by rw [hL2,etFlat_app,etFlat_drop])
        have hok:EtsOk L2:=⟨by have:=S5.out.vin.ok.ents.1;omega,fun p hp=>S5.out.vin.ok.ents.2 p (by
         rw [hL2] at hp
         rcases List.mem_append.1 hp with hp | hp
         ·exact List.mem_of_mem_take hp
         ·exact List.mem_of_mem_drop hp)⟩
        have HOK2:=hid_ hok
        rw [← hL2] at HB
        rw [← hll,← HFL.out] at O6
        rw [← hll]
        clear hL2 hok
        obtain ⟨w5,hw5⟩:∃ z,z=y11.setCell ⟨X,4,none⟩ (.slice A' L2.length c'):=⟨_,rfl⟩
        have fw5:Fr (only X) y11 w5:=by rw [hw5];exact Fr.only1 y11 ⟨X,4,none⟩ _
        have BXw5:Hid (Blk w5 X 116 (vwA { V with ents:=L2 } (.slice A' L2.length c'))):=hid_ (by rw [hw5];exact S5.out.bx.set_ 4 _)
        change Exit.then _ _ _ _ (y11.setCell ⟨X,4,none⟩ (.slice A' L2.length c'))
        rw [← hw5]
        clear hw5
        have BRw5:=hid_ (BR5.out.fr fw5 (only_ne (by omega)))
        clear v4 zv4
        have v5:w5.cell? ⟨X,5,none⟩=some (.bool V.held):=BXw5.out.cell' rfl
        have zv5:=BXw5.out.frozen 5
        go_upto_region 38 with fail
        obtain ⟨w6,hw6⟩:∃ z,z=w5.setCell ⟨X,5,none⟩ (.bool false):=⟨_,rfl⟩
        have fw6:Fr (only X) w5 w6:=by rw [hw6];exact Fr.only1 w5 ⟨X,5,none⟩ _
        have BXw6:Hid (Blk w6 X 116 (vwA { V with ents:=L2,held:=false } (.slice A' L2.length c'))):=hid_ (by rw [hw6];exact BXw5.out.set_ 5 _)
        change Code.wp _ _ _ _ (w5.setCell ⟨X,5,none⟩ (.bool false))
        rw [← hw6]
        clear hw6
        have BRw6:=hid_ (BRw5.out.fr fw6 (only_ne (by omega)))
        clear v5 zv5
        have f56:Fr (only X) y11 w6:=fw5.then_only fw6 (.inl rfl)
        clear fw6
        have fw6:=f56
        clear f56
        have v6:w6.cell? ⟨X,6,none⟩=some (.int .i64 V.hp):=BXw6.out.cell' rfl
        have zv6:=BXw6.out.frozen 6
        have v7:w6.cell? ⟨X,7,none⟩=some (.int .i64 V.hl):=BXw6.out.cell' rfl
        have zv7:=BXw6.out.frozen 7
        have v8:w6.cell? ⟨X,8,none⟩=some (.string V.hk):=BXw6.out.cell' rfl
        have zv8:=BXw6.out.frozen 8
        go_upto_region 13 with fail
        obtain ⟨w7,hw7⟩:∃ z,z=((w6.setCell ⟨X,6,none⟩ (.int .i64 0)).setCell ⟨X,7,none⟩ (.int .i64 0)).setCell ⟨X,8,none⟩ (.string nilS):=⟨_,rfl⟩
        have fw7:Fr (only X) w6 w7:=by rw [hw7];exact (((Fr.refl (only X) w6).setCell (p:=⟨X,6,none⟩) (.inl (Eq.refl _)) _).setCell (p:=⟨X,7,none⟩) (.inl (Eq.refl _)) _).setCell (p:=⟨X,8,none⟩) (.inl (Eq.refl _)) _
        have BXw7:Hid (Blk w7 X 116 (vwA { V with ents:=L2,held:=false,hp:=0,hl:=0,hk:=nilS } (.slice A' L2.length c'))):=hid_ (by rw [hw7];exact ((BXw6.out.set_ 6 _).set_ 7 _).set_ 8 _)
        change Code.wp _ _ _ _ (((w6.setCell ⟨X,6,none⟩ (.int .i64 0)).setCell ⟨X,7,none⟩ (.int .i64 0)).setCell ⟨X,8,none⟩ (.string nilS))
        rw [← hw7]
        clear hw7
        have BRw7:=hid_ (BRw6.out.fr fw7 (only_ne (by omega)))
        have fAll:Fr (only X) y11 w7:=fw6.then_only fw7 (.inl rfl)
        clear v6 v7 v8 zv6 zv7 zv8 fw7
        have hvin:VwIn w7 { V with ents:=L2,held:=false,hp:=0,hl:=0,hk:=nilS } A' c':=vin_of_own (V:={ V with ents:=L2,held:=false,hp:=0,hl:=0,hk:=nilS }) (own_fr O6.out fAll (fun k hk e=>own_blk_ne O6.out S5.out.bx (by decide) (by rw [hk,show k=X from e]))) rfl ⟨S5.out.vin.ok.low,S5.out.vin.ok.high,SzOk.nil,HOK2.out⟩
        have hbo:=S5.out.bo.fr fAll (only_ne (by omega))
        have hfr:=S5.out.fr.then_only fAll (.inr (by omega))
        clear fAll fw5 fw6
        have hcut:=cutU_of HUP.out HB.out BXw7.out hbo hvin (show L2.length≤_ by omega) hfr
        have HCUT:=hid_ hcut
        clear hcut
        go_wp2_with fail
        go_roundw
        case rel=>exact ⟨j,by omega,by first | rfl | (congr 1;omega),_,rfl,HCUT.out⟩
        case measure=>first | (simp [intOf];done) | (simp [intOf];omega)
end Go.Proofs.YthpkbppaaagaoaaGreat

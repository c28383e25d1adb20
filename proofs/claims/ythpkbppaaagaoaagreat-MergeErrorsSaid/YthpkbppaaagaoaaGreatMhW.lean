/- Texts of one proof, merged. -/
import Derived.Deep.QuietTactic
import Derived.BigQuiet
import Derived.BigRegion
import Derived.Test.YthpkbppaaagaoaaGreatMhA
import Derived.Test.YthpkbppaaagaoaaGreatMhB
import Derived.Test.YthpkbppaaagaoaaGreatMhG
import Derived.Test.YthpkbppaaagaoaaGreatMhV
namespace Go.Proofs.YthpkbppaaagaoaaGreat
set_option maxRecDepth 100000
set_option linter.unusedVariables false
open Go.RowKit Go.BigFrame

def RwCap (L:List Ch):Prop:=∀ C ∈ L,C.R.rows.length≤C.c∧C.c≤maxLen
structure LwRd (b0:Nat) (w:World) (V:Lw) (A:Option Addr) (c:Nat):Prop where
  rd:Reads w 2 A V.rows.length (rwFlat V.rows)
  cap:V.rows.length≤c
  capm:c≤maxLen
  ok:V.Ok
  src:(0 < V.rows.length→∀ ad,A=some ad→ad.block < b0)∨w.ownsRow b0 25 2 (.slice A V.rows.length c) V.rows.length (rwFlat V.rows)
theorem LwRd.keep {b0:Nat} {w w':World} {V:Lw} {A:Option Addr} {c:Nat} (h:LwRd b0 w V A c) (hf:Fr none_ w w'):LwRd b0 w' V A c:=⟨h.rd.none_fr hf,h.cap,h.capm,h.ok,h.src.imp id fun o=>own_none o hf⟩
theorem LwRd.of_own {b0:Nat} {w:World} {V:Lw} {A:Option Addr} {c:Nat} (h:w.ownsRow b0 25 2 (.slice A V.rows.length c) V.rows.length (rwFlat V.rows)) (ok:V.Ok):LwRd b0 w V A c:=by
  obtain ⟨A',c',e,h1,h2,_⟩:=own_parts h
  injection e with e1 e2 e3
  exact ⟨Reads.of_own h,by rw [e3];exact h1,by rw [e3];exact h2,ok,.inr h⟩
theorem LwRd.far {b0:Nat} {w w':World} {V:Lw} {A:Option Addr} {c X:Nat} {t:TypeId} {cs:Array Value} (h:LwRd b0 w V A c) (hX:Blk w X t cs) (hne:25≠t) (hb:b0≤X) (hf:Fr (only X) w w'):LwRd b0 w' V A c:=by
  rcases h.src with hs | ho
  · refine ⟨?_,h.cap,h.capm,h.ok,.inl hs⟩
    rcases Nat.eq_zero_or_pos V.rows.length with h0 | h0
    · exact ⟨h.rd.1,fun hn=>absurd hn (by omega)⟩
    · exact h.rd.fr hf fun ad e (e2:ad.block=X)=>by have:=hs h0 ad e;omega
  · have o2:=own_fr ho hf (fun k hk e=>own_blk_ne ho hX hne (by rw [hk,show k=X from e]))
    exact ⟨Reads.of_own o2,h.cap,h.capm,h.ok,.inr o2⟩
theorem row_size7:(Tryz.prog.info? 25).map (·.size)=some 2:=by kernel_rfl
theorem rview_size7:(Tryz.prog.info? 72).map (·.size)=some 6:=by kernel_rfl
theorem rhasL_ok (V:Lw) (vr:Value) (key:ByteArray) (w:World) (h1:SzOk V.low) (h2:SzOk V.high) (h3:SzOk key) :
    Calls Tryz.prog 61 #[lwV V vr,.string key] w fun e w'=>e=.returned (.bool (inS V.low V.high V.unb key))∧Fr none_ w w':=by
  have F0:=hid_ ((Fr.refl none_ w).alloc (.cells (lwA V vr) 72))
  have H:=hid_ (And.intro h1 (And.intro h2 h3))
  clear h1 h2 h3
  go_enter Tryz.func61,Tryz.ntmps61
  go_wp2_with fail
  refine (rin_ok V.low V.high V.unb key _ H.out.1.le H.out.2.1.le H.out.2.2.le).mono ?_
  rintro e w1 ⟨rfl,q,rfl⟩
  go_wp2
  go_ret
  exact ⟨rfl,F0.out.drewN q⟩
theorem LwRd.dropped {b0:Nat} {w w':World} {V:Lw} {A A':Option Addr} {c c':Nat} {key:ByteArray} (h:LwRd b0 w V A c) (hb:b0≤w.heap.size) (hf:Fr none_ w w') (h1:Reads w' 2 A' (dropR V.rows key).length (rwFlat (dropR V.rows key))) (h2:(dropR V.rows key).length≤c') (h3:c'≤maxLen)
    (hs:(A'=A∧c'=c∧dropR V.rows key=V.rows)∨w'.ownsRow w.heap.size 25 2 (.slice A' (dropR V.rows key).length c') (dropR V.rows key).length (rwFlat (dropR V.rows key))):LwRd b0 w' { V with rows:=dropR V.rows key } A' c':=by
  refine ⟨h1,h2,h3,⟨h.ok.low,h.ok.high,h.ok.rows.drop_ key⟩,?_⟩
  rcases hs with ⟨rfl,rfl,e⟩ | o
  · show (0 < (dropR V.rows key).length→_)∨_
    rw [e]
    exact (h.keep hf).src
  · exact .inr (own_base o hb)
structure RFoldSt (w:World) (L:List Ch) (X k:Nat) (V:Lw) (A:Option Addr) (c:Nat) (wr:World):Prop where
  fo:foldL ((L.drop k).map (·.R))=some V
  bx:Blk wr X 72 (lwA V (.slice A V.rows.length c))
  bo:Blk wr w.heap.size 72 lwZ
  vin:LwRd w.heap.size wr V A c
  len:V.rows.length≤(L.length - k) * 501
  fr:Fr none_ w wr
def RFoldCut (w:World) (L:List Ch) (X k:Nat) (bb:Bool) (wr:World):Prop:=
  (bb=true∧∃ (V:Lw) (A:Option Addr) (c:Nat),RFoldSt w L X k V A c wr)∨(bb=false∧foldL ((L.drop k).map (·.R))=none∧Blk wr w.heap.size 72 lwZ∧Fr none_ w wr)
def RFoldPostL (l:List Rc) (w:World) (e:Ending) (w':World):Prop:=
  (∃ V A c,(∀ R ∈ l,KindL R)∧foldL l=some V∧e=.returned (.tuple #[lwV V (.slice A V.rows.length c),.int .i64 0])∧LwRd w.heap.size w' V A c∧Fr none_ w w') ∨
  (∃ k:Int,((k=9∧∃ R ∈ l,¬ KindL R)∨(k=10∧(∀ R ∈ l,KindL R)∧foldL l=none))∧e=.returned (.tuple #[lwV Lw.zero (.slice none 0 0),.int .i64 k])∧Fr none_ w w')
def MergeB (V:Lw) (R:Rc) (bb:Bool):Prop:=bb=true ↔ (V.unb=false∧V.high=R.key∧SoundR R.key R.high R.unb R.rows∧(R.unb=true∨ltS R.key R.high=true))
theorem MergeB.up {V:Lw} {R:Rc} {bb:Bool} (h:MergeB V R bb) (h6:R.kind=6) (hg:V.gone=false) (g:GoodL V):upL V R=if bb=true then some { V with rows:=V.rows ++ R.rows,high:=R.high,unb:=R.unb,right:=R.right } else none:=by
  cases bb with
  | true =>
    rw [if_pos rfl]
    obtain ⟨h1,h2,h3,h4⟩:=h.1 rfl
    refine upL_merge_yes h6 ⟨hg,h1,h2,h3,h4⟩ (joins_of ?_ h3)
    rcases g.up with h | h
    · rw [h1] at h;cases h
    · rw [← h2];exact h
  | false =>
    rw [if_neg (by decide)]
    exact upL_merge_no h6 fun hc=>by have:=h.2 hc.1.2;cases this
theorem ch_at {L:List Ch} {k:Nat} {C:Ch} (h:L[k]?=some C):(L.map (·.R))[k]?=some C.R:=by rw [List.getElem?_map,h];rfl
def UpOk (V:Lw) (R:Rc) (V':Lw) (bb:Bool):Prop:=upL V R=if bb=true then some V' else none
theorem upL_2 {V:Lw} {R:Rc} (h:R.kind=2) (hg:V.gone=false):UpOk V R { V with rows:=putR V.rows (R.key,R.val) } (fitsR (R.key,R.val) && inS V.low V.high V.unb R.key):=by
  unfold UpOk upL
  rw [if_neg (by rw [hg];decide),if_pos h]
  simp only [Bool.and_eq_true]
theorem upL_3 {V:Lw} {R:Rc} (h:R.kind=3) (hg:V.gone=false):UpOk V R { V with rows:=dropR V.rows R.key } (inS V.low V.high V.unb R.key):=by
  unfold UpOk upL
  rw [if_neg (by rw [hg];decide),if_neg (by omega),if_pos h]
theorem upL_4 {V:Lw} {R:Rc} (h:R.kind=4) (hg:V.gone=false) (g:GoodL V):UpOk V R { V with rows:=ahR V.rows R.key,high:=R.key,unb:=false,right:=R.page } (inS V.low V.high V.unb R.key && !sEq R.key V.low):=by
  unfold UpOk upL
  rw [if_neg (by rw [hg];decide),if_neg (by omega),if_neg (by omega),if_pos h,show ahR V.rows R.key=_ from ahead_take g.right.pw]
  cases hi:inS V.low V.high V.unb R.key with
  | false=>simp
  | true =>
    have h1:=(inS_iff7.1 hi).1
    cases hs:sEq R.key V.low with
    | true =>
      have e:=sEq_iff.1 hs
      rw [if_neg (by rintro ⟨_,h2⟩;rw [e,ltS_irrefl] at h2;cases h2)]
      rfl
    | false =>
      rw [if_pos ⟨rfl,(ltS_iff_ne h1).2 fun e=>by rw [e,sEq_self] at hs;cases hs⟩]
      rfl
theorem upL_5 {V:Lw} {R:Rc} (h:R.kind=5) (hg:V.gone=false):UpOk V R { V with gone:=true } true:=by
  unfold UpOk upL
  rw [if_neg (by rw [hg];decide),h]
  rfl
theorem MergeB.ok {V:Lw} {R:Rc} {bb:Bool} (h:MergeB V R bb) (h6:R.kind=6) (hg:V.gone=false) (g:GoodL V):UpOk V R { V with rows:=V.rows ++ R.rows,high:=R.high,unb:=R.unb,right:=R.right } bb:=h.up h6 hg g
theorem RFoldSt.keep {w wr w':World} {L:List Ch} {X k:Nat} {V:Lw} {A:Option Addr} {c:Nat} (h:RFoldSt w L X k V A c wr) (hf:Fr none_ wr w'):RFoldSt w L X k V A c w':=
  ⟨h.fo,h.bx.fr hf id,h.bo.fr hf id,h.vin.keep hf,h.len,h.fr.then_none hf⟩
theorem fold_gone {w wr:World} {L:List Ch} {X j m:Nat} {V:Lw} {A:Option Addr} {c:Nat} (h:RFoldSt w L X (j+1) V A c wr) (hj:j < m) (hl:L.length=m+1) (h2:∀ (j:Nat) C,j < m+1→L[j]?=some C→(C.R.kind=1 ↔ j=m)∧(C.R.kind=5→j=0)):V.gone=false:=by
  cases hg:V.gone with
  | false=>rfl
  | true =>
    obtain ⟨r,t,e,h5⟩:=foldL_gone h.fo hg
    have hlt:j+1 < L.length:=by omega
    rw [List.drop_eq_getElem_cons hlt,List.map_cons] at e
    injection e with e1 e2
    have:=(h2 (j+1) L[j+1] (by omega) (List.getElem?_eq_getElem hlt)).2 (by rw [e1];exact h5)
    omega
theorem fold_up {w wr:World} {L:List Ch} {X j:Nat} {C:Ch} {V:Lw} {A:Option Addr} {c:Nat} (h:RFoldSt w L X (j+1) V A c wr) (hC:L[j]?=some C) (hl:j+1 < L.length):foldL ((L.drop j).map (·.R))=upL V C.R:=by
  rw [List.map_drop,foldL_at (ch_at hC) (by rw [List.length_map];exact hl),← List.map_drop,h.fo]
  rfl
theorem cut_of {w wq:World} {L:List Ch} {X j:Nat} {R:Rc} {V V':Lw} {A:Option Addr} {c:Nat} {bb:Bool} (hfo:foldL ((L.drop j).map (·.R))=upL V R) (hu:UpOk V R V' bb) (bx:Blk wq X 72 (lwA V' (.slice A V'.rows.length c)))
    (bo:Blk wq w.heap.size 72 lwZ) (vin:LwRd w.heap.size wq V' A c) (len:V'.rows.length≤(L.length - j) * 501) (fr:Fr none_ w wq):RFoldCut w L X j bb wq:=by
  cases bb with
  | true=>exact .inl ⟨rfl,V',A,c,by rw [hfo];exact hu,bx,bo,vin,len,fr⟩
  | false=>exact .inr ⟨rfl,by rw [hfo];exact hu,bo,fr⟩
theorem kind_of {L:List Ch} {n:Nat} (hn:L.length=n) (h:∀ (j:Nat) C,j < n→L[j]?=some C→KindL C.R):∀ R ∈ L.map (·.R),KindL R:=fun R hR=>by
  obtain ⟨C,hC,rfl⟩:=List.mem_map.1 hR
  obtain ⟨j,hj,e⟩:=List.mem_iff_getElem.1 hC
  exact h j C (by omega) (by rw [List.getElem?_eq_getElem hj,e])
theorem eqB {a b:Int} (h:a=b):(a==b)=true:=by simp [h]
theorem neB {a b:Int} (h:a≠b):(a==b)=false:=by simp [h]
end Go.Proofs.YthpkbppaaagaoaaGreat

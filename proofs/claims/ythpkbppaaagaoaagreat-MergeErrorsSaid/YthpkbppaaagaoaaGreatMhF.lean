/- Texts of one proof, merged: Ch. -/
import Derived.Test.YthpkbppaaagaoaaGreatMhA
import Derived.Test.YthpkbppaaagaoaaGreatMhE
namespace Go.Proofs.YthpkbppaaagaoaaGreat
open Go.RowKit
set_option maxRecDepth 100000
set_option linter.unusedVariables false

structure Ch where
  R:Rc
  A:Option Addr
  c:Nat
  B:Option Addr
  d:Nat
abbrev recL (C:Ch):List Value:=[.int .i64 C.R.kind,.string C.R.low,.string C.R.high,.bool C.R.unb,.int .i64 C.R.right,.slice C.A C.R.rows.length C.c,.slice C.B C.R.ents.length C.d,.string C.R.key,.string C.R.val,.int .i64 C.R.page,.int .i64 C.R.hpage,.int .i64 C.R.hleft,.string C.R.hkey,.int .i64 C.R.nslot,.int .i64 C.R.ngen]
structure ChOk (w:World) (C:Ch):Prop where
  rd:RecReads w C.R C.A C.B
  low:SzOk C.R.low
  high:SzOk C.R.high
  key:SzOk C.R.key
  hkey:SzOk C.R.hkey
  ents:EtsOk C.R.ents
  cap:C.R.ents.length≤C.d
  capm:C.d≤maxLen
theorem ChOk.keep {w w':World} {C:Ch} (h:ChOk w C) (hf:Fr none_ w w'):ChOk w' C:=⟨h.rd.keep hf,h.low,h.high,h.key,h.hkey,h.ents,h.cap,h.capm⟩
def ChReads (w:World) (A:Option Addr) (n:Nat) (L:List Ch):Prop:=
  L.length=n∧(0 < n→∃ b off,A=some ⟨b,off,none⟩∧b < w.heap.size∧∀ (k:Nat) (C:Ch),L[k]?=some C→w.rangeAt b (off+k * 15) (recL C)∧ChOk w C)
theorem ChReads.keep {w w':World} {A:Option Addr} {n:Nat} {L:List Ch} (h:ChReads w A n L) (hf:Fr none_ w w'):ChReads w' A n L:=
  ⟨h.1,fun hn=>by
    obtain ⟨b,off,hA,hb,hc⟩:=h.2 hn
    exact ⟨b,off,hA,by have:=hf.size;omega,fun k C hC=>⟨fun j v hv=>cellFr ((hc k C hC).1 j v hv) hf,(hc k C hC).2.keep hf⟩⟩⟩
theorem ChReads.at_ {w:World} {A:Option Addr} {n:Nat} {L:List Ch} (h:ChReads w A n L) {k:Nat} {C:Ch} (hC:L[k]?=some C):∃ b off,A=some ⟨b,off,none⟩∧b < w.heap.size∧w.rangeAt b (off+k * 15) (recL C)∧ChOk w C:=by
  obtain ⟨b,off,hA,hb,hc⟩:=h.2 (by have:=(List.getElem?_eq_some_iff.1 hC).1;have:=h.1;omega)
  exact ⟨b,off,hA,hb,hc k C hC⟩
abbrev recZ8:Array Value:=#[.int .i64 0,.string ⟨#[]⟩,.string ⟨#[]⟩,.bool false,.int .i64 0,.slice none 0 0,.slice none 0 0,.string ⟨#[]⟩,.string ⟨#[]⟩,.int .i64 0,.int .i64 0,.int .i64 0,.string ⟨#[]⟩,.int .i64 0,.int .i64 0]
theorem rec_one (C:Ch):(recL C).toArray.all (·.oneCell')=true:=by simp [Value.oneCell']
theorem rec_size8:(Tryz.prog.info? 51).map (·.size)=some 15:=by kernel_rfl

def baseV (R:Rc):Vw:=⟨R.low,R.high,R.unb,R.right,R.ents,false,0,0,nilS⟩
open Classical in
noncomputable def foldU:List Rc→Option Vw
  | []=>none
  | [b]=>if b.kind=7∧Sound (baseV b) then some (baseV b) else none
  | r :: s :: t=>(foldU (s :: t)).bind fun V=>upM V r
theorem foldU_cons (r:Rc) {l:List Rc} (h:l≠[]):foldU (r :: l)=(foldU l).bind fun V=>upM V r:=by
  cases l with
  | nil=>exact absurd rfl h
  | cons s t=>rfl
theorem foldU_none {l:List Rc} {j:Nat} (hj:j < l.length) (h:foldU (l.drop j)=none):∀ k,k≤j→foldU (l.drop k)=none:=by
  have step:∀ d k,k+d=j→foldU (l.drop k)=none:=by
    intro d
    induction d with
    | zero =>
      intro k e
      have e':k=j:=by omega
      rw [e']
      exact h
    | succ d ih =>
      intro k e
      have:=ih (k+1) (by omega)
      rw [List.drop_eq_getElem_cons (by omega:k < l.length),foldU_cons _ (by intro e;have:=congrArg List.length e;simp at this;omega),this]
      rfl
  intro k hk
  exact step (j - k) k (by omega)
theorem foldU_last {l:List Rc} {m:Nat} {D:Rc} (hm:l.length=m+1) (hD:l[m]?=some D):l.drop m=[D]:=by
  rw [List.drop_eq_getElem_cons (by omega),List.drop_eq_nil_of_le (by omega)]
  have:=(List.getElem?_eq_some_iff.1 hD).2
  rw [this]
theorem foldU_one (D:Rc) (h:D.kind=7) (hs:Sound (baseV D)):foldU [D]=some (baseV D):=if_pos ⟨h,hs⟩
theorem foldU_one_no (D:Rc) (h:¬ (D.kind=7∧Sound (baseV D))):foldU [D]=none:=if_neg h
def KindOk (R:Rc):Prop:=7≤R.kind∧R.kind≤11
end Go.Proofs.YthpkbppaaagaoaaGreat

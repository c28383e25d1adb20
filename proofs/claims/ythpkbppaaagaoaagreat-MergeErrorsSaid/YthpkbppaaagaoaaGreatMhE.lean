/- Texts of one proof, merged: Up. -/
import Derived.BigRegion
import Derived.Test.YthpkbppaaagaoaaGreatMhB
namespace Go.Proofs.YthpkbppaaagaoaaGreat
open Go.RowKit Go.BigFrame
set_option maxRecDepth 100000
set_option linter.unusedVariables false

theorem vin_of_own {w:World} {b n c:Nat} {A:Option Addr} {V:Vw} (h:w.ownsRow b 132 2 (.slice A n c) n (etFlat V.ents)) (hn:V.ents.length=n) (ho:V.Ok):VwIn w V A c:=by
  subst hn
  obtain ⟨A',c',e,h1,h2,_⟩:=own_parts h
  have e1:A=A'∧c=c':=by injection e with e1 e2 e3;exact ⟨e1,e3⟩
  obtain ⟨rfl,rfl⟩:=e1
  exact ⟨Reads.of_own h,h1,h2,ho⟩
def putL (L:List Et) (n:Nat) (p:Et):List Et:=L.take n ++ [p] ++ L.drop n
theorem putL_len {L:List Et} {n:Nat} (p:Et) (h:n≤L.length):(putL L n p).length=L.length+1:=by
  simp [putL];omega
theorem putL_ok {L:List Et} {n:Nat} {p:Et} (h:EtsOk L) (hn:n≤L.length) (hl:L.length < 1000) (hp:SzOk p.1):EtsOk (putL L n p):=by
  refine ⟨by rw [putL_len p hn];omega,fun q hq=>?_⟩
  simp only [putL,List.mem_append,List.mem_cons,List.not_mem_nil,or_false] at hq
  rcases hq with (hq | rfl) | hq
  · exact h.2 q (List.mem_of_mem_take hq)
  · exact hp
  · exact h.2 q (List.mem_of_mem_drop hq)
def upM (V:Vw) (R:Rc):Option Vw:=
  if R.kind=8∧V.held=false then
    if atB V.ents R.key=true∨inS V.low V.high V.unb R.key=false then none
    else some { V with ents:=putL V.ents (plN V.ents R.key) (R.key,R.page) }
  else if R.kind=9∧V.held=false then
    if atB V.ents R.key=false∨plN V.ents R.key=0 then none
    else some { V with ents:=V.ents.take (plN V.ents R.key),high:=R.key,unb:=false,right:=R.page }
  else if R.kind=10∧V.held=false then
    if atB V.ents R.hkey=false∨plN V.ents R.hkey=0∨(V.ents[plN V.ents R.hkey]?.map (·.2))≠some R.hpage∨(V.ents[plN V.ents R.hkey - 1]?.map (·.2))≠some R.hleft then none
    else some { V with held:=true,hp:=R.hpage,hl:=R.hleft,hk:=R.hkey }
  else if R.kind=11∧V.held=true then
    some { V with ents:=V.ents.take (plN V.ents V.hk) ++ V.ents.drop (plN V.ents V.hk+1),held:=false,hp:=0,hl:=0,hk:=nilS }
  else none
theorem atB_lt {L:List Et} {key:ByteArray} (h:atB L key=true):plN L key < L.length:=by
  rcases Nat.lt_or_ge (plN L key) L.length with h1 | h1
  · exact h1
  · unfold atB at h
    rw [List.getElem?_eq_none h1] at h
    cases h
end Go.Proofs.YthpkbppaaagaoaaGreat

/- What two laws of layer 13 want besides. -/
import Derived.Test.YthpkbppaaagaoaaGreatMgB
import Derived.Test.YthpkbppaaagaoaaGreatMgR
namespace Go.Proofs.YthpkbppaaagaoaaGreat
open Go.RowKit
set_option linter.unusedVariables false
section
variable {P:Program} {md:Region.Mode} {ops:Array Oper} {Q:Exit→Act→World→Prop} {S:World→Prop} {m fuel:Nat} {listed:Array Bool} {a:Act} {w:World} {oi:Oper}
theorem y_skip (hw:Region.wanted oi (yielded ops a.tmps)=false):YieldsIf P ops S oi undef a:=.inr ⟨hw,rfl⟩
theorem y_bool {b c:Bool} (hbc:b=c) (hw:Region.wanted oi (yielded ops a.tmps)=true) (hx:∀ w,S w→(execOp a.eval oi).run P w=.ok (.value (.bool b)) w):YieldsIf P ops S oi (.bool c) a:=.inl ⟨hw,fun w hS=>by rw [← hbc];exact hx w hS⟩
end
section
variable {S:List ByteArray} {l:List Rw}
theorem seg_mem:∀ (d j:Nat) (p:Rw),p ∈ segR l S j d→∃ k,j≤k∧k < j+d∧p ∈ (lfR13 l S k).rows
  | 0,j,p,h=>by cases h
  | d+1,j,p,h=>by
    rw [segR] at h
    rcases List.mem_append.1 h with h | h
    · exact ⟨j,by omega,by omega,h⟩
    · obtain ⟨k,h1,h2,h3⟩:=seg_mem d (j+1) p h
      exact ⟨k,by omega,by omega,h3⟩
end
theorem putR_again {L:List Rw} (h:PwR L) (r:Rw):putR (putR L r) r=putR L r:=by
  have hA:∀ p ∈ L.take (plR L r.1),ltS p.1 r.1=true:=fun p hp=>by
    obtain ⟨j,hj⟩:=List.mem_iff_getElem?.1 hp
    rw [List.getElem?_take] at hj
    split at hj
    · rename_i h1;exact plR_in h1 hj
    · cases hj
  have hB:=plR_behind (key:=r.1) h
  have h1:putR L r=L.take (plR L r.1) ++ ([r] ++ L.drop (plR L r.1+if atR L r.1 then 1 else 0)):=by unfold putR;simp
  have h2:putR [r] r=[r]:=by
    have e1:plR [r] r.1=0:=by rw [plR,if_neg (by rw [ltS_irrefl];decide)]
    have e2:atR [r] r.1=true:=by unfold atR;rw [e1];exact sEq_self _
    unfold putR
    rw [e1,e2]
    rfl
  rw [h1,putR_app hA hB,h2]
theorem putR_right {L:List Rw} (h:RightR L) {r:Rw} (hr:fitsR r=true):RightR (putR L r):=RightR.of_pw (PwR.put h.pw r) fun p hp=>by
  rcases mem_putR hp with hp | rfl
  · exact h.fit p hp
  · exact hr
section
variable {l:List Rw} {S:List ByteArray} {i N:Nat} {hs hg rs rg:Int} {sp:Int→Prop}
variable {x:St} {js:Nat→List Nat} {M Φ:Nat} {cur:List Rw}
theorem allR_put (hl:RightR l) (hS:SepsOk S) (h1:1≤i) (h2:i≤S.length) {cur:List Rw} {r:Rw} (hr:inS (leafLow S (i - 1)) (leafLow S i) false r.1=true):allR l S i (putR cur r)=putR (allR l S i cur) r:=by
  obtain ⟨q1,q2⟩:=inS_iff7.1 hr
  have q3:ltS r.1 (leafLow S i)=true:=by simpa using q2
  refine (putR_app (fun p hp=>?_) (fun p hp=>?_)).symm
  · obtain ⟨k,_,k2,k3⟩:=seg_mem _ _ _ hp
    have h4:=lf_in hS (show k≤S.length by omega) p k3
    rw [decide_eq_false (show ¬ k=S.length by omega)] at h4
    have h5':ltS p.1 (sepAt S k)=true:=by have:=(inS_iff7.1 h4).2;simpa using this
    have h5:ltS p.1 (leafLow S (k+1))=true:=h5'
    have h6:ltS p.1 (leafLow S (i - 1))=true:=by
      rcases Nat.lt_or_ge (k+1) (i - 1) with e | e
      · exact ltS_trans h5 (hS.low2 e (by omega))
      · have:k+1=i - 1:=by omega
        rw [this] at h5
        exact h5
    exact lt_ge7 h6 q1
  · have hb:∃ k,i≤k∧k≤S.length∧p ∈ (lfR13 l S k).rows:=by
      rcases List.mem_append.1 hp with hp | hp
      · exact ⟨i,Nat.le_refl _,h2,hp⟩
      · obtain ⟨k,k1,k2,k3⟩:=seg_mem _ _ _ hp
        exact ⟨k,by omega,by omega,k3⟩
    obtain ⟨k,k1,k2,k3⟩:=hb
    have h4:=(inS_iff7.1 (lf_in hS k2 p k3)).1
    have h5:ltS r.1 (leafLow S k)=true:=by
      rcases Nat.lt_or_ge i k with e | e
      · exact ltS_trans q3 (hS.low2 e k2)
      · have:i=k:=by omega
        rw [← this]
        exact q3
    exact lt_ge7 h5 h4
end
end Go.Proofs.YthpkbppaaagaoaaGreat

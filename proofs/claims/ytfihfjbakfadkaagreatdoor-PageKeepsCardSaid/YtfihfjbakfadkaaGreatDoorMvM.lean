/- Texts of one proof, merged: Kd10. -/
import Derived.Test.YtfihfjbakfadkaaGreatDoorMvI
namespace Go.Proofs.YtfihfjbakfadkaaGreatDoor
open Go.RowKit Go.BigFrame
set_option maxRecDepth 100000
set_option linter.unusedVariables false

def CodeOf (l:List Rc) (k:Int):Prop:=ofM l=none∧((leafB l=true∧((k=9∧∃ R ∈ l,¬ KindL R)∨(k=10∧∀ R ∈ l,KindL R)))∨(leafB l=false∧((k=9∧∃ R ∈ l,¬ KindOk R)∨(k=10∧∀ R ∈ l,KindOk R))))
theorem codeL {l:List Rc} {k:Int} (hb:leafB l=true) (h:(k=9∧∃ R ∈ l,¬ KindL R)∨(k=10∧(∀ R ∈ l,KindL R)∧foldL l=none)):CodeOf l k:=by
  have hn:foldL l=none:=by rcases h with h | h;exact foldL_bad h.2;exact h.2.2
  exact ⟨by unfold ofM;rw [if_pos hb,hn];rfl,.inl ⟨hb,h.imp id fun h=>⟨h.1,h.2.1⟩⟩⟩
theorem codeU {l:List Rc} {k:Int} (hb:leafB l=false) (h:(k=9∧∃ R ∈ l,¬ KindOk R)∨(k=10∧(∀ R ∈ l,KindOk R)∧foldU l=none)):CodeOf l k:=by
  have hn:foldU l=none:=by
    rcases h with ⟨_,R,hR,hk⟩ | h
    · exact foldU_no fun ha=>absurd (ha R hR) hk
    · exact h.2.2
  exact ⟨by unfold ofM;rw [if_neg (by rw [hb];decide),hn];rfl,.inr ⟨hb,h.imp id fun h=>⟨h.1,h.2.1⟩⟩⟩
theorem CodeOf.or {l:List Rc} {k:Int} (h:CodeOf l k):k=9∨k=10:=by
  rcases h.2 with ⟨_,h | h⟩ | ⟨_,h | h⟩
  · exact .inl h.1
  · exact .inr h.1
  · exact .inl h.1
  · exact .inr h.1
theorem CodeOf.uniq {l:List Rc} {k k':Int} (h:CodeOf l k) (h':CodeOf l k'):k=k':=by
  rcases h.2 with ⟨hb,h1⟩ | ⟨hb,h1⟩ <;> rcases h'.2 with ⟨hb',h2⟩ | ⟨hb',h2⟩
  · rcases h1 with ⟨rfl,R,hR,hn⟩ | ⟨rfl,ha⟩ <;> rcases h2 with ⟨rfl,R',hR',hn'⟩ | ⟨rfl,ha'⟩
    · rfl
    · exact absurd (ha' R hR) hn
    · exact absurd (ha R' hR') hn'
    · rfl
  · rw [hb] at hb';cases hb'
  · rw [hb] at hb';cases hb'
  · rcases h1 with ⟨rfl,R,hR,hn⟩ | ⟨rfl,ha⟩ <;> rcases h2 with ⟨rfl,R',hR',hn'⟩ | ⟨rfl,ha'⟩
    · rfl
    · exact absurd (ha' R hR) hn
    · exact absurd (ha R' hR') hn'
    · rfl
theorem CodeOf.pos {l:List Rc} {k:Int} (h:CodeOf l k):k≠0:=by
  rcases h.or with rfl | rfl <;> decide
end Go.Proofs.YtfihfjbakfadkaaGreatDoor

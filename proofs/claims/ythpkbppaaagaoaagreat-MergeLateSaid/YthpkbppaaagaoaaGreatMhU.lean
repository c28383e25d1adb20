/- Texts of one proof, merged: Ro13b. -/
import Derived.Test.YthpkbppaaagaoaaGreatMhR
namespace Go.Proofs.YthpkbppaaagaoaaGreat
open Go.RowKit Go.BigFrame
set_option maxRecDepth 100000
set_option linter.unusedVariables false

theorem own_one13 (w:World) (v:Value) (w':World) (h:w'=w.alloc (.cells #[v] 41)):w'.ownsRow w.heap.size 41 1 (.slice (some ⟨w.heap.size,0,none⟩) 1 1) 1 [v]:=by
  subst h
  exact ⟨rfl,.inr ⟨w.heap.size,1,_,rfl,Nat.le_refl _,heap_alloc_new w _,Nat.le_refl _,by decide,rfl,rfl⟩⟩
section
variable {c:Cf} {Φ:Nat} {cur:List Rw} {W w:World} {m:Nat} {k:Int} {lm:Lm} {x x0:St} {js:Nat→List Nat} {M b0 u nI:Nat}
theorem done_of {L:List H1} {z:H1} {d:Bool} (P:Hps c Φ cur W w m k lm x js M b0 u L) (hz:z ∈ L) (ho:z.ph=.over d):Calls Tryz.prog 24 #[.pointer (some ⟨z.h,0,none⟩)] w fun e w'=>e=.returned (.tuple #[.bool d,.nilIface])∧Fr none_ w w':=by
  obtain ⟨hH,_,_⟩:=P.hp z hz
  rw [ho] at hH
  exact hH.done_
end
end Go.Proofs.YthpkbppaaagaoaaGreat

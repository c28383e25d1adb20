/- Texts of one proof, merged: Up. -/
import Derived.BigRegion
import Derived.Test.YtfihfjbakfadkaaDoorMcG
namespace Go.Proofs.YtfihfjbakfadkaaDoor
open Go.RowKit Go.BigFrame
set_option maxRecDepth 100000
set_option linter.unusedVariables false

def putL (L : List Et) (n : Nat) (p : Et) : List Et := L.take n ++ [p] ++ L.drop n
/-- The boxes of up: the view, the record, what is told. -/
structure UpSt (w w' : World) (V : Vw) (R : Rc) (A : Option Addr) (c : Nat) (vr ve : Value) : Prop where
  bv : Blk w' w.heap.size 81 (vwA V (.slice A V.ents.length c))
  br : Blk w' (w.heap.size + 1) 41 (recA R vr ve)
  bo : Blk w' (w.heap.size + 1 + 1) 81 (vwA Vw.zero (.slice none 0 0))
  vin : VwIn w' V A c
  fr : Fr none_ w w'
theorem UpSt.keep {w w1 w2 : World} {V : Vw} {R : Rc} {A : Option Addr} {c : Nat} {vr ve : Value} (h : UpSt w w1 V R A c vr ve) (hf : Fr none_ w1 w2) : UpSt w w2 V R A c vr ve :=
  ⟨h.bv.fr hf id, h.br.fr hf id, h.bo.fr hf id, h.vin.keep hf, h.fr.then_none hf⟩
end Go.Proofs.YtfihfjbakfadkaaDoor

/- inner.Base and Child by contract. Written by gen_base8.py. -/
import Derived.Test.YtpjbncbmdfmlpaaCh
namespace Go.Proofs.Ytpjbncbmdfmlpaa
open Go.RowKit Go.BigFrame
set_option maxRecDepth 100000
set_option linter.unusedVariables false

/-- A view's base. -/
def baseR (V : Vw) : Rc := { Rc.zero with kind := 7, low := V.low, high := V.high, unb := V.unb, right := V.right, ents := V.ents }
def BasePost (V : Vw) (w : World) (e : Ending) (w' : World) : Prop :=
  ∃ A' c', e = .returned (recV (baseR V) (.slice none 0 0) (.slice A' V.ents.length c')) ∧ w'.ownsRow w.heap.size 64 2 (.slice A' V.ents.length c') V.ents.length (etFlat V.ents) ∧ Fr none_ w w'
end Go.Proofs.Ytpjbncbmdfmlpaa

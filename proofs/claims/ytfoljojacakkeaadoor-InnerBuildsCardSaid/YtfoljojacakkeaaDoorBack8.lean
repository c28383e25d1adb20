/- InnerBack's walk. Written by gen_back8.py. -/
import Derived.Test.YtfoljojacakkeaaDoorLaw8
import Derived.Test.YtfoljojacakkeaaDoorIn8
import Derived.Test.YtfoljojacakkeaaDoorAwake8
import Derived.Test.YtfoljojacakkeaaDoorSame8
import Derived.Test.YtfoljojacakkeaaDoorBase8
import Derived.Test.YtfoljojacakkeaaDoorQx
import Derived.Deep.DeepCutAuto
namespace Go.Proofs.YtfoljojacakkeaaDoor
open Go.RowKit Go.BigFrame Go.ChangeShapes Go.WideShapes
set_option maxRecDepth 100000
set_option linter.unusedVariables false

theorem own_chreads {w : World} {L Cs : List Ch} {base c n : Nat} {A : Option Addr} (hn : L.length = n) (hm : Cs.map (·.R) = L.map (·.R)) (ho : w.ownsRow base 40 15 (.slice A n c) n (recFlat Cs)) (hc : ∀ C ∈ Cs, ChOwn w C) : ChReads w A n Cs :=
  chReads_own ho (by have := congrArg List.length hm; simpa [hn] using this) (fun C h => (hc C h).ok)
theorem map_ents {L Cs : List Ch} (hm : Cs.map (·.R) = L.map (·.R)) {b : Nat} (h : ∀ C ∈ L, C.R.ents.length ≤ b) : ∀ C ∈ Cs, C.R.ents.length ≤ b := fun C hC => by
  have : C.R ∈ Cs.map (·.R) := List.mem_map.2 ⟨C, hC, rfl⟩
  rw [hm] at this
  obtain ⟨D, hD, e⟩ := List.mem_map.1 this
  rw [← e]
  exact h D hD
theorem few_ents {L : List Ch} (h : FewOk8 L) : ∀ C ∈ L, C.R.ents.length ≤ 100 := fun C hC => by
  obtain ⟨k, hk⟩ := List.mem_iff_getElem?.1 hC
  exact h.2 k C hk
theorem in_rows {w : World} {A : Option Addr} {n : Nat} {L : List Ch} (h : InReads w A n L) : ∀ C ∈ L, C.R.rows.length ≤ 4398046511104 := fun C hC => by
  obtain ⟨k, hk⟩ := List.mem_iff_getElem?.1 hC
  obtain ⟨_, _, _, _, _, h⟩ := h.at_ hk
  exact h.rows
/-- A view's base, as a record of the call's own, in a block of its own. -/
theorem base_chok {w : World} {V : Vw} {A : Option Addr} {c : Nat} {base : Nat} (ho : w.ownsRow base 60 2 (.slice A V.ents.length c) V.ents.length (etFlat V.ents)) (hv : V.Ok) : ChOk w ⟨baseR V, none, 0, A, c⟩ := by
  obtain ⟨A', c', e, h1, h2, _⟩ := own_parts ho
  have e1 : c = c' := by injection e
  exact ⟨⟨Reads.nil_, Reads.of_own ho⟩, hv.low, hv.high, SzOk.nil, SzOk.nil, hv.ents, by rw [e1]; exact h1, by rw [e1]; exact h2⟩
theorem kinds_map {L Cs : List Ch} (hm : Cs.map (·.R) = L.map (·.R)) : True := trivial
end Go.Proofs.YtfoljojacakkeaaDoor

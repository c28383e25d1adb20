/- Both arenas answer a Free and a Load alike: the plain law. -/
import Derived.Test.YtfoljojacakkeaaDoorPlA4
import Derived.Test.YtfoljojacakkeaaDoorLd
namespace Go.Proofs.YtfoljojacakkeaaDoor
open Go.RowKit
set_option linter.unusedVariables false
section
variable {w w' : World} {a G : Nat} {slots last : Int} {ss : List Sl} {L : List RaP} {A : Option Addr} {c : Nat}
theorem PlA.inr (h : PlA w a G slots last ss L A c) {i : Nat} {s : Sl} (hs : ss[i]? = some s) : 1 ≤ (i : Int) + 1 ∧ (i : Int) + 1 ≤ slots := by
  have hi := (List.getElem?_eq_some_iff.1 hs).1
  have := h.ns
  omega
theorem PlA.freed (h : PlA w a G slots last ss L A c) {x y : Int} {L' : List RaP} {k : Int} (hf : RFreeIs slots L x y L' k) :
    (atC ss x y ≠ 0 ∧ k = atC ss x y ∧ L' = L) ∨ (atC ss x y = 0 ∧ k = 0 ∧ ∃ (i : Nat) (s : Sl) (j : Nat) (p : RaP), x = (i : Int) + 1 ∧ ss[i]? = some s ∧ s.used = true ∧ s.gen = y ∧ L[j]? = some p ∧ p.xs = (i : Int) + 1 ∧ p.live = true ∧ L' = L.set j (deadP p)) := by
  have hns := h.ns
  rcases atC_cases ss x y with ⟨e, hx⟩ | ⟨i, s, rfl, hs, hh⟩
  · rcases hf with ⟨_, rfl, rfl⟩ | ⟨hr, _⟩ | ⟨hr, _⟩
    · exact .inl ⟨by rw [e]; decide, e.symm, rfl⟩
    · omega
    · omega
  · have hi := h.inr hs
    rcases hh with ⟨e, hn⟩ | ⟨e, hu, hg⟩
    · rcases hf with ⟨hr, _⟩ | ⟨_, _, rfl, rfl⟩ | ⟨_, j, p, _, hp, h1, h2, h3, _⟩
      · exact absurd hi hr
      · exact .inl ⟨by rw [e]; decide, e.symm, rfl⟩
      · exact absurd ⟨h1, h2, h3⟩ (h.sim.stale hs hn j p hp)
    · rcases hf with ⟨hr, _⟩ | ⟨_, hno, _⟩ | ⟨_, j, p, _, hp, h1, h2, h3, rfl, rfl⟩
      · exact absurd hi hr
      · obtain ⟨j, p, b1, b2, b3, b4, _⟩ := h.sim.find hs hu
        exact absurd ⟨b2, b3.trans hg, b4⟩ (hno j p b1)
      · exact .inr ⟨e, rfl, i, s, j, p, rfl, hs, hu, hg, hp, h1, h3, rfl⟩
theorem PlA.loaded (h : PlA w a G slots last ss L A c) {x y : Int} {R : Rc} {A' B' : Option Addr} {c' d' : Nat} {k : Int} (hf : RLoadIs slots L x y R A' B' c' d' k) :
    (atC ss x y ≠ 0 ∧ k = atC ss x y ∧ R = Rc.zero ∧ A' = none ∧ B' = none ∧ c' = 0 ∧ d' = 0) ∨ (atC ss x y = 0 ∧ k = 0 ∧ ∃ (i : Nat) (s : Sl), x = (i : Int) + 1 ∧ ss[i]? = some s ∧ s.used = true ∧ s.gen = y ∧ R = s.R) := by
  have hns := h.ns
  rcases atC_cases ss x y with ⟨e, hx⟩ | ⟨i, s, rfl, hs, hh⟩
  · rcases hf with ⟨_, rfl, rfl, rfl, rfl, rfl, rfl⟩ | ⟨hr, _⟩ | ⟨hr, _⟩
    · exact .inl ⟨by rw [e]; decide, e.symm, rfl, rfl, rfl, rfl, rfl⟩
    · omega
    · omega
  · have hi := h.inr hs
    rcases hh with ⟨e, hn⟩ | ⟨e, hu, hg⟩
    · rcases hf with ⟨hr, _⟩ | ⟨_, _, rfl, rfl, rfl, rfl, rfl, rfl⟩ | ⟨_, j, p, _, hp, h1, h2, h3, _⟩
      · exact absurd hi hr
      · exact .inl ⟨by rw [e]; decide, e.symm, rfl, rfl, rfl, rfl, rfl⟩
      · exact absurd ⟨h1, h2, h3⟩ (h.sim.stale hs hn j p hp)
    · rcases hf with ⟨hr, _⟩ | ⟨_, hno, _⟩ | ⟨_, j, p, _, hp, h1, h2, h3, rfl, rfl, rfl, rfl, rfl, rfl⟩
      · exact absurd hi hr
      · obtain ⟨j, p, b1, b2, b3, b4, _⟩ := h.sim.find hs hu
        exact absurd ⟨b2, b3.trans hg, b4⟩ (hno j p b1)
      · obtain ⟨j2, p2, b1, b2, b3, b4, b5⟩ := h.sim.find hs hu
        obtain rfl := h.sim.wf.one j j2 p p2 hp b1 h3 b4 (h1.trans b2.symm)
        obtain rfl := Option.some.inj (hp.symm.trans b1)
        exact .inr ⟨e, rfl, i, s, rfl, hs, hu, hg, b5⟩
end
end Go.Proofs.YtfoljojacakkeaaDoor

/- For regions that draw: three operations that are ready; two records laid and written. -/
import Derived.Test.YtphlfocdljihlaaOver8
import Derived.Test.YtphlfocdljihlaaPre8
import Derived.Test.YtphlfocdljihlaaSame8
import Derived.Deep.DeepCutAuto
namespace Go.Proofs.Ytphlfocdljihlaa
open Go.RowKit
set_option linter.unusedVariables false
section
variable {P : Program} {md : Region.Mode} {ops : Array Oper} {Q : Exit → Act → World → Prop} {S : World → Prop}
theorem wpAnyU_three {m i j l : Nat} {oi oj ol : Oper} {fuel : Nat} {listed : Array Bool} {a : Act} {w : World} (hi : ops[i]? = some oi) (hj : ops[j]? = some oj) (hl : ops[l]? = some ol) (gi : oi.guard = none) (gj : oj.guard = none) (gl : ol.guard = none) (hr : Region.ready md ops listed = [i, j, l])
    (h1 : Oper.wp P oi a w (fun a' w' => (m ≤ i ∨ S w') ∧ wpAnyU P md ops Q S m fuel (listed.setIfInBounds i true) a' w') Q)
    (h2 : Oper.wp P oj a w (fun a' w' => (m ≤ j ∨ S w') ∧ wpAnyU P md ops Q S m fuel (listed.setIfInBounds j true) a' w') Q)
    (h3 : Oper.wp P ol a w (fun a' w' => (m ≤ l ∨ S w') ∧ wpAnyU P md ops Q S m fuel (listed.setIfInBounds l true) a' w') Q) : wpAnyU P md ops Q S m (fuel + 1) listed a w := by
  refine wpAnyU_all hr (by simp) (fun k hk => ?_)
  have hk' : k = i ∨ k = j ∨ k = l := by simpa using hk
  rcases hk' with rfl | rfl | rfl
  · unfold wpOp
    have hw : Region.wanted oi (yielded ops a.tmps) = true := by simp [Region.wanted, gi]
    simp only [hi, hw, if_true]
    exact .inl h1
  · unfold wpOp
    have hw : Region.wanted oj (yielded ops a.tmps) = true := by simp [Region.wanted, gj]
    simp only [hj, hw, if_true]
    exact .inl h2
  · unfold wpOp
    have hw : Region.wanted ol (yielded ops a.tmps) = true := by simp [Region.wanted, gl]
    simp only [hl, hw, if_true]
    exact .inl h3
end
theorem view_sz8 : (Try.prog.info? 29).map (·.size) = some 9 := by kernel_rfl
section
variable (w : World) (t : TypeId) (z : Array Value)
theorem two_new1 : Blk ((w.alloc (.cells z t)).alloc (.cells z t)) w.heap.size t z := (Blk.new w t z).alloc _
theorem two_new2 : Blk ((w.alloc (.cells z t)).alloc (.cells z t)) (w.heap.size + 1) t z := by
  have := Blk.new (w.alloc (.cells z t)) t z
  rwa [World.size_alloc] at this
theorem two_fr : Fr none_ w ((w.alloc (.cells z t)).alloc (.cells z t)) := ((Fr.refl none_ w).alloc _).alloc _
end
end Go.Proofs.Ytphlfocdljihlaa

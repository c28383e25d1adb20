/- MergeErrors returns true for every n. Conditions: none. -/
import Derived.Test.YthpkbppaaagaoaaGreatRows
import Derived.Test.YthpkbppaaagaoaaGreatMErr13
import Derived.Test.YthpkbppaaagaoaaGreatMhA
namespace Go.Proofs.YthpkbppaaagaoaaGreat
open Go.ChangeShapes Go.WideShapes Go.RowKit
set_option maxRecDepth 100000
set_option linter.unusedVariables false
namespace PMergeErrors

theorem law {H : Type} (enc : TypeId × Value → H) : LawWalk enc Tryz.prog 8 Tryz.f8.params.toList (fun _ => True) := by
  intro W args ds ps base hA hval hlt hsz hX
  rw [Tryz.params8] at hA hval hsz
  obtain ⟨v0, vs0, d0, ds0, p0, q0, hargs, rfl, rfl, h0, r0⟩ := trodAll_cons hA
  obtain ⟨rfl, rfl, rfl⟩ := trodAll_nil r0
  obtain rfl : args = #[v0] := by cases args; simp_all
  have hw : ∀ y ∈ DataW.weightsEach Tryz.prog [3] [d0], y ≤ reachBytes := fun y hy => by simpa using List.all_eq_true.1 hsz y hy
  have w0 : ∀ y ∈ d0.weights Tryz.prog 3, y ≤ reachBytes := fun y hy => hw y (by simp [DataW.weightsEach, hy])
  have l0 : ∀ p ∈ p0, p.block < W.heap.size := fun p hp => hlt p (by simp [hp])
  obtain ⟨a0, rfl, rfl, rfl, wf0⟩ := open_int Tryz.underlying3 (hval 0 _ v0 rfl rfl) h0
  exact (merr13_law a0 W).mono fun e W' ⟨he, hf⟩ => ⟨he, hf.below0⟩

theorem lifted (os : Os) (started : os.Started) (H : Type) (enc : TypeId × Value → H) :
    ReturnsInHanded {} Tryz.checked os 8 .any (Rows.mergeErrorsSpec.pre6 enc Tryz.prog Tryz.f8 Rows.mergeErrorsRow.domain false) (Rows.mergeErrorsSpec.post enc Tryz.prog Tryz.f8 false true false false) :=
  lift_plain (C := Tryz.checked) (by kernel_rfl) started (by kernel_rfl) Tryz.func8 (by kernel_rfl) (by kernel_rfl) rfl Tryz.underlying4 rfl
    (fun ds h => by
      match ds, h with
      | [d0], _ => rfl)
    (ChangeSpec.witness6 (enc := enc) (C := Tryz.checked) false ⟨#[], #[.int .i64 0], []⟩ 8 (by kernel_rfl) (by kernel_rfl) (by kernel_rfl) (by kernel_rfl))
    (law enc)

theorem row_holds : Rows.MergeErrorsSaid :=
  OpenClaim.holds_of_wide 8 Tryz.f8 rfl rfl rfl rfl rfl rfl rfl ⟨rfl, rfl, rfl, rfl, rfl⟩ rfl rfl rfl rfl rfl (by kernel_rfl) Tryz.func8 (by kernel_rfl)
    (of_decide_eq_true (by kernel_rfl)) (by unfold Func.isWrapper; rw [if_neg (of_decide_eq_false (by kernel_rfl))]; exact ⟨rfl, rfl⟩)
    (fun os started H enc _ => lifted os started H enc)
#print axioms row_holds
end PMergeErrors
end Go.Proofs.YthpkbppaaagaoaaGreat

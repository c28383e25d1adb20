/- PlanBacks returns true for every c and unbounded. Conditions: none. -/
import Derived.Test.YtpjbncbmdfmlpaaRows
import Derived.Test.YtpjbncbmdfmlpaaMbJ
namespace Go.Proofs.Ytpjbncbmdfmlpaa
open Go.ChangeShapes Go.WideShapes Go.RowKit
set_option maxRecDepth 100000
set_option linter.unusedVariables false
namespace PPlanBacks

theorem law {H : Type} (enc : TypeId × Value → H) : LawWalk enc Try.prog 11 Try.f11.params.toList (fun _ => True) := by
  intro W args ds ps base hA hval hlt hsz hX
  rw [Try.params11] at hA hval hsz
  obtain ⟨v0, vs0, d0, ds0, p0, q0, hargs, rfl, rfl, h0, r0⟩ := trodAll_cons hA
  obtain ⟨v1, vs1, d1, ds1, p1, q1, rfl, rfl, rfl, h1, r1⟩ := trodAll_cons r0
  obtain ⟨rfl, rfl, rfl⟩ := trodAll_nil r1
  obtain rfl : args = #[v0, v1] := by cases args; simp_all
  have hw : ∀ y ∈ DataW.weightsEach Try.prog [75, 4] [d0, d1], y ≤ reachBytes := fun y hy => by simpa using List.all_eq_true.1 hsz y hy
  have w0 : ∀ y ∈ d0.weights Try.prog 75, y ≤ reachBytes := fun y hy => hw y (by simp [DataW.weightsEach, hy])
  have l0 : ∀ p ∈ p0, p.block < W.heap.size := fun p hp => hlt p (by simp [hp])
  have w1 : ∀ y ∈ d1.weights Try.prog 4, y ≤ reachBytes := fun y hy => hw y (by simp [DataW.weightsEach, hy])
  have l1 : ∀ p ∈ p1, p.block < W.heap.size := fun p hp => hlt p (by simp [hp])
  obtain ⟨a0_0, a0_1, a0_2, a0_3, a0_4, a0_5, a0_6, a0_7, a0_8, a0_9, a0_10, a0_11, rfl, wa0_0, wa0_1, wa0_2, wa0_3, wa0_4, wa0_5, wa0_6, wa0_7, wa0_8, wa0_9⟩ := open_Case11 (hval 0 _ v0 rfl rfl) h0 l0 w0
  obtain ⟨a1, rfl, rfl, rfl⟩ := open_bool Try.underlying4 (hval 1 _ v1 rfl rfl) h1
  exact (caseb11_i backs11_law a0_0 a0_1 a0_2 a0_3 a0_4 a0_5 a0_6 a0_7 a0_8 a0_9 a0_10 a0_11 a1 W wa0_1 wa0_2 wa0_3).mono fun e W' ⟨he, hf⟩ => ⟨he, hf.below0⟩

theorem lifted (os : Os) (started : os.Started) (H : Type) (enc : TypeId × Value → H) :
    ReturnsInHanded {} Try.checked os 11 .any (Rows.planBacksSpec.pre6 enc Try.prog Try.f11 Rows.planBacksRow.domain false) (Rows.planBacksSpec.post enc Try.prog Try.f11 false true false false) :=
  lift_plain (C := Try.checked) (by kernel_rfl) started (by kernel_rfl) Try.func11 (by kernel_rfl) (by kernel_rfl) rfl Try.underlying4 rfl
    (fun ds h => by
      match ds, h with
      | [d0, d1], _ => rfl)
    (ChangeSpec.witness6 (enc := enc) (C := Try.checked) false ⟨#[], #[.agg #[.int .i64 0, .slice none 0 0, .slice none 0 0, .bool false, .string ⟨#[]⟩, .int .i64 0, .int .i64 0, .int .i64 0, .int .i64 0, .int .i64 0, .int .i64 0, .bool false], .bool false], []⟩ 8 (by kernel_rfl) (by kernel_rfl) (by kernel_rfl) (by kernel_rfl))
    (law enc)

theorem row_holds : Rows.PlanBacksSaid :=
  OpenClaim.holds_of_wide 11 Try.f11 rfl rfl rfl rfl rfl rfl rfl ⟨rfl, rfl, rfl, rfl, rfl⟩ rfl rfl rfl rfl rfl (by kernel_rfl) Try.func11 (by kernel_rfl)
    (of_decide_eq_true (by kernel_rfl)) (by unfold Func.isWrapper; rw [if_neg (of_decide_eq_false (by kernel_rfl))]; exact ⟨rfl, rfl⟩)
    (fun os started H enc _ => lifted os started H enc)
#print axioms row_holds
end PPlanBacks
end Go.Proofs.Ytpjbncbmdfmlpaa

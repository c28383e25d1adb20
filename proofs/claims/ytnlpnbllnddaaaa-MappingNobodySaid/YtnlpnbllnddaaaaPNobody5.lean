/- MappingNobody returns true for every step. Conditions: none. -/
import Derived.Test.YtnlpnbllnddaaaaRows
import Derived.Test.YtnlpnbllnddaaaaNobody5
import Derived.Test.YtnlpnbllnddaaaaTypes5
namespace Go.Proofs.Ytnlpnbllnddaaaa
open Go.ChangeShapes Go.WideShapes Go.RowKit
set_option linter.unusedVariables false
namespace PMappingNobody

theorem law {H : Type} (enc : TypeId × Value → H) : LawWalk enc Try.prog 5 Try.f5.params.toList (fun _ => True) := by
  intro W args ds ps base hA hval hlt hsz hX
  rw [Try.params5] at hA hval hsz
  obtain ⟨v0, vs0, d0, ds0, p0, q0, hargs, rfl, rfl, h0, r0⟩ := trodAll_cons hA
  obtain ⟨rfl, rfl, rfl⟩ := trodAll_nil r0
  obtain rfl : args = #[v0] := by cases args; simp_all
  have hw : ∀ y ∈ DataW.weightsEach Try.prog [42] [d0], y ≤ reachBytes := fun y hy => by simpa using List.all_eq_true.1 hsz y hy
  have w0 : ∀ y ∈ d0.weights Try.prog 42, y ≤ reachBytes := fun y hy => hw y (by simp [DataW.weightsEach, hy])
  have l0 : ∀ p ∈ p0, p.block < W.heap.size := fun p hp => hlt p (by simp [hp])
  obtain ⟨a0_0, a0_1, a0_2, a0_3, a0_4, a0_5, a0_6, rfl, wa0_0, wa0_1, wa0_2, wa0_3, wa0_4, wa0_5⟩ := open_Do5 (hval 0 _ v0 rfl rfl) h0 l0 w0
  exact (nobody5_walk_i a0_0 a0_1 a0_2 a0_3 a0_4 a0_5 a0_6 wa0_0 wa0_1 wa0_2 wa0_3 wa0_4 wa0_5 W).mono fun e W' ⟨he, hf⟩ => ⟨he, hf.below0⟩

theorem lifted (os : Os) (started : os.Started) (H : Type) (enc : TypeId × Value → H) :
    ReturnsInHanded {} Try.checked os 5 .any (Rows.mappingNobodySpec.pre6 enc Try.prog Try.f5 Rows.mappingNobodyRow.domain false) (Rows.mappingNobodySpec.post enc Try.prog Try.f5 false true false false) :=
  lift_plain (C := Try.checked) (by kernel_rfl) started (by kernel_rfl) Try.func5 (by kernel_rfl) (by kernel_rfl) rfl Try.underlying4 rfl
    (fun ds h => by
      match ds, h with
      | [d0], _ => rfl)
    (ChangeSpec.witness6 (enc := enc) (C := Try.checked) false ⟨#[], #[.agg #[.int .i64 0, .int .i64 0, .bool false, .int .i64 0, .int .i64 0, .int .i64 0, .int .i64 0]], []⟩ 8 (by kernel_rfl) (by kernel_rfl) (by kernel_rfl) (by kernel_rfl))
    (law enc)

theorem row_holds : Rows.MappingNobodySaid :=
  OpenClaim.holds_of_wide 5 Try.f5 rfl rfl rfl rfl rfl rfl rfl ⟨rfl, rfl, rfl, rfl, rfl⟩ rfl rfl rfl rfl rfl (by kernel_rfl) Try.func5 (by kernel_rfl)
    (of_decide_eq_true (by kernel_rfl)) (by unfold Func.isWrapper; rw [if_neg (of_decide_eq_false (by kernel_rfl))]; exact ⟨rfl, rfl⟩)
    (fun os started H enc _ => lifted os started H enc)
#print axioms row_holds
end PMappingNobody
end Go.Proofs.Ytnlpnbllnddaaaa

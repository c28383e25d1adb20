/- InstallHead returns true for every l and j. Conditions: none. -/
import Derived.Test.YthcpccddcgbanaaRows
import Derived.Test.YthcpccddcgbanaaHead12
import Derived.Test.YthcpccddcgbanaaTy12
namespace Go.Proofs.Ythcpccddcgbanaa
open Go.ChangeShapes Go.WideShapes Go.RowKit
set_option maxRecDepth 100000
set_option linter.unusedVariables false
namespace PInstallHead

theorem law {H : Type} (enc : TypeId × Value → H) : LawWalk enc Try.prog 4 Try.f4.params.toList (fun _ => True) := by
  intro W args ds ps base hA hval hlt hsz hX
  rw [Try.params4] at hA hval hsz
  obtain ⟨v0, vs0, d0, ds0, p0, q0, hargs, rfl, rfl, h0, r0⟩ := trodAll_cons hA
  obtain ⟨v1, vs1, d1, ds1, p1, q1, rfl, rfl, rfl, h1, r1⟩ := trodAll_cons r0
  obtain ⟨rfl, rfl, rfl⟩ := trodAll_nil r1
  obtain rfl : args = #[v0, v1] := by cases args; simp_all
  have hw : ∀ y ∈ DataW.weightsEach Try.prog [23, 46] [d0, d1], y ≤ reachBytes := fun y hy => by simpa using List.all_eq_true.1 hsz y hy
  have w0 : ∀ y ∈ d0.weights Try.prog 23, y ≤ reachBytes := fun y hy => hw y (by simp [DataW.weightsEach, hy])
  have l0 : ∀ p ∈ p0, p.block < W.heap.size := fun p hp => hlt p (by simp [hp])
  have w1 : ∀ y ∈ d1.weights Try.prog 46, y ≤ reachBytes := fun y hy => hw y (by simp [DataW.weightsEach, hy])
  have l1 : ∀ p ∈ p1, p.block < W.heap.size := fun p hp => hlt p (by simp [hp])
  obtain ⟨a0_0, a0_1, a0_2, a0_3, a0_4, a0_5, rfl, wa0_0, wa0_1, wa0_2, wa0_3, wa0_4, wa0_5⟩ := open_Lim12 (hval 0 _ v0 rfl rfl) h0 l0 w0
  obtain ⟨a1_0, a1_1, a1_2, a1_3, a1_4, a1_5, a1_6, a1_7, a1_8, a1_9, a1_10, a1_11, a1_12, a1_13, a1_14, a1_15, a1_16, a1_17, a1_18, a1_19, a1_20, rfl, wa1_0, wa1_1, wa1_2, wa1_3, wa1_4, wa1_5, wa1_6, wa1_7, wa1_8, wa1_9, wa1_10, wa1_11, wa1_12, wa1_13, wa1_14, wa1_15, wa1_16, wa1_17, wa1_18, wa1_19⟩ := open_Job12 (hval 1 _ v1 rfl rfl) h1 l1 w1
  exact (head12_walk_i a0_0 a0_1 a0_2 a0_3 a0_4 a0_5 a1_0 a1_1 a1_2 a1_3 a1_4 a1_5 a1_6 a1_7 a1_8 a1_9 a1_10 a1_11 a1_12 a1_13 a1_14 a1_15 a1_16 a1_17 a1_18 a1_19 a1_20 W wa1_4 wa1_9 wa1_10).mono fun e W' ⟨he, hf⟩ => ⟨he, hf.below0⟩

theorem lifted (os : Os) (started : os.Started) (H : Type) (enc : TypeId × Value → H) :
    ReturnsInHanded {} Try.checked os 4 .any (Rows.installHeadSpec.pre6 enc Try.prog Try.f4 Rows.installHeadRow.domain false) (Rows.installHeadSpec.post enc Try.prog Try.f4 false true false false) :=
  lift_plain (C := Try.checked) (by kernel_rfl) started (by kernel_rfl) Try.func4 (by kernel_rfl) (by kernel_rfl) rfl Try.underlying4 rfl
    (fun ds h => by
      match ds, h with
      | [d0, d1], _ => rfl)
    (ChangeSpec.witness6 (enc := enc) (C := Try.checked) false ⟨#[], #[.agg #[.int .i64 0, .int .i64 0, .int .i64 0, .int .i64 0, .int .i64 0, .int .i64 0], .agg #[.int .i64 0, .int .i64 0, .int .i64 0, .int .i64 0, .slice none 0 0, .int .i64 0, .string ⟨#[]⟩, .string ⟨#[]⟩, .bool false, .int .i64 0, .slice none 0 0, .slice none 0 0, .string ⟨#[]⟩, .string ⟨#[]⟩, .int .i64 0, .int .i64 0, .int .i64 0, .string ⟨#[]⟩, .int .i64 0, .int .i64 0, .int .i64 0]], []⟩ 8 (by kernel_rfl) (by kernel_rfl) (by kernel_rfl) (by kernel_rfl))
    (law enc)

theorem row_holds : Rows.InstallHeadSaid :=
  OpenClaim.holds_of_wide 4 Try.f4 rfl rfl rfl rfl rfl rfl rfl ⟨rfl, rfl, rfl, rfl, rfl⟩ rfl rfl rfl rfl rfl (by kernel_rfl) Try.func4 (by kernel_rfl)
    (of_decide_eq_true (by kernel_rfl)) (by unfold Func.isWrapper; rw [if_neg (of_decide_eq_false (by kernel_rfl))]; exact ⟨rfl, rfl⟩)
    (fun os started H enc _ => lifted os started H enc)
#print axioms row_holds
end PInstallHead
end Go.Proofs.Ythcpccddcgbanaa

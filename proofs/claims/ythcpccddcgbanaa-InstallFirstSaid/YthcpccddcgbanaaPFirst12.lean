/- InstallFirst returns true for every l, jobs and turns. Conditions: none. -/
import Derived.Test.YthcpccddcgbanaaRows
import Derived.Test.YthcpccddcgbanaaFirst12
import Derived.Test.YthcpccddcgbanaaTypes12
namespace Go.Proofs.Ythcpccddcgbanaa
open Go.ChangeShapes Go.WideShapes Go.RowKit
set_option maxRecDepth 100000
set_option linter.unusedVariables false
namespace PInstallFirst

theorem law {H : Type} (enc : TypeId × Value → H) : LawWalk enc Try.prog 3 Try.f3.params.toList (fun _ => True) := by
  intro W args ds ps base hA hval hlt hsz hX
  rw [Try.params3] at hA hval hsz
  obtain ⟨v0, vs0, d0, ds0, p0, q0, hargs, rfl, rfl, h0, r0⟩ := trodAll_cons hA
  obtain ⟨v1, vs1, d1, ds1, p1, q1, rfl, rfl, rfl, h1, r1⟩ := trodAll_cons r0
  obtain ⟨v2, vs2, d2, ds2, p2, q2, rfl, rfl, rfl, h2, r2⟩ := trodAll_cons r1
  obtain ⟨rfl, rfl, rfl⟩ := trodAll_nil r2
  obtain rfl : args = #[v0, v1, v2] := by cases args; simp_all
  have hw : ∀ y ∈ DataW.weightsEach Try.prog [23, 24, 25] [d0, d1, d2], y ≤ reachBytes := fun y hy => by simpa using List.all_eq_true.1 hsz y hy
  have w0 : ∀ y ∈ d0.weights Try.prog 23, y ≤ reachBytes := fun y hy => hw y (by simp [DataW.weightsEach, hy])
  have l0 : ∀ p ∈ p0, p.block < W.heap.size := fun p hp => hlt p (by simp [hp])
  have w1 : ∀ y ∈ d1.weights Try.prog 24, y ≤ reachBytes := fun y hy => hw y (by simp [DataW.weightsEach, hy])
  have l1 : ∀ p ∈ p1, p.block < W.heap.size := fun p hp => hlt p (by simp [hp])
  have w2 : ∀ y ∈ d2.weights Try.prog 25, y ≤ reachBytes := fun y hy => hw y (by simp [DataW.weightsEach, hy])
  have l2 : ∀ p ∈ p2, p.block < W.heap.size := fun p hp => hlt p (by simp [hp])
  obtain ⟨a0_0, a0_1, a0_2, a0_3, a0_4, a0_5, rfl, wa0_0, wa0_1, wa0_2, wa0_3, wa0_4, wa0_5⟩ := open_Lim12 (hval 0 _ v0 rfl rfl) h0 l0 w0
  obtain ⟨A1, n1, cap1, rfl, hc1, hm1, hb1, hz1, hrd1⟩ := open_slice_arg 6 Try.underlying24 (hval 1 _ v1 rfl rfl) h1 l1 w1 (by rw [leaves_Job12]; rfl) (by rw [leaves_Job12, cells_Job12]; rfl)
  obtain ⟨A2, n2, cap2, rfl, hc2, hm2, hb2, hz2, hrd2⟩ := open_slice_arg 6 Try.underlying25 (hval 2 _ v2 rfl rfl) h2 l2 w2 (by rw [leaves_B12]; rfl) (by rw [leaves_B12, cells_B12]; rfl)
  exact (first12_walk_i a0_0 a0_1 a0_2 a0_3 a0_4 a0_5 A1 n1 cap1 hc1 hm1 A2 n2 cap2 hc2 hm2 W (Job12_at hrd1) (B12_at hrd2)).mono fun e W' ⟨he, hf⟩ => ⟨he, hf.below0⟩

theorem lifted (os : Os) (started : os.Started) (H : Type) (enc : TypeId × Value → H) :
    ReturnsInHanded {} Try.checked os 3 .any (Rows.installFirstSpec.pre6 enc Try.prog Try.f3 Rows.installFirstRow.domain false) (Rows.installFirstSpec.post enc Try.prog Try.f3 false true false false) :=
  lift_plain (C := Try.checked) (by kernel_rfl) started (by kernel_rfl) Try.func3 (by kernel_rfl) (by kernel_rfl) rfl Try.underlying4 rfl
    (fun ds h => by
      match ds, h with
      | [d0, d1, d2], _ => rfl)
    (ChangeSpec.witness6 (enc := enc) (C := Try.checked) false ⟨#[], #[.agg #[.int .i64 0, .int .i64 0, .int .i64 0, .int .i64 0, .int .i64 0, .int .i64 0], .slice none 0 0, .slice none 0 0], []⟩ 8 (by kernel_rfl) (by kernel_rfl) (by kernel_rfl) (by kernel_rfl))
    (law enc)

theorem row_holds : Rows.InstallFirstSaid :=
  OpenClaim.holds_of_wide 3 Try.f3 rfl rfl rfl rfl rfl rfl rfl ⟨rfl, rfl, rfl, rfl, rfl⟩ rfl rfl rfl rfl rfl (by kernel_rfl) Try.func3 (by kernel_rfl)
    (of_decide_eq_true (by kernel_rfl)) (by unfold Func.isWrapper; rw [if_neg (of_decide_eq_false (by kernel_rfl))]; exact ⟨rfl, rfl⟩)
    (fun os started H enc _ => lifted os started H enc)
#print axioms row_holds
end PInstallFirst
end Go.Proofs.Ythcpccddcgbanaa

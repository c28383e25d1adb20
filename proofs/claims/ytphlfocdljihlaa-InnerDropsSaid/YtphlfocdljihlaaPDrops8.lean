/- InnerDrops returns true for every l, page and key. Conditions: none. -/
import Derived.Test.YtphlfocdljihlaaRows
import Derived.ChangeMaps5
import Derived.Test.YtphlfocdljihlaaDrops8
import Derived.Test.YtphlfocdljihlaaTypesR
namespace Go.Proofs.Ytphlfocdljihlaa
open Go.ChangeShapes Go.WideShapes Go.RowKit
set_option maxRecDepth 100000
set_option linter.unusedVariables false
namespace PInnerDrops

theorem law {H : Type} (enc : TypeId × Value → H) : LawWalk enc Try.prog 4 Try.f4.params.toList (fun _ => True) := by
  intro W args ds ps base hA hval hlt hsz hX
  rw [Try.params4] at hA hval hsz
  obtain ⟨v0, vs0, d0, ds0, p0, q0, hargs, rfl, rfl, h0, r0⟩ := trodAll_cons hA
  obtain ⟨v1, vs1, d1, ds1, p1, q1, rfl, rfl, rfl, h1, r1⟩ := trodAll_cons r0
  obtain ⟨v2, vs2, d2, ds2, p2, q2, rfl, rfl, rfl, h2, r2⟩ := trodAll_cons r1
  obtain ⟨rfl, rfl, rfl⟩ := trodAll_nil r2
  obtain rfl : args = #[v0, v1, v2] := by cases args; simp_all
  have hw : ∀ y ∈ DataW.weightsEach Try.prog [22, 3, 9] [d0, d1, d2], y ≤ reachBytes := fun y hy => by simpa using List.all_eq_true.1 hsz y hy
  have w0 : ∀ y ∈ d0.weights Try.prog 22, y ≤ reachBytes := fun y hy => hw y (by simp [DataW.weightsEach, hy])
  have l0 : ∀ p ∈ p0, p.block < W.heap.size := fun p hp => hlt p (by simp [hp])
  have w1 : ∀ y ∈ d1.weights Try.prog 3, y ≤ reachBytes := fun y hy => hw y (by simp [DataW.weightsEach, hy])
  have l1 : ∀ p ∈ p1, p.block < W.heap.size := fun p hp => hlt p (by simp [hp])
  have w2 : ∀ y ∈ d2.weights Try.prog 9, y ≤ reachBytes := fun y hy => hw y (by simp [DataW.weightsEach, hy])
  have l2 : ∀ p ∈ p2, p.block < W.heap.size := fun p hp => hlt p (by simp [hp])
  obtain ⟨A0, n0, cap0, rfl, hc0, hm0, hb0, hz0, hrd0⟩ := open_slice_arg 6 Try.underlying22 (hval 0 _ v0 rfl rfl) h0 l0 w0 (by rw [leaves_Record]; rfl) (by rw [leaves_Record, cells_Record]; rfl)
  obtain ⟨a1, rfl, rfl, rfl, wf1⟩ := open_int Try.underlying3 (hval 1 _ v1 rfl rfl) h1
  obtain ⟨a2, rfl, rfl, rfl, wf2⟩ := Go.ChangeMaps.open_string Try.underlying9 (hval 2 _ v2 rfl rfl) h2
  have wg2 : a2.size ≤ reachBytes := by simpa [DataW.weights] using w2
  exact (drops8_walk_i A0 n0 cap0 hc0 hm0 a1 a2 wg2 W (Record_at hrd0)).mono fun e W' ⟨he, hf⟩ => ⟨he, hf.below0⟩

theorem lifted (os : Os) (started : os.Started) (H : Type) (enc : TypeId × Value → H) :
    ReturnsInHanded {} Try.checked os 4 .any (Rows.innerDropsSpec.pre6 enc Try.prog Try.f4 Rows.innerDropsRow.domain false) (Rows.innerDropsSpec.post enc Try.prog Try.f4 false true false false) :=
  lift_plain (C := Try.checked) (by kernel_rfl) started (by kernel_rfl) Try.func4 (by kernel_rfl) (by kernel_rfl) rfl Try.underlying4 rfl
    (fun ds h => by
      match ds, h with
      | [d0, d1, d2], _ => rfl)
    (ChangeSpec.witness6 (enc := enc) (C := Try.checked) false ⟨#[], #[.slice none 0 0, .int .i64 0, .string ⟨#[]⟩], []⟩ 8 (by kernel_rfl) (by kernel_rfl) (by kernel_rfl) (by kernel_rfl))
    (law enc)

theorem row_holds : Rows.InnerDropsSaid :=
  OpenClaim.holds_of_wide 4 Try.f4 rfl rfl rfl rfl rfl rfl rfl ⟨rfl, rfl, rfl, rfl, rfl⟩ rfl rfl rfl rfl rfl (by kernel_rfl) Try.func4 (by kernel_rfl)
    (of_decide_eq_true (by kernel_rfl)) (by unfold Func.isWrapper; rw [if_neg (of_decide_eq_false (by kernel_rfl))]; exact ⟨rfl, rfl⟩)
    (fun os started H enc _ => lifted os started H enc)
#print axioms row_holds
end PInnerDrops
end Go.Proofs.Ytphlfocdljihlaa

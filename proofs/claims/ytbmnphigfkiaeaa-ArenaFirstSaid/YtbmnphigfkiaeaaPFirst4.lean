/- ArenaFirst returns true for every slots and l. Conditions: none. -/
import Derived.Test.YtbmnphigfkiaeaaRows
import Derived.Test.YtbmnphigfkiaeaaFirst4
import Derived.Test.YtbmnphigfkiaeaaTypes4
namespace Go.Proofs.Ytbmnphigfkiaeaa
open Go.ChangeShapes Go.WideShapes Go.RowKit
set_option maxRecDepth 100000
set_option linter.unusedVariables false
namespace PArenaFirst

theorem law {H : Type} (enc : TypeId × Value → H) : LawWalk enc Try.prog 6 Try.f6.params.toList (fun _ => True) := by
  intro W args ds ps base hA hval hlt hsz hX
  rw [Try.params6] at hA hval hsz
  obtain ⟨v0, vs0, d0, ds0, p0, q0, hargs, rfl, rfl, h0, r0⟩ := trodAll_cons hA
  obtain ⟨v1, vs1, d1, ds1, p1, q1, rfl, rfl, rfl, h1, r1⟩ := trodAll_cons r0
  obtain ⟨rfl, rfl, rfl⟩ := trodAll_nil r1
  obtain rfl : args = #[v0, v1] := by cases args; simp_all
  have hw : ∀ y ∈ DataW.weightsEach Try.prog [3, 38] [d0, d1], y ≤ reachBytes := fun y hy => by simpa using List.all_eq_true.1 hsz y hy
  have w0 : ∀ y ∈ d0.weights Try.prog 3, y ≤ reachBytes := fun y hy => hw y (by simp [DataW.weightsEach, hy])
  have l0 : ∀ p ∈ p0, p.block < W.heap.size := fun p hp => hlt p (by simp [hp])
  have w1 : ∀ y ∈ d1.weights Try.prog 38, y ≤ reachBytes := fun y hy => hw y (by simp [DataW.weightsEach, hy])
  have l1 : ∀ p ∈ p1, p.block < W.heap.size := fun p hp => hlt p (by simp [hp])
  obtain ⟨a0, rfl, rfl, rfl, wf0⟩ := open_int Try.underlying3 (hval 0 _ v0 rfl rfl) h0
  obtain ⟨A1, n1, cap1, rfl, hc1, hm1, hb1, hz1, hrd1⟩ := open_slice_arg 6 Try.underlying38 (hval 1 _ v1 rfl rfl) h1 l1 w1 (by rw [leaves_Do4]; rfl) (by rw [leaves_Do4, cells_Do4]; rfl)
  exact (first4_walk_i a0 wf0 A1 n1 cap1 hc1 hm1 W (Do4_at hrd1)).mono fun e W' ⟨he, hf⟩ => ⟨he, hf.below0⟩

theorem lifted (os : Os) (started : os.Started) (H : Type) (enc : TypeId × Value → H) :
    ReturnsInHanded {} Try.checked os 6 .any (Rows.arenaFirstSpec.pre6 enc Try.prog Try.f6 Rows.arenaFirstRow.domain false) (Rows.arenaFirstSpec.post enc Try.prog Try.f6 false true false false) :=
  lift_plain (C := Try.checked) (by kernel_rfl) started (by kernel_rfl) Try.func6 (by kernel_rfl) (by kernel_rfl) rfl Try.underlying4 rfl
    (fun ds h => by
      match ds, h with
      | [d0, d1], _ => rfl)
    (ChangeSpec.witness6 (enc := enc) (C := Try.checked) false ⟨#[], #[.int .i64 0, .slice none 0 0], []⟩ 8 (by kernel_rfl) (by kernel_rfl) (by kernel_rfl) (by kernel_rfl))
    (law enc)

theorem row_holds : Rows.ArenaFirstSaid :=
  OpenClaim.holds_of_wide 6 Try.f6 rfl rfl rfl rfl rfl rfl rfl ⟨rfl, rfl, rfl, rfl, rfl⟩ rfl rfl rfl rfl rfl (by kernel_rfl) Try.func6 (by kernel_rfl)
    (of_decide_eq_true (by kernel_rfl)) (by unfold Func.isWrapper; rw [if_neg (of_decide_eq_false (by kernel_rfl))]; exact ⟨rfl, rfl⟩)
    (fun os started H enc _ => lifted os started H enc)
#print axioms row_holds
end PArenaFirst
end Go.Proofs.Ytbmnphigfkiaeaa

/- PageOwn returns true for every l. Conditions: none. -/
import Derived.Test.YtpjbncbmdfmlpaaRows
import Derived.Test.YtpjbncbmdfmlpaaMqA
import Derived.Test.YtpjbncbmdfmlpaaMqQ
namespace Go.Proofs.Ytpjbncbmdfmlpaa
open Go.ChangeShapes Go.WideShapes Go.RowKit
set_option maxRecDepth 100000
set_option linter.unusedVariables false
namespace PPageOwn

theorem law {H : Type} (enc : TypeId × Value → H) : LawWalk enc Try.prog 4 Try.f4.params.toList (fun _ => True) := by
  intro W args ds ps base hA hval hlt hsz hX
  rw [Try.params4] at hA hval hsz
  obtain ⟨v0, vs0, d0, ds0, p0, q0, hargs, rfl, rfl, h0, r0⟩ := trodAll_cons hA
  obtain ⟨rfl, rfl, rfl⟩ := trodAll_nil r0
  obtain rfl : args = #[v0] := by cases args; simp_all
  have hw : ∀ y ∈ DataW.weightsEach Try.prog [34] [d0], y ≤ reachBytes := fun y hy => by simpa using List.all_eq_true.1 hsz y hy
  have w0 : ∀ y ∈ d0.weights Try.prog 34, y ≤ reachBytes := fun y hy => hw y (by simp [DataW.weightsEach, hy])
  have l0 : ∀ p ∈ p0, p.block < W.heap.size := fun p hp => hlt p (by simp [hp])
  obtain ⟨A0, n0, cap0, rfl, hc0, hm0, hb0, hz0, hrd0⟩ := open_slice_arg 6 Try.underlying34 (hval 0 _ v0 rfl rfl) h0 l0 w0 (by rw [leaves_Record]; rfl) (by rw [leaves_Record, cells_Record]; rfl)
  exact (own10_walk_i A0 n0 cap0 hc0 hm0 W (Record_at hrd0)).mono fun e W' ⟨he, hf⟩ => ⟨he, hf.below0⟩

theorem lifted (os : Os) (started : os.Started) (H : Type) (enc : TypeId × Value → H) :
    ReturnsInHanded {} Try.checked os 4 .any (Rows.pageOwnSpec.pre6 enc Try.prog Try.f4 Rows.pageOwnRow.domain false) (Rows.pageOwnSpec.post enc Try.prog Try.f4 false true false false) :=
  lift_plain (C := Try.checked) (by kernel_rfl) started (by kernel_rfl) Try.func4 (by kernel_rfl) (by kernel_rfl) rfl Try.underlying4 rfl
    (fun ds h => by
      match ds, h with
      | [d0], _ => rfl)
    (ChangeSpec.witness6 (enc := enc) (C := Try.checked) false ⟨#[], #[.slice none 0 0], []⟩ 8 (by kernel_rfl) (by kernel_rfl) (by kernel_rfl) (by kernel_rfl))
    (law enc)

theorem row_holds : Rows.PageOwnSaid :=
  OpenClaim.holds_of_wide 4 Try.f4 rfl rfl rfl rfl rfl rfl rfl ⟨rfl, rfl, rfl, rfl, rfl⟩ rfl rfl rfl rfl rfl (by kernel_rfl) Try.func4 (by kernel_rfl)
    (of_decide_eq_true (by kernel_rfl)) (by unfold Func.isWrapper; rw [if_neg (of_decide_eq_false (by kernel_rfl))]; exact ⟨rfl, rfl⟩)
    (fun os started H enc _ => lifted os started H enc)
#print axioms row_holds
end PPageOwn
end Go.Proofs.Ytpjbncbmdfmlpaa

/- FaultWeights returns true for every c. Conditions: none but the tied errors.errorType. -/
import Derived.Test.YtcfddlfeldidjaaDoorRows
import Derived.Test.YtcfddlfeldidjaaDoorCards
import Derived.Test.YtcfddlfeldidjaaDoorTie
import Derived.SevenTiedAt
import Derived.Test.YtcfddlfeldidjaaDoorAw1
import Derived.Test.YtcfddlfeldidjaaDoorLaid
namespace Go.Proofs.YtcfddlfeldidjaaDoor
open Go.ChangeShapes Go.WideShapes Go.RowKit
set_option maxRecDepth 100000
set_option linter.unusedVariables false
namespace PFaultWeights

theorem law {H : Type} (enc : TypeId × Value → H) : LawWalk enc Tryd.prog 3 Tryd.f3.params.toList (fun W => laidMetH Tryd.prog Rows.faultWeightsRow.laid W) := by
  intro W args ds ps base hA hval hlt hsz hX
  rw [Tryd.params3] at hA hval hsz
  obtain ⟨v0, vs0, d0, ds0, p0, q0, hargs, rfl, rfl, h0, r0⟩ := trodAll_cons hA
  obtain ⟨rfl, rfl, rfl⟩ := trodAll_nil r0
  obtain rfl : args = #[v0] := by cases args; simp_all
  have hw : ∀ y ∈ DataW.weightsEach Tryd.prog [22] [d0], y ≤ reachBytes := fun y hy => by simpa using List.all_eq_true.1 hsz y hy
  have w0 : ∀ y ∈ d0.weights Tryd.prog 22, y ≤ reachBytes := fun y hy => hw y (by simp [DataW.weightsEach, hy])
  have l0 : ∀ p ∈ p0, p.block < W.heap.size := fun p hp => hlt p (by simp [hp])
  obtain ⟨a0, rfl, rfl, rfl, wf0⟩ := open_int Tryd.underlying22 (hval 0 _ v0 rfl rfl) h0
  exact (weights_walk a0 W (handle_of_laid hX)).mono fun e W' ⟨he, hf⟩ => ⟨he, hf.below0⟩

theorem lifted (os : Os) (started : os.Started) (H : Type) (enc : TypeId × Value → H) :
    ReturnsInHanded {} Tryd.checked os 3 .any (fun w args => (Rows.faultWeightsSpec.pre enc Tryd.prog Tryd.f3 [] false w args ∧ laidMetH Tryd.prog Rows.faultWeightsRow.laid w) ∧ sizedMet enc Tryd.prog Tryd.f3 (OpenSpec.ofChange Rows.faultWeightsSpec) false w args)
      (Rows.faultWeightsSpec.post enc Tryd.prog Tryd.f3 false true false false) :=
  lift_laid (C := Tryd.checked) (by kernel_rfl) started (by kernel_rfl) Tryd.func3 (by kernel_rfl) (by kernel_rfl) rfl Tryd.underlying4 rfl
    (fun ds h => by
      match ds, h with
      | [d0], _ => rfl)
    (ChangeSpec.witness_at (enc := enc) (C := Tryd.checked) (os := os) (X := fun w _ => laidMetH Tryd.prog Rows.faultWeightsRow.laid w) false (laidWorld os) #[.int .i64 0] 8 rfl (by kernel_rfl) (by kernel_rfl) (by kernel_rfl) (by kernel_rfl) (by kernel_rfl) (laidWorld_met os _))
    (law enc)

theorem row_holds : Rows.FaultWeightsSaid :=
  OpenClaim.holds_of_wide 3 Tryd.f3 rfl rfl rfl rfl rfl rfl rfl ⟨rfl, rfl, rfl, rfl, rfl⟩ rfl rfl rfl rfl rfl (by kernel_rfl) Tryd.func3 (by kernel_rfl)
    (of_decide_eq_true (by kernel_rfl)) (by unfold Func.isWrapper; rw [if_neg (of_decide_eq_false (by kernel_rfl))]; exact ⟨rfl, rfl⟩)
    (fun os started H enc _ => lifted os started H enc)

theorem card_holds : Rows.FaultWeightsCardSaid :=
  Claim7.holds_tied_plain_at .later [] _ _ _ _
    row_holds (fun _ h => by cases h) (by kernel_rfl) (fun _ h => by cases h) faultWeights_row_tie rfl ⟨rfl, rfl⟩ (by kernel_rfl) rfl
    (fun f fn hf hfn => by
      obtain rfl : f = 3 := Option.some.inj ((show Tryd.prog.funcNamed Rows.faultWeightsRow.func = some 3 by kernel_rfl).symm.trans hf) |>.symm
      obtain rfl : fn = Tryd.f3 := (Option.some.inj (Tryd.func3.symm.trans hfn)).symm
      refine ⟨by kernel_rfl, fun j t ht => ?_⟩
      have hall : (Tryd.f3.params.toList.all fun t => !Tryd.prog.wantsStandIn t) = true := by kernel_rfl
      have hm : t ∈ Tryd.f3.params.toList := by
        rw [Array.mem_toList_iff]
        exact Array.mem_of_getElem? ht
      have h1 := List.all_eq_true.1 hall t hm
      have h2 : Tryd.prog.wantsStandIn t = false := by simpa using h1
      exact h2)
    (by kernel_rfl)
#print axioms card_holds
end PFaultWeights
end Go.Proofs.YtcfddlfeldidjaaDoor

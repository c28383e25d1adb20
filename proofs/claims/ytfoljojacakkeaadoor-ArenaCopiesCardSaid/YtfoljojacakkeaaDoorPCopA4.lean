/- ArenaCopies returns true for every slots, last, l and at. Conditions: none but the tied errors.errorType. -/
import Derived.Test.YtfoljojacakkeaaDoorRows
import Derived.Test.YtfoljojacakkeaaDoorCards
import Derived.Test.YtfoljojacakkeaaDoorTie
import Derived.SevenTiedAt
import Derived.Test.YtfoljojacakkeaaDoorCopI4
import Derived.Test.YtfoljojacakkeaaDoorLaid
import Derived.Test.YtfoljojacakkeaaDoorTypes4
namespace Go.Proofs.YtfoljojacakkeaaDoor
open Go.ChangeShapes Go.WideShapes Go.RowKit
set_option maxRecDepth 100000
set_option linter.unusedVariables false
namespace PArenaCopies

theorem law {H : Type} (enc : TypeId × Value → H) : LawWalk enc Tryd.prog 4 Tryd.f4.params.toList (fun W => laidMetH Tryd.prog Rows.arenaCopiesRow.laid W) := by
  intro W args ds ps base hA hval hlt hsz hX
  rw [Tryd.params4] at hA hval hsz
  obtain ⟨v0, vs0, d0, ds0, p0, q0, hargs, rfl, rfl, h0, r0⟩ := trodAll_cons hA
  obtain ⟨v1, vs1, d1, ds1, p1, q1, rfl, rfl, rfl, h1, r1⟩ := trodAll_cons r0
  obtain ⟨v2, vs2, d2, ds2, p2, q2, rfl, rfl, rfl, h2, r2⟩ := trodAll_cons r1
  obtain ⟨v3, vs3, d3, ds3, p3, q3, rfl, rfl, rfl, h3, r3⟩ := trodAll_cons r2
  obtain ⟨rfl, rfl, rfl⟩ := trodAll_nil r3
  obtain rfl : args = #[v0, v1, v2, v3] := by cases args; simp_all
  have hw : ∀ y ∈ DataW.weightsEach Tryd.prog [3, 3, 22, 5] [d0, d1, d2, d3], y ≤ reachBytes := fun y hy => by simpa using List.all_eq_true.1 hsz y hy
  have w0 : ∀ y ∈ d0.weights Tryd.prog 3, y ≤ reachBytes := fun y hy => hw y (by simp [DataW.weightsEach, hy])
  have l0 : ∀ p ∈ p0, p.block < W.heap.size := fun p hp => hlt p (by simp [hp])
  have w1 : ∀ y ∈ d1.weights Tryd.prog 3, y ≤ reachBytes := fun y hy => hw y (by simp [DataW.weightsEach, hy])
  have l1 : ∀ p ∈ p1, p.block < W.heap.size := fun p hp => hlt p (by simp [hp])
  have w2 : ∀ y ∈ d2.weights Tryd.prog 22, y ≤ reachBytes := fun y hy => hw y (by simp [DataW.weightsEach, hy])
  have l2 : ∀ p ∈ p2, p.block < W.heap.size := fun p hp => hlt p (by simp [hp])
  have w3 : ∀ y ∈ d3.weights Tryd.prog 5, y ≤ reachBytes := fun y hy => hw y (by simp [DataW.weightsEach, hy])
  have l3 : ∀ p ∈ p3, p.block < W.heap.size := fun p hp => hlt p (by simp [hp])
  obtain ⟨a0, rfl, rfl, rfl, wf0⟩ := open_int Tryd.underlying3 (hval 0 _ v0 rfl rfl) h0
  obtain ⟨a1, rfl, rfl, rfl, wf1⟩ := open_int Tryd.underlying3 (hval 1 _ v1 rfl rfl) h1
  obtain ⟨A2, n2, cap2, rfl, hc2, hm2, hb2, hz2, hrd2⟩ := open_slice_arg 6 Tryd.underlying22 (hval 2 _ v2 rfl rfl) h2 l2 w2 (by rw [leaves_Do4]; rfl) (by rw [leaves_Do4, cells_Do4]; rfl)
  obtain ⟨a3, rfl, rfl, rfl, wf3⟩ := open_int Tryd.underlying5 (hval 3 _ v3 rfl rfl) h3
  exact (copiesa4_walk_i a0 a1 wf0 wf1 A2 n2 cap2 hc2 hm2 a3 wf3 W (Do4_at hrd2) (handle_of_laid hX)).mono fun e W' ⟨he, hf⟩ => ⟨he, hf.below0⟩

theorem lifted (os : Os) (started : os.Started) (H : Type) (enc : TypeId × Value → H) :
    ReturnsInHanded {} Tryd.checked os 4 .any (fun w args => (Rows.arenaCopiesSpec.pre enc Tryd.prog Tryd.f4 [] false w args ∧ laidMetH Tryd.prog Rows.arenaCopiesRow.laid w) ∧ sizedMet enc Tryd.prog Tryd.f4 (OpenSpec.ofChange Rows.arenaCopiesSpec) false w args)
      (Rows.arenaCopiesSpec.post enc Tryd.prog Tryd.f4 false true false false) :=
  lift_laid (C := Tryd.checked) (by kernel_rfl) started (by kernel_rfl) Tryd.func4 (by kernel_rfl) (by kernel_rfl) rfl Tryd.underlying4 rfl
    (fun ds h => by
      match ds, h with
      | [d0, d1, d2, d3], _ => rfl)
    (ChangeSpec.witness_at (enc := enc) (C := Tryd.checked) (os := os) (X := fun w _ => laidMetH Tryd.prog Rows.arenaCopiesRow.laid w) false (laidWorld os) #[.int .i64 0, .int .i64 0, .slice none 0 0, .int .u8 0] 8 rfl (by kernel_rfl) (by kernel_rfl) (by kernel_rfl) (by kernel_rfl) (by kernel_rfl) (laidWorld_met os _))
    (law enc)

theorem row_holds : Rows.ArenaCopiesSaid :=
  OpenClaim.holds_of_wide 4 Tryd.f4 rfl rfl rfl rfl rfl rfl rfl ⟨rfl, rfl, rfl, rfl, rfl⟩ rfl rfl rfl rfl rfl (by kernel_rfl) Tryd.func4 (by kernel_rfl)
    (of_decide_eq_true (by kernel_rfl)) (by unfold Func.isWrapper; rw [if_neg (of_decide_eq_false (by kernel_rfl))]; exact ⟨rfl, rfl⟩)
    (fun os started H enc _ => lifted os started H enc)

theorem card_holds : Rows.ArenaCopiesCardSaid :=
  Claim7.holds_tied_plain_at .later [] _ _ _ _
    row_holds (fun _ h => by cases h) (by kernel_rfl) (fun _ h => by cases h) arenaCopies_row_tie rfl ⟨rfl, rfl⟩ (by kernel_rfl) rfl
    (fun f fn hf hfn => by
      obtain rfl : f = 4 := Option.some.inj ((show Tryd.prog.funcNamed Rows.arenaCopiesRow.func = some 4 by kernel_rfl).symm.trans hf) |>.symm
      obtain rfl : fn = Tryd.f4 := (Option.some.inj (Tryd.func4.symm.trans hfn)).symm
      refine ⟨by kernel_rfl, fun j t ht => ?_⟩
      have hall : (Tryd.f4.params.toList.all fun t => !Tryd.prog.wantsStandIn t) = true := by kernel_rfl
      have hm : t ∈ Tryd.f4.params.toList := by
        rw [Array.mem_toList_iff]
        exact Array.mem_of_getElem? ht
      have h1 := List.all_eq_true.1 hall t hm
      have h2 : Tryd.prog.wantsStandIn t = false := by simpa using h1
      exact h2)
    (by kernel_rfl)
#print axioms card_holds
end PArenaCopies
end Go.Proofs.YtfoljojacakkeaaDoor

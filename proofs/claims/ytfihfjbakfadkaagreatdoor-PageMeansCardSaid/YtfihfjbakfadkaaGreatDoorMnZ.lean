/- PageMeans returns true for every n, head, l and key. Conditions: none but the tied errors.errorType. -/
import Derived.ChangeSame
import Derived.ChangeVars
import Derived.JoinedOf
import Derived.LaidLaws
import Derived.LaidHandle
import Derived.Test.YtfihfjbakfadkaaGreatDoorRows
import Derived.Test.YtfihfjbakfadkaaGreatDoorCards
import Derived.Test.YtfihfjbakfadkaaGreatDoorTie
import Derived.SevenTiedAt
import Derived.ChangeMaps5
import Derived.Test.YtfihfjbakfadkaaGreatDoorMnA
import Derived.Test.YtfihfjbakfadkaaGreatDoorMnT
import Derived.Test.YtfihfjbakfadkaaGreatDoorMnU
namespace Go.Proofs.YtfihfjbakfadkaaGreatDoor
open Go.ChangeShapes Go.WideShapes Go.RowKit

theorem laid_et : Tryz.prog.globalNamed "errors.errorType" = some 0 := by kernel_rfl
theorem laid_rt : (Tryz.prog.cutTypes.find? (·.1 == "internal/reflectlite.rtype")).map (·.2) = some 227 := by kernel_rfl
theorem laid_oneRow : ((List.range Tryz.prog.types.size).filter fun t => Tryz.prog.rowNamed t [101, 114, 114, 111, 114]) = [42] := by kernel_rfl
abbrev laidList : List (String × DataW Unit) := [("errors.errorType", .iface "internal/reflectlite.rtype" (.agg [.ptr (.lit (.string [101, 114, 114, 111, 114]))]))]

theorem handle_of_laid {W : World} (h : laidMetH Tryz.prog laidList W) : Laid W := by
  have h' : laidMet Tryz.prog [] W ∧ handlesMet Tryz.prog laidList W := h
  obtain ⟨name, u, ty, e1, e2, e3, e4, e5⟩ := h'.2 _ (List.mem_singleton.2 rfl)
  have en : name = [101, 114, 114, 111, 114] := (Option.some.inj e1).symm
  subst en
  obtain rfl := Option.some.inj (laid_rt.symm.trans e2)
  have hm : ty ∈ (List.range Tryz.prog.types.size).filter fun t => Tryz.prog.rowNamed t [101, 114, 114, 111, 114] := List.mem_filter.2 ⟨List.mem_range.2 e3, e4⟩
  rw [laid_oneRow] at hm
  obtain rfl := List.mem_singleton.1 hm
  have hh : typeHandle Tryz.prog 42 = .pointer (some ⟨1, 42, none⟩) := by kernel_rfl
  rw [hh] at e5
  have h0 := World.var?_cell laid_et e5 0
  unfold Laid
  simpa using h0

noncomputable def laidWorld (os : Os) : World :=
  let w0 := World.holding Tryz.prog os ⟨#[], #[], []⟩
  { w0 with heap := w0.heap.modify 0 fun
      | .cells _ t frozen => .cells #[.iface 227 (.agg #[.pointer (some ⟨1, 42, none⟩)])] t frozen
      | o => o }
theorem laidWorld_met (os : Os) (args : Array Value) : laidMetH Tryz.prog laidList ((laidWorld os).forCall (fun _ _ => 0) ⟨#[], args, []⟩).memory :=
  laidMetH_of_parts (laidMet_nil _ _) (by kernel_rfl)
end Go.Proofs.YtfihfjbakfadkaaGreatDoor
namespace Go.Proofs.YtfihfjbakfadkaaGreatDoor
open Go.ChangeShapes Go.WideShapes Go.RowKit
set_option maxRecDepth 100000
set_option linter.unusedVariables false
set_option linter.unusedSimpArgs false

theorem cells_Ref : Tryz.prog.cellsOf 23 = 2 := by kernel_rfl
theorem leaves_Ref : leaves Tryz.prog 6 23 = [(0, .int .i64), (1, .int .i64)] := by kernel_rfl
theorem open_Ref {H : Type} {enc : TypeId × Value → H} {w : World} {r : Reach} {b0 : Nat} {v : Value} {d : DataW H} {ps : List MemPlace} (hv : Value.okWide Tryz.prog w r b0 23 v) (h : DataW.Trod enc Tryz.prog w 0 (fun _ => true) true 23 v d ps)
    (hlt : ∀ p ∈ ps, p.block < w.heap.size) (hwt : ∀ y ∈ d.weights Tryz.prog 23, y ≤ reachBytes) : ∃ (x0 : Int) (x1 : Int), v = .agg #[.int .i64 x0, .int .i64 x1] ∧ (Lit.int .i64 x0).wf = true ∧ (Lit.int .i64 x1).wf = true := by
  obtain ⟨cs, rfl, hl, hc⟩ := open_agg 6 Tryz.underlying23 hv h hlt hwt
  rw [cells_Ref] at hl
  rw [leaves_Ref] at hc
  obtain ⟨_, h0, x0, rfl, w0⟩ := hc 0 (.int .i64) (by simp)
  obtain ⟨_, h1, x1, rfl, w1⟩ := hc 1 (.int .i64) (by simp)
  match cs, hl with
  | [c0, c1], _ =>
    obtain rfl : c0 = _ := by simpa using h0
    obtain rfl : c1 = _ := by simpa using h1
    exact ⟨x0, x1, rfl, w0, w1⟩

end Go.Proofs.YtfihfjbakfadkaaGreatDoor
namespace Go.Proofs.YtfihfjbakfadkaaGreatDoor
open Go.ChangeShapes Go.WideShapes Go.RowKit
set_option maxRecDepth 100000
set_option linter.unusedVariables false
namespace PPageMeans

theorem law {H : Type} (enc : TypeId × Value → H) : LawWalk enc Tryz.prog 3 Tryz.f3.params.toList (fun W => laidMetH Tryz.prog Rows.pageMeansRow.laid W) := by
  intro W args ds ps base hA hval hlt hsz hX
  rw [Tryz.params3] at hA hval hsz
  obtain ⟨v0, vs0, d0, ds0, p0, q0, hargs, rfl, rfl, h0, r0⟩ := trodAll_cons hA
  obtain ⟨v1, vs1, d1, ds1, p1, q1, rfl, rfl, rfl, h1, r1⟩ := trodAll_cons r0
  obtain ⟨v2, vs2, d2, ds2, p2, q2, rfl, rfl, rfl, h2, r2⟩ := trodAll_cons r1
  obtain ⟨v3, vs3, d3, ds3, p3, q3, rfl, rfl, rfl, h3, r3⟩ := trodAll_cons r2
  obtain ⟨rfl, rfl, rfl⟩ := trodAll_nil r3
  obtain rfl : args = #[v0, v1, v2, v3] := by cases args; simp_all
  have hw : ∀ y ∈ DataW.weightsEach Tryz.prog [3, 23, 24, 9] [d0, d1, d2, d3], y ≤ reachBytes := fun y hy => by simpa using List.all_eq_true.1 hsz y hy
  have w0 : ∀ y ∈ d0.weights Tryz.prog 3, y ≤ reachBytes := fun y hy => hw y (by simp [DataW.weightsEach, hy])
  have l0 : ∀ p ∈ p0, p.block < W.heap.size := fun p hp => hlt p (by simp [hp])
  have w1 : ∀ y ∈ d1.weights Tryz.prog 23, y ≤ reachBytes := fun y hy => hw y (by simp [DataW.weightsEach, hy])
  have l1 : ∀ p ∈ p1, p.block < W.heap.size := fun p hp => hlt p (by simp [hp])
  have w2 : ∀ y ∈ d2.weights Tryz.prog 24, y ≤ reachBytes := fun y hy => hw y (by simp [DataW.weightsEach, hy])
  have l2 : ∀ p ∈ p2, p.block < W.heap.size := fun p hp => hlt p (by simp [hp])
  have w3 : ∀ y ∈ d3.weights Tryz.prog 9, y ≤ reachBytes := fun y hy => hw y (by simp [DataW.weightsEach, hy])
  have l3 : ∀ p ∈ p3, p.block < W.heap.size := fun p hp => hlt p (by simp [hp])
  obtain ⟨a0, rfl, rfl, rfl, wf0⟩ := open_int Tryz.underlying3 (hval 0 _ v0 rfl rfl) h0
  obtain ⟨a1_0, a1_1, rfl, wa1_0, wa1_1⟩ := open_Ref (hval 1 _ v1 rfl rfl) h1 l1 w1
  obtain ⟨A2, n2, cap2, rfl, hc2, hm2, hb2, hz2, hrd2⟩ := open_slice_arg 6 Tryz.underlying24 (hval 2 _ v2 rfl rfl) h2 l2 w2 (by rw [leaves_Record]; rfl) (by rw [leaves_Record, cells_Record]; rfl)
  obtain ⟨a3, rfl, rfl, rfl, wf3⟩ := Go.ChangeMaps.open_string Tryz.underlying9 (hval 3 _ v3 rfl rfl) h3
  have wg3 : a3.size ≤ reachBytes := by simpa [DataW.weights] using w3
  exact (pmeans10_walk_i a0 a1_0 a1_1 A2 n2 cap2 hc2 hm2 a3 wg3 W (Record_at hrd2) (handle_of_laid hX)).mono fun e W' ⟨he, hf⟩ => ⟨he, hf.below0⟩

theorem lifted (os : Os) (started : os.Started) (H : Type) (enc : TypeId × Value → H) :
    ReturnsInHanded {} Tryz.checked os 3 .any (fun w args => (Rows.pageMeansSpec.pre enc Tryz.prog Tryz.f3 [] false w args ∧ laidMetH Tryz.prog Rows.pageMeansRow.laid w) ∧ sizedMet enc Tryz.prog Tryz.f3 (OpenSpec.ofChange Rows.pageMeansSpec) false w args)
      (Rows.pageMeansSpec.post enc Tryz.prog Tryz.f3 false true false false) :=
  lift_laid (C := Tryz.checked) (by kernel_rfl) started (by kernel_rfl) Tryz.func3 (by kernel_rfl) (by kernel_rfl) rfl Tryz.underlying4 rfl
    (fun ds h => by
      match ds, h with
      | [d0, d1, d2, d3], _ => rfl)
    (ChangeSpec.witness_at (enc := enc) (C := Tryz.checked) (os := os) (X := fun w _ => laidMetH Tryz.prog Rows.pageMeansRow.laid w) false (laidWorld os) #[.int .i64 0, .agg #[.int .i64 0, .int .i64 0], .slice none 0 0, .string ⟨#[]⟩] 8 rfl (by kernel_rfl) (by kernel_rfl) (by kernel_rfl) (by kernel_rfl) (by kernel_rfl) (laidWorld_met os _))
    (law enc)

theorem row_holds : Rows.PageMeansSaid :=
  OpenClaim.holds_of_wide 3 Tryz.f3 rfl rfl rfl rfl rfl rfl rfl ⟨rfl, rfl, rfl, rfl, rfl⟩ rfl rfl rfl rfl rfl (by kernel_rfl) Tryz.func3 (by kernel_rfl)
    (of_decide_eq_true (by kernel_rfl)) (by unfold Func.isWrapper; rw [if_neg (of_decide_eq_false (by kernel_rfl))]; exact ⟨rfl, rfl⟩)
    (fun os started H enc _ => lifted os started H enc)

theorem card_holds : Rows.PageMeansCardSaid :=
  Claim7.holds_tied_plain_at .later [] _ _ _ _
    row_holds (fun _ h => by cases h) (by kernel_rfl) (fun _ h => by cases h) pageMeans_row_tie rfl ⟨rfl, rfl⟩ (by kernel_rfl) rfl
    (fun f fn hf hfn => by
      obtain rfl : f = 3 := Option.some.inj ((show Tryz.prog.funcNamed Rows.pageMeansRow.func = some 3 by kernel_rfl).symm.trans hf) |>.symm
      obtain rfl : fn = Tryz.f3 := (Option.some.inj (Tryz.func3.symm.trans hfn)).symm
      refine ⟨by kernel_rfl, fun j t ht => ?_⟩
      have hall : (Tryz.f3.params.toList.all fun t => !Tryz.prog.wantsStandIn t) = true := by kernel_rfl
      have hm : t ∈ Tryz.f3.params.toList := by
        rw [Array.mem_toList_iff]
        exact Array.mem_of_getElem? ht
      have h1 := List.all_eq_true.1 hall t hm
      have h2 : Tryz.prog.wantsStandIn t = false := by simpa using h1
      exact h2)
    (by kernel_rfl)
#print axioms card_holds
end PPageMeans
end Go.Proofs.YtfihfjbakfadkaaGreatDoor

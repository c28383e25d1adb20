/- MappingFirst returns true for every old, l and other: of several swaps from one head to others just the first one is done, and a swap from another head never. Conditions: none. -/
import Derived.Test.YtnlpnbllnddaaaaRows
import Derived.Test.YtnlpnbllnddaaaaFirst
namespace Go.Proofs.Ytnlpnbllnddaaaa
open Go.ChangeShapes Go.WideShapes Go.RowKit
set_option linter.unusedVariables false

theorem own : ownKnob Try.prog.godebug = none := by kernel_rfl

theorem cells_ref : Try.prog.cellsOf 23 = 2 := by kernel_rfl
theorem leaves_ref : leaves Try.prog 3 23 = [(0, .int .i64), (1, .int .i64)] := by kernel_rfl

theorem open_ref {H : Type} {enc : TypeId × Value → H} {w : World} {r : Reach} {b0 : Nat} {v : Value} {d : DataW H} {ps : List MemPlace} (hv : Value.okWide Try.prog w r b0 23 v) (h : DataW.Trod enc Try.prog w 0 (fun _ => true) true 23 v d ps)
    (hlt : ∀ p ∈ ps, p.block < w.heap.size) (hwt : ∀ y ∈ d.weights Try.prog 23, y ≤ reachBytes) : ∃ a b : Int, v = .agg #[.int .i64 a, .int .i64 b] := by
  obtain ⟨cs, rfl, hl, hc⟩ := open_agg 3 Try.underlying23 hv h hlt hwt
  rw [cells_ref] at hl
  rw [leaves_ref] at hc
  obtain ⟨u0, h0, a, rfl, _⟩ := hc 0 (.int .i64) (by simp)
  obtain ⟨u1, h1, b, rfl, _⟩ := hc 1 (.int .i64) (by simp)
  match cs, hl with
  | [x, y], _ =>
    obtain rfl : x = _ := by simpa using h0
    obtain rfl : y = _ := by simpa using h1
    exact ⟨a, b, rfl⟩

theorem refs_at {H : Type} {enc : TypeId × Value → H} {w : World} {A : Option Addr} {n : Nat} (h : Rd enc Try.prog w 3 23 A n) : RefsAt w A n := by
  intro hn
  obtain ⟨b, off, hA, hb, hc⟩ := h hn
  refine ⟨b, off, hA, hb, fun k hk => ?_⟩
  have hk := hc k hk
  rw [leaves_ref, cells_ref] at hk
  obtain ⟨u0, h0, s, rfl, _⟩ := hk 0 (.int .i64) (by simp)
  obtain ⟨u1, h1, g, rfl, _⟩ := hk 1 (.int .i64) (by simp)
  exact ⟨s, g, h0, h1⟩

theorem first_law {H : Type} (enc : TypeId × Value → H) : LawWalk enc Try.prog 3 Try.f3.params.toList (fun _ => True) := by
  intro W args ds ps base hA hval hlt hsz _
  rw [Try.params3] at hA hval hsz
  obtain ⟨v0, vs0, d0, ds0, p0, q0, hargs, rfl, rfl, h0, r0⟩ := trodAll_cons hA
  obtain ⟨v1, vs1, d1, ds1, p1, q1, rfl, rfl, rfl, h1, r1⟩ := trodAll_cons r0
  obtain ⟨v2, vs2, d2, ds2, p2, q2, rfl, rfl, rfl, h2, r2⟩ := trodAll_cons r1
  obtain ⟨rfl, rfl, rfl⟩ := trodAll_nil r2
  obtain rfl : args = #[v0, v1, v2] := by cases args; simp_all
  have hw : ∀ y ∈ DataW.weightsEach Try.prog [23, 24, 23] [d0, d1, d2], y ≤ reachBytes := fun y hy => by simpa using List.all_eq_true.1 hsz y hy
  have w0 : ∀ y ∈ d0.weights Try.prog 23, y ≤ reachBytes := fun y hy => hw y (by simp [DataW.weightsEach, hy])
  have w1 : ∀ y ∈ d1.weights Try.prog 24, y ≤ reachBytes := fun y hy => hw y (by simp [DataW.weightsEach, hy])
  have w2 : ∀ y ∈ d2.weights Try.prog 23, y ≤ reachBytes := fun y hy => hw y (by simp [DataW.weightsEach, hy])
  obtain ⟨a, b, rfl⟩ := open_ref (hval 0 _ v0 rfl rfl) h0 (fun p hp => hlt p (by simp [hp])) w0
  obtain ⟨A, n, cap, rfl, hc, hm, _, _, hrd⟩ := open_slice_arg 3 Try.underlying24 (hval 1 _ v1 rfl rfl) h1 (fun p hp => hlt p (by simp [hp])) w1 (by rw [leaves_ref]; rfl) (by rw [leaves_ref, cells_ref]; rfl)
  obtain ⟨c, d, rfl⟩ := open_ref (hval 2 _ v2 rfl rfl) h2 (fun p hp => hlt p (by simp [hp])) w2
  exact (first_walk a b c d A n cap W (refs_at hrd) hc hm).mono fun e W' ⟨he, hf⟩ => ⟨he, hf.below0⟩

theorem first_lifted (os : Os) (started : os.Started) (H : Type) (enc : TypeId × Value → H) :
    ReturnsInHanded {} Try.checked os 3 .any (Rows.mappingFirstSpec.pre6 enc Try.prog Try.f3 Rows.mappingFirstRow.domain false) (Rows.mappingFirstSpec.post enc Try.prog Try.f3 false true false false) :=
  lift_plain (C := Try.checked) own started (by kernel_rfl) Try.func3 (by kernel_rfl) (by kernel_rfl) rfl Try.underlying4 rfl
    (fun ds h => by
      match ds, h with
      | [d1, d2, d3], _ => rfl)
    (ChangeSpec.witness6 (enc := enc) (C := Try.checked) false ⟨#[], #[.agg #[.int .i64 0, .int .i64 0], .slice none 0 0, .agg #[.int .i64 0, .int .i64 0]], []⟩ 8 (by kernel_rfl) (by kernel_rfl) (by kernel_rfl) (by kernel_rfl))
    (first_law enc)

theorem first_holds : Rows.MappingFirstSaid :=
  OpenClaim.holds_of_wide 3 Try.f3 rfl rfl rfl rfl rfl rfl rfl ⟨rfl, rfl, rfl, rfl, rfl⟩ rfl rfl rfl rfl rfl (by kernel_rfl) Try.func3 (by kernel_rfl)
    (of_decide_eq_true (by kernel_rfl)) (by unfold Func.isWrapper; rw [if_neg (of_decide_eq_false (by kernel_rfl))]; exact ⟨rfl, rfl⟩)
    (fun os started H enc _ => first_lifted os started H enc)
#print axioms first_holds
end Go.Proofs.Ytnlpnbllnddaaaa

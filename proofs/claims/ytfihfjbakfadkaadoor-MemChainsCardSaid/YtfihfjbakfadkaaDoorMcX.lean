/- Texts of one proof, merged: Types9. -/
import Derived.Test.YtfihfjbakfadkaaDoorMcA
namespace Go.Proofs.YtfihfjbakfadkaaDoor
open Go.ChangeShapes Go.WideShapes Go.RowKit
set_option maxRecDepth 100000
set_option linter.unusedVariables false
set_option linter.unusedSimpArgs false

theorem cells_Lim9 : Tryd.prog.cellsOf 23 = 6 := by kernel_rfl
theorem leaves_Lim9 : leaves Tryd.prog 6 23 = [(0, .int .i64), (1, .int .i64), (2, .int .i64), (3, .int .i64), (4, .int .i64), (5, .int .i64)] := by kernel_rfl
theorem open_Lim9 {H : Type} {enc : TypeId × Value → H} {w : World} {r : Reach} {b0 : Nat} {v : Value} {d : DataW H} {ps : List MemPlace} (hv : Value.okWide Tryd.prog w r b0 23 v) (h : DataW.Trod enc Tryd.prog w 0 (fun _ => true) true 23 v d ps)
    (hlt : ∀ p ∈ ps, p.block < w.heap.size) (hwt : ∀ y ∈ d.weights Tryd.prog 23, y ≤ reachBytes) : ∃ (x0 : Int) (x1 : Int) (x2 : Int) (x3 : Int) (x4 : Int) (x5 : Int), v = .agg #[.int .i64 x0, .int .i64 x1, .int .i64 x2, .int .i64 x3, .int .i64 x4, .int .i64 x5] ∧ (Lit.int .i64 x0).wf = true ∧ (Lit.int .i64 x1).wf = true ∧ (Lit.int .i64 x2).wf = true ∧ (Lit.int .i64 x3).wf = true ∧ (Lit.int .i64 x4).wf = true ∧ (Lit.int .i64 x5).wf = true := by
  obtain ⟨cs, rfl, hl, hc⟩ := open_agg 6 Tryd.underlying23 hv h hlt hwt
  rw [cells_Lim9] at hl
  rw [leaves_Lim9] at hc
  obtain ⟨_, h0, x0, rfl, w0⟩ := hc 0 (.int .i64) (by simp)
  obtain ⟨_, h1, x1, rfl, w1⟩ := hc 1 (.int .i64) (by simp)
  obtain ⟨_, h2, x2, rfl, w2⟩ := hc 2 (.int .i64) (by simp)
  obtain ⟨_, h3, x3, rfl, w3⟩ := hc 3 (.int .i64) (by simp)
  obtain ⟨_, h4, x4, rfl, w4⟩ := hc 4 (.int .i64) (by simp)
  obtain ⟨_, h5, x5, rfl, w5⟩ := hc 5 (.int .i64) (by simp)
  match cs, hl with
  | [c0, c1, c2, c3, c4, c5], _ =>
    obtain rfl : c0 = _ := by simpa using h0
    obtain rfl : c1 = _ := by simpa using h1
    obtain rfl : c2 = _ := by simpa using h2
    obtain rfl : c3 = _ := by simpa using h3
    obtain rfl : c4 = _ := by simpa using h4
    obtain rfl : c5 = _ := by simpa using h5
    exact ⟨x0, x1, x2, x3, x4, x5, rfl, w0, w1, w2, w3, w4, w5⟩

end Go.Proofs.YtfihfjbakfadkaaDoor

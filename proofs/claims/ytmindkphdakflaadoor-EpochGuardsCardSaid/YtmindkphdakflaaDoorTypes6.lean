/- Given structs, taken apart to their cells (by value, and as elements of a slice). Written by mktypes.py. -/
import Derived.Test.YtmindkphdakflaaDoorErr
import Derived.Test.YtmindkphdakflaaDoorOpen
namespace Go.Proofs.YtmindkphdakflaaDoor
open Go.ChangeShapes Go.WideShapes Go.RowKit
set_option maxRecDepth 100000
set_option linter.unusedVariables false
set_option linter.unusedSimpArgs false

theorem cells_Do6 : Tryd.prog.cellsOf 33 = 3 := by kernel_rfl
theorem leaves_Do6 : leaves Tryd.prog 6 33 = [(0, .int .i64), (1, .int .i64), (2, .int .i64)] := by kernel_rfl
def Do6At (w : World) (A : Option Addr) (n : Nat) : Prop :=
  0 < n → ∃ b off, A = some ⟨b, off, none⟩ ∧ b < w.heap.size ∧ ∀ k, k < n → ∃ (x0 : Int) (x1 : Int) (x2 : Int), (Lit.int .i64 x0).wf = true ∧ (Lit.int .i64 x1).wf = true ∧ (Lit.int .i64 x2).wf = true ∧ w.cell? ⟨b, off + k * 3, none⟩ = some (.int .i64 x0) ∧ w.cell? ⟨b, off + k * 3 + 1, none⟩ = some (.int .i64 x1) ∧ w.cell? ⟨b, off + k * 3 + 1 + 1, none⟩ = some (.int .i64 x2)
theorem Do6_at {H : Type} {enc : TypeId × Value → H} {w : World} {A : Option Addr} {n : Nat} (h : Rd enc Tryd.prog w 6 33 A n) : Do6At w A n := by
  intro hn
  obtain ⟨b, off, hA, hb, hc⟩ := h hn
  refine ⟨b, off, hA, hb, fun k hk => ?_⟩
  have hk := hc k hk
  rw [leaves_Do6, cells_Do6] at hk
  obtain ⟨_, h0, x0, rfl, w0⟩ := hk 0 (.int .i64) (by simp)
  obtain ⟨_, h1, x1, rfl, w1⟩ := hk 1 (.int .i64) (by simp)
  obtain ⟨_, h2, x2, rfl, w2⟩ := hk 2 (.int .i64) (by simp)
  exact ⟨x0, x1, x2, w0, w1, w2, h0, h1, h2⟩
theorem open_Do6 {H : Type} {enc : TypeId × Value → H} {w : World} {r : Reach} {b0 : Nat} {v : Value} {d : DataW H} {ps : List MemPlace} (hv : Value.okWide Tryd.prog w r b0 33 v) (h : DataW.Trod enc Tryd.prog w 0 (fun _ => true) true 33 v d ps)
    (hlt : ∀ p ∈ ps, p.block < w.heap.size) (hwt : ∀ y ∈ d.weights Tryd.prog 33, y ≤ reachBytes) : ∃ (x0 : Int) (x1 : Int) (x2 : Int), v = .agg #[.int .i64 x0, .int .i64 x1, .int .i64 x2] ∧ (Lit.int .i64 x0).wf = true ∧ (Lit.int .i64 x1).wf = true ∧ (Lit.int .i64 x2).wf = true := by
  obtain ⟨cs, rfl, hl, hc⟩ := open_agg 6 Tryd.underlying33 hv h hlt hwt
  rw [cells_Do6] at hl
  rw [leaves_Do6] at hc
  obtain ⟨_, h0, x0, rfl, w0⟩ := hc 0 (.int .i64) (by simp)
  obtain ⟨_, h1, x1, rfl, w1⟩ := hc 1 (.int .i64) (by simp)
  obtain ⟨_, h2, x2, rfl, w2⟩ := hc 2 (.int .i64) (by simp)
  match cs, hl with
  | [c0, c1, c2], _ =>
    obtain rfl : c0 = _ := by simpa using h0
    obtain rfl : c1 = _ := by simpa using h1
    obtain rfl : c2 = _ := by simpa using h2
    exact ⟨x0, x1, x2, rfl, w0, w1, w2⟩

theorem cells_Item : Tryd.prog.cellsOf 47 = 4 := by kernel_rfl
theorem leaves_Item : leaves Tryd.prog 6 47 = [(0, .int .i64), (1, .int .i64), (2, .int .i64), (3, .int .i64)] := by kernel_rfl
def ItemAt (w : World) (A : Option Addr) (n : Nat) : Prop :=
  0 < n → ∃ b off, A = some ⟨b, off, none⟩ ∧ b < w.heap.size ∧ ∀ k, k < n → ∃ (x0 : Int) (x1 : Int) (x2 : Int) (x3 : Int), (Lit.int .i64 x0).wf = true ∧ (Lit.int .i64 x1).wf = true ∧ (Lit.int .i64 x2).wf = true ∧ (Lit.int .i64 x3).wf = true ∧ w.cell? ⟨b, off + k * 4, none⟩ = some (.int .i64 x0) ∧ w.cell? ⟨b, off + k * 4 + 1, none⟩ = some (.int .i64 x1) ∧ w.cell? ⟨b, off + k * 4 + 1 + 1, none⟩ = some (.int .i64 x2) ∧ w.cell? ⟨b, off + k * 4 + 1 + 1 + 1, none⟩ = some (.int .i64 x3)
theorem Item_at {H : Type} {enc : TypeId × Value → H} {w : World} {A : Option Addr} {n : Nat} (h : Rd enc Tryd.prog w 6 47 A n) : ItemAt w A n := by
  intro hn
  obtain ⟨b, off, hA, hb, hc⟩ := h hn
  refine ⟨b, off, hA, hb, fun k hk => ?_⟩
  have hk := hc k hk
  rw [leaves_Item, cells_Item] at hk
  obtain ⟨_, h0, x0, rfl, w0⟩ := hk 0 (.int .i64) (by simp)
  obtain ⟨_, h1, x1, rfl, w1⟩ := hk 1 (.int .i64) (by simp)
  obtain ⟨_, h2, x2, rfl, w2⟩ := hk 2 (.int .i64) (by simp)
  obtain ⟨_, h3, x3, rfl, w3⟩ := hk 3 (.int .i64) (by simp)
  exact ⟨x0, x1, x2, x3, w0, w1, w2, w3, h0, h1, h2, h3⟩
theorem open_Item {H : Type} {enc : TypeId × Value → H} {w : World} {r : Reach} {b0 : Nat} {v : Value} {d : DataW H} {ps : List MemPlace} (hv : Value.okWide Tryd.prog w r b0 47 v) (h : DataW.Trod enc Tryd.prog w 0 (fun _ => true) true 47 v d ps)
    (hlt : ∀ p ∈ ps, p.block < w.heap.size) (hwt : ∀ y ∈ d.weights Tryd.prog 47, y ≤ reachBytes) : ∃ (x0 : Int) (x1 : Int) (x2 : Int) (x3 : Int), v = .agg #[.int .i64 x0, .int .i64 x1, .int .i64 x2, .int .i64 x3] ∧ (Lit.int .i64 x0).wf = true ∧ (Lit.int .i64 x1).wf = true ∧ (Lit.int .i64 x2).wf = true ∧ (Lit.int .i64 x3).wf = true := by
  obtain ⟨cs, rfl, hl, hc⟩ := open_agg 6 Tryd.underlying47 hv h hlt hwt
  rw [cells_Item] at hl
  rw [leaves_Item] at hc
  obtain ⟨_, h0, x0, rfl, w0⟩ := hc 0 (.int .i64) (by simp)
  obtain ⟨_, h1, x1, rfl, w1⟩ := hc 1 (.int .i64) (by simp)
  obtain ⟨_, h2, x2, rfl, w2⟩ := hc 2 (.int .i64) (by simp)
  obtain ⟨_, h3, x3, rfl, w3⟩ := hc 3 (.int .i64) (by simp)
  match cs, hl with
  | [c0, c1, c2, c3], _ =>
    obtain rfl : c0 = _ := by simpa using h0
    obtain rfl : c1 = _ := by simpa using h1
    obtain rfl : c2 = _ := by simpa using h2
    obtain rfl : c3 = _ := by simpa using h3
    exact ⟨x0, x1, x2, x3, rfl, w0, w1, w2, w3⟩

end Go.Proofs.YtmindkphdakflaaDoor

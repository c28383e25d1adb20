/- Given structs, taken apart to their cells (by value, and as elements of a slice). Written by mktypes.py. -/
import Derived.Test.YtfoljojacakkeaaDoorErr
import Derived.Test.YtfoljojacakkeaaDoorOpen
import Derived.Test.YtfoljojacakkeaaDoorTypesR
namespace Go.Proofs.YtfoljojacakkeaaDoor
open Go.ChangeShapes Go.WideShapes Go.RowKit
set_option maxRecDepth 100000
set_option linter.unusedVariables false
set_option linter.unusedSimpArgs false

theorem cells_View8 : Tryd.prog.cellsOf 52 = 9 := by kernel_rfl
theorem leaves_View8 : leaves Tryd.prog 6 52 = [(0, .string), (1, .string), (2, .bool), (3, .int .i64), (4, .slice 34), (5, .bool), (6, .int .i64), (7, .int .i64), (8, .string)] := by kernel_rfl
def View8At {H : Type} (enc : TypeId × Value → H) (w : World) (A : Option Addr) (n : Nat) : Prop :=
  0 < n → ∃ b off, A = some ⟨b, off, none⟩ ∧ b < w.heap.size ∧ ∀ k, k < n → ∃ (x0 : ByteArray) (x1 : ByteArray) (x2 : Bool) (x3 : Int) (x4 : Value) (x5 : Bool) (x6 : Int) (x7 : Int) (x8 : ByteArray), x0.size ≤ reachBytes ∧ x1.size ≤ reachBytes ∧ (Lit.int .i64 x3).wf = true ∧ Conf enc Tryd.prog w (.slice 34) x4 ∧ (Lit.int .i64 x6).wf = true ∧ (Lit.int .i64 x7).wf = true ∧ x8.size ≤ reachBytes ∧ w.cell? ⟨b, off + k * 9, none⟩ = some (.string x0) ∧ w.cell? ⟨b, off + k * 9 + 1, none⟩ = some (.string x1) ∧ w.cell? ⟨b, off + k * 9 + 1 + 1, none⟩ = some (.bool x2) ∧ w.cell? ⟨b, off + k * 9 + 1 + 1 + 1, none⟩ = some (.int .i64 x3) ∧ w.cell? ⟨b, off + k * 9 + 1 + 1 + 1 + 1, none⟩ = some (x4) ∧ w.cell? ⟨b, off + k * 9 + 1 + 1 + 1 + 1 + 1, none⟩ = some (.bool x5) ∧ w.cell? ⟨b, off + k * 9 + 1 + 1 + 1 + 1 + 1 + 1, none⟩ = some (.int .i64 x6) ∧ w.cell? ⟨b, off + k * 9 + 1 + 1 + 1 + 1 + 1 + 1 + 1, none⟩ = some (.int .i64 x7) ∧ w.cell? ⟨b, off + k * 9 + 1 + 1 + 1 + 1 + 1 + 1 + 1 + 1, none⟩ = some (.string x8)
theorem View8_at {H : Type} {enc : TypeId × Value → H} {w : World} {A : Option Addr} {n : Nat} (h : Rd enc Tryd.prog w 6 52 A n) : View8At enc w A n := by
  intro hn
  obtain ⟨b, off, hA, hb, hc⟩ := h hn
  refine ⟨b, off, hA, hb, fun k hk => ?_⟩
  have hk := hc k hk
  rw [leaves_View8, cells_View8] at hk
  obtain ⟨_, h0, x0, rfl, w0⟩ := hk 0 .string (by simp)
  obtain ⟨_, h1, x1, rfl, w1⟩ := hk 1 .string (by simp)
  obtain ⟨_, h2, x2, rfl⟩ := hk 2 .bool (by simp)
  obtain ⟨_, h3, x3, rfl, w3⟩ := hk 3 (.int .i64) (by simp)
  obtain ⟨x4, h4, w4⟩ := hk 4 (.slice 34) (by simp)
  obtain ⟨_, h5, x5, rfl⟩ := hk 5 .bool (by simp)
  obtain ⟨_, h6, x6, rfl, w6⟩ := hk 6 (.int .i64) (by simp)
  obtain ⟨_, h7, x7, rfl, w7⟩ := hk 7 (.int .i64) (by simp)
  obtain ⟨_, h8, x8, rfl, w8⟩ := hk 8 .string (by simp)
  exact ⟨x0, x1, x2, x3, x4, x5, x6, x7, x8, w0, w1, w3, w4, w6, w7, w8, h0, h1, h2, h3, h4, h5, h6, h7, h8⟩
theorem open_View8 {H : Type} {enc : TypeId × Value → H} {w : World} {r : Reach} {b0 : Nat} {v : Value} {d : DataW H} {ps : List MemPlace} (hv : Value.okWide Tryd.prog w r b0 52 v) (h : DataW.Trod enc Tryd.prog w 0 (fun _ => true) true 52 v d ps)
    (hlt : ∀ p ∈ ps, p.block < w.heap.size) (hwt : ∀ y ∈ d.weights Tryd.prog 52, y ≤ reachBytes) : ∃ (x0 : ByteArray) (x1 : ByteArray) (x2 : Bool) (x3 : Int) (x4 : Value) (x5 : Bool) (x6 : Int) (x7 : Int) (x8 : ByteArray), v = .agg #[.string x0, .string x1, .bool x2, .int .i64 x3, x4, .bool x5, .int .i64 x6, .int .i64 x7, .string x8] ∧ x0.size ≤ reachBytes ∧ x1.size ≤ reachBytes ∧ (Lit.int .i64 x3).wf = true ∧ Conf enc Tryd.prog w (.slice 34) x4 ∧ (Lit.int .i64 x6).wf = true ∧ (Lit.int .i64 x7).wf = true ∧ x8.size ≤ reachBytes := by
  obtain ⟨cs, rfl, hl, hc⟩ := open_agg 6 Tryd.underlying52 hv h hlt hwt
  rw [cells_View8] at hl
  rw [leaves_View8] at hc
  obtain ⟨_, h0, x0, rfl, w0⟩ := hc 0 .string (by simp)
  obtain ⟨_, h1, x1, rfl, w1⟩ := hc 1 .string (by simp)
  obtain ⟨_, h2, x2, rfl⟩ := hc 2 .bool (by simp)
  obtain ⟨_, h3, x3, rfl, w3⟩ := hc 3 (.int .i64) (by simp)
  obtain ⟨x4, h4, w4⟩ := hc 4 (.slice 34) (by simp)
  obtain ⟨_, h5, x5, rfl⟩ := hc 5 .bool (by simp)
  obtain ⟨_, h6, x6, rfl, w6⟩ := hc 6 (.int .i64) (by simp)
  obtain ⟨_, h7, x7, rfl, w7⟩ := hc 7 (.int .i64) (by simp)
  obtain ⟨_, h8, x8, rfl, w8⟩ := hc 8 .string (by simp)
  match cs, hl with
  | [c0, c1, c2, c3, c4, c5, c6, c7, c8], _ =>
    obtain rfl : c0 = _ := by simpa using h0
    obtain rfl : c1 = _ := by simpa using h1
    obtain rfl : c2 = _ := by simpa using h2
    obtain rfl : c3 = _ := by simpa using h3
    obtain rfl : c4 = _ := by simpa using h4
    obtain rfl : c5 = _ := by simpa using h5
    obtain rfl : c6 = _ := by simpa using h6
    obtain rfl : c7 = _ := by simpa using h7
    obtain rfl : c8 = _ := by simpa using h8
    exact ⟨x0, x1, x2, x3, c4, x5, x6, x7, x8, rfl, w0, w1, w3, w4, w6, w7, w8⟩

end Go.Proofs.YtfoljojacakkeaaDoor

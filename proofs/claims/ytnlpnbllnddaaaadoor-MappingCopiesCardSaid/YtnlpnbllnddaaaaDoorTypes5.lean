/- Given structs, taken apart to their cells (by value, and as elements of a slice). Written by mktypes.py. -/
import Derived.Test.YtnlpnbllnddaaaaDoorMap
import Derived.Test.YtnlpnbllnddaaaaDoorOpen
namespace Go.Proofs.YtnlpnbllnddaaaaDoor
open Go.ChangeShapes Go.WideShapes Go.RowKit
set_option maxRecDepth 100000
set_option linter.unusedVariables false
set_option linter.unusedSimpArgs false

theorem cells_Ref : Tryd.prog.cellsOf 32 = 2 := by kernel_rfl
theorem leaves_Ref : leaves Tryd.prog 6 32 = [(0, .int .i64), (1, .int .i64)] := by kernel_rfl
def RefAt (w : World) (A : Option Addr) (n : Nat) : Prop :=
  0 < n → ∃ b off, A = some ⟨b, off, none⟩ ∧ b < w.heap.size ∧ ∀ k, k < n → ∃ (x0 : Int) (x1 : Int), (Lit.int .i64 x0).wf = true ∧ (Lit.int .i64 x1).wf = true ∧ w.cell? ⟨b, off + k * 2, none⟩ = some (.int .i64 x0) ∧ w.cell? ⟨b, off + k * 2 + 1, none⟩ = some (.int .i64 x1)
theorem Ref_at {H : Type} {enc : TypeId × Value → H} {w : World} {A : Option Addr} {n : Nat} (h : Rd enc Tryd.prog w 6 32 A n) : RefAt w A n := by
  intro hn
  obtain ⟨b, off, hA, hb, hc⟩ := h hn
  refine ⟨b, off, hA, hb, fun k hk => ?_⟩
  have hk := hc k hk
  rw [leaves_Ref, cells_Ref] at hk
  obtain ⟨_, h0, x0, rfl, w0⟩ := hk 0 (.int .i64) (by simp)
  obtain ⟨_, h1, x1, rfl, w1⟩ := hk 1 (.int .i64) (by simp)
  exact ⟨x0, x1, w0, w1, h0, h1⟩
theorem open_Ref {H : Type} {enc : TypeId × Value → H} {w : World} {r : Reach} {b0 : Nat} {v : Value} {d : DataW H} {ps : List MemPlace} (hv : Value.okWide Tryd.prog w r b0 32 v) (h : DataW.Trod enc Tryd.prog w 0 (fun _ => true) true 32 v d ps)
    (hlt : ∀ p ∈ ps, p.block < w.heap.size) (hwt : ∀ y ∈ d.weights Tryd.prog 32, y ≤ reachBytes) : ∃ (x0 : Int) (x1 : Int), v = .agg #[.int .i64 x0, .int .i64 x1] ∧ (Lit.int .i64 x0).wf = true ∧ (Lit.int .i64 x1).wf = true := by
  obtain ⟨cs, rfl, hl, hc⟩ := open_agg 6 Tryd.underlying32 hv h hlt hwt
  rw [cells_Ref] at hl
  rw [leaves_Ref] at hc
  obtain ⟨_, h0, x0, rfl, w0⟩ := hc 0 (.int .i64) (by simp)
  obtain ⟨_, h1, x1, rfl, w1⟩ := hc 1 (.int .i64) (by simp)
  match cs, hl with
  | [c0, c1], _ =>
    obtain rfl : c0 = _ := by simpa using h0
    obtain rfl : c1 = _ := by simpa using h1
    exact ⟨x0, x1, rfl, w0, w1⟩

theorem cells_Do5 : Tryd.prog.cellsOf 34 = 7 := by kernel_rfl
theorem leaves_Do5 : leaves Tryd.prog 6 34 = [(0, .int .i64), (1, .int .i64), (2, .bool), (3, .int .i64), (4, .int .i64), (5, .int .i64), (6, .int .i64)] := by kernel_rfl
def Do5At (w : World) (A : Option Addr) (n : Nat) : Prop :=
  0 < n → ∃ b off, A = some ⟨b, off, none⟩ ∧ b < w.heap.size ∧ ∀ k, k < n → ∃ (x0 : Int) (x1 : Int) (x2 : Bool) (x3 : Int) (x4 : Int) (x5 : Int) (x6 : Int), (Lit.int .i64 x0).wf = true ∧ (Lit.int .i64 x1).wf = true ∧ (Lit.int .i64 x3).wf = true ∧ (Lit.int .i64 x4).wf = true ∧ (Lit.int .i64 x5).wf = true ∧ (Lit.int .i64 x6).wf = true ∧ w.cell? ⟨b, off + k * 7, none⟩ = some (.int .i64 x0) ∧ w.cell? ⟨b, off + k * 7 + 1, none⟩ = some (.int .i64 x1) ∧ w.cell? ⟨b, off + k * 7 + 1 + 1, none⟩ = some (.bool x2) ∧ w.cell? ⟨b, off + k * 7 + 1 + 1 + 1, none⟩ = some (.int .i64 x3) ∧ w.cell? ⟨b, off + k * 7 + 1 + 1 + 1 + 1, none⟩ = some (.int .i64 x4) ∧ w.cell? ⟨b, off + k * 7 + 1 + 1 + 1 + 1 + 1, none⟩ = some (.int .i64 x5) ∧ w.cell? ⟨b, off + k * 7 + 1 + 1 + 1 + 1 + 1 + 1, none⟩ = some (.int .i64 x6)
theorem Do5_at {H : Type} {enc : TypeId × Value → H} {w : World} {A : Option Addr} {n : Nat} (h : Rd enc Tryd.prog w 6 34 A n) : Do5At w A n := by
  intro hn
  obtain ⟨b, off, hA, hb, hc⟩ := h hn
  refine ⟨b, off, hA, hb, fun k hk => ?_⟩
  have hk := hc k hk
  rw [leaves_Do5, cells_Do5] at hk
  obtain ⟨_, h0, x0, rfl, w0⟩ := hk 0 (.int .i64) (by simp)
  obtain ⟨_, h1, x1, rfl, w1⟩ := hk 1 (.int .i64) (by simp)
  obtain ⟨_, h2, x2, rfl⟩ := hk 2 .bool (by simp)
  obtain ⟨_, h3, x3, rfl, w3⟩ := hk 3 (.int .i64) (by simp)
  obtain ⟨_, h4, x4, rfl, w4⟩ := hk 4 (.int .i64) (by simp)
  obtain ⟨_, h5, x5, rfl, w5⟩ := hk 5 (.int .i64) (by simp)
  obtain ⟨_, h6, x6, rfl, w6⟩ := hk 6 (.int .i64) (by simp)
  exact ⟨x0, x1, x2, x3, x4, x5, x6, w0, w1, w3, w4, w5, w6, h0, h1, h2, h3, h4, h5, h6⟩
theorem open_Do5 {H : Type} {enc : TypeId × Value → H} {w : World} {r : Reach} {b0 : Nat} {v : Value} {d : DataW H} {ps : List MemPlace} (hv : Value.okWide Tryd.prog w r b0 34 v) (h : DataW.Trod enc Tryd.prog w 0 (fun _ => true) true 34 v d ps)
    (hlt : ∀ p ∈ ps, p.block < w.heap.size) (hwt : ∀ y ∈ d.weights Tryd.prog 34, y ≤ reachBytes) : ∃ (x0 : Int) (x1 : Int) (x2 : Bool) (x3 : Int) (x4 : Int) (x5 : Int) (x6 : Int), v = .agg #[.int .i64 x0, .int .i64 x1, .bool x2, .int .i64 x3, .int .i64 x4, .int .i64 x5, .int .i64 x6] ∧ (Lit.int .i64 x0).wf = true ∧ (Lit.int .i64 x1).wf = true ∧ (Lit.int .i64 x3).wf = true ∧ (Lit.int .i64 x4).wf = true ∧ (Lit.int .i64 x5).wf = true ∧ (Lit.int .i64 x6).wf = true := by
  obtain ⟨cs, rfl, hl, hc⟩ := open_agg 6 Tryd.underlying34 hv h hlt hwt
  rw [cells_Do5] at hl
  rw [leaves_Do5] at hc
  obtain ⟨_, h0, x0, rfl, w0⟩ := hc 0 (.int .i64) (by simp)
  obtain ⟨_, h1, x1, rfl, w1⟩ := hc 1 (.int .i64) (by simp)
  obtain ⟨_, h2, x2, rfl⟩ := hc 2 .bool (by simp)
  obtain ⟨_, h3, x3, rfl, w3⟩ := hc 3 (.int .i64) (by simp)
  obtain ⟨_, h4, x4, rfl, w4⟩ := hc 4 (.int .i64) (by simp)
  obtain ⟨_, h5, x5, rfl, w5⟩ := hc 5 (.int .i64) (by simp)
  obtain ⟨_, h6, x6, rfl, w6⟩ := hc 6 (.int .i64) (by simp)
  match cs, hl with
  | [c0, c1, c2, c3, c4, c5, c6], _ =>
    obtain rfl : c0 = _ := by simpa using h0
    obtain rfl : c1 = _ := by simpa using h1
    obtain rfl : c2 = _ := by simpa using h2
    obtain rfl : c3 = _ := by simpa using h3
    obtain rfl : c4 = _ := by simpa using h4
    obtain rfl : c5 = _ := by simpa using h5
    obtain rfl : c6 = _ := by simpa using h6
    exact ⟨x0, x1, x2, x3, x4, x5, x6, rfl, w0, w1, w3, w4, w5, w6⟩

end Go.Proofs.YtnlpnbllnddaaaaDoor

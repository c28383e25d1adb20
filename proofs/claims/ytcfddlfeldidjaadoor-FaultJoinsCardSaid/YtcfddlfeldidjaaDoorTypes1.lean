/- Given structs, taken apart to their cells (by value, and as elements of a slice). Written by mktypes.py. -/
import Derived.Test.YtcfddlfeldidjaaDoorErr
import Derived.Test.YtcfddlfeldidjaaDoorOpen
namespace Go.Proofs.YtcfddlfeldidjaaDoor
open Go.ChangeShapes Go.WideShapes Go.RowKit
set_option maxRecDepth 100000
set_option linter.unusedVariables false
set_option linter.unusedSimpArgs false

theorem cells_Way1 : Tryd.prog.cellsOf 42 = 3 := by kernel_rfl
theorem leaves_Way1 : leaves Tryd.prog 6 42 = [(0, .slice 39), (1, .slice 40), (2, .int .i64)] := by kernel_rfl
def Way1At {H : Type} (enc : TypeId × Value → H) (w : World) (A : Option Addr) (n : Nat) : Prop :=
  0 < n → ∃ b off, A = some ⟨b, off, none⟩ ∧ b < w.heap.size ∧ ∀ k, k < n → ∃ (x0 : Value) (x1 : Value) (x2 : Int), Conf enc Tryd.prog w (.slice 39) x0 ∧ Conf enc Tryd.prog w (.slice 40) x1 ∧ (Lit.int .i64 x2).wf = true ∧ w.cell? ⟨b, off + k * 3, none⟩ = some (x0) ∧ w.cell? ⟨b, off + k * 3 + 1, none⟩ = some (x1) ∧ w.cell? ⟨b, off + k * 3 + 1 + 1, none⟩ = some (.int .i64 x2)
theorem Way1_at {H : Type} {enc : TypeId × Value → H} {w : World} {A : Option Addr} {n : Nat} (h : Rd enc Tryd.prog w 6 42 A n) : Way1At enc w A n := by
  intro hn
  obtain ⟨b, off, hA, hb, hc⟩ := h hn
  refine ⟨b, off, hA, hb, fun k hk => ?_⟩
  have hk := hc k hk
  rw [leaves_Way1, cells_Way1] at hk
  obtain ⟨x0, h0, w0⟩ := hk 0 (.slice 39) (by simp)
  obtain ⟨x1, h1, w1⟩ := hk 1 (.slice 40) (by simp)
  obtain ⟨_, h2, x2, rfl, w2⟩ := hk 2 (.int .i64) (by simp)
  exact ⟨x0, x1, x2, w0, w1, w2, h0, h1, h2⟩
theorem open_Way1 {H : Type} {enc : TypeId × Value → H} {w : World} {r : Reach} {b0 : Nat} {v : Value} {d : DataW H} {ps : List MemPlace} (hv : Value.okWide Tryd.prog w r b0 42 v) (h : DataW.Trod enc Tryd.prog w 0 (fun _ => true) true 42 v d ps)
    (hlt : ∀ p ∈ ps, p.block < w.heap.size) (hwt : ∀ y ∈ d.weights Tryd.prog 42, y ≤ reachBytes) : ∃ (x0 : Value) (x1 : Value) (x2 : Int), v = .agg #[x0, x1, .int .i64 x2] ∧ Conf enc Tryd.prog w (.slice 39) x0 ∧ Conf enc Tryd.prog w (.slice 40) x1 ∧ (Lit.int .i64 x2).wf = true := by
  obtain ⟨cs, rfl, hl, hc⟩ := open_agg 6 Tryd.underlying42 hv h hlt hwt
  rw [cells_Way1] at hl
  rw [leaves_Way1] at hc
  obtain ⟨x0, h0, w0⟩ := hc 0 (.slice 39) (by simp)
  obtain ⟨x1, h1, w1⟩ := hc 1 (.slice 40) (by simp)
  obtain ⟨_, h2, x2, rfl, w2⟩ := hc 2 (.int .i64) (by simp)
  match cs, hl with
  | [c0, c1, c2], _ =>
    obtain rfl : c0 = _ := by simpa using h0
    obtain rfl : c1 = _ := by simpa using h1
    obtain rfl : c2 = _ := by simpa using h2
    exact ⟨c0, c1, x2, rfl, w0, w1, w2⟩

end Go.Proofs.YtcfddlfeldidjaaDoor

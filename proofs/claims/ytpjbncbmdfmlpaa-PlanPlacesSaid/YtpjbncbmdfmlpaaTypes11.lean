/- Given structs, taken apart to their cells (by value, and as elements of a slice). Written by mktypes.py. -/
import Derived.Test.YtpjbncbmdfmlpaaErr
import Derived.Test.YtpjbncbmdfmlpaaOpen
import Derived.Test.YtpjbncbmdfmlpaaTypesR
namespace Go.Proofs.Ytpjbncbmdfmlpaa
open Go.ChangeShapes Go.WideShapes Go.RowKit
set_option maxRecDepth 100000
set_option linter.unusedVariables false
set_option linter.unusedSimpArgs false

theorem cells_Case11 : Try.prog.cellsOf 75 = 12 := by kernel_rfl
theorem leaves_Case11 : leaves Try.prog 6 75 = [(0, .int .i64), (1, .slice 34), (2, .slice 34), (3, .bool), (4, .string), (5, .int .i64), (6, .int .i64), (7, .int .i64), (8, .int .i64), (9, .int .i64), (10, .int .i64), (11, .bool)] := by kernel_rfl
def Case11At {H : Type} (enc : TypeId × Value → H) (w : World) (A : Option Addr) (n : Nat) : Prop :=
  0 < n → ∃ b off, A = some ⟨b, off, none⟩ ∧ b < w.heap.size ∧ ∀ k, k < n → ∃ (x0 : Int) (x1 : Value) (x2 : Value) (x3 : Bool) (x4 : ByteArray) (x5 : Int) (x6 : Int) (x7 : Int) (x8 : Int) (x9 : Int) (x10 : Int) (x11 : Bool), (Lit.int .i64 x0).wf = true ∧ Conf enc Try.prog w (.slice 34) x1 ∧ Conf enc Try.prog w (.slice 34) x2 ∧ x4.size ≤ reachBytes ∧ (Lit.int .i64 x5).wf = true ∧ (Lit.int .i64 x6).wf = true ∧ (Lit.int .i64 x7).wf = true ∧ (Lit.int .i64 x8).wf = true ∧ (Lit.int .i64 x9).wf = true ∧ (Lit.int .i64 x10).wf = true ∧ w.cell? ⟨b, off + k * 12, none⟩ = some (.int .i64 x0) ∧ w.cell? ⟨b, off + k * 12 + 1, none⟩ = some (x1) ∧ w.cell? ⟨b, off + k * 12 + 1 + 1, none⟩ = some (x2) ∧ w.cell? ⟨b, off + k * 12 + 1 + 1 + 1, none⟩ = some (.bool x3) ∧ w.cell? ⟨b, off + k * 12 + 1 + 1 + 1 + 1, none⟩ = some (.string x4) ∧ w.cell? ⟨b, off + k * 12 + 1 + 1 + 1 + 1 + 1, none⟩ = some (.int .i64 x5) ∧ w.cell? ⟨b, off + k * 12 + 1 + 1 + 1 + 1 + 1 + 1, none⟩ = some (.int .i64 x6) ∧ w.cell? ⟨b, off + k * 12 + 1 + 1 + 1 + 1 + 1 + 1 + 1, none⟩ = some (.int .i64 x7) ∧ w.cell? ⟨b, off + k * 12 + 1 + 1 + 1 + 1 + 1 + 1 + 1 + 1, none⟩ = some (.int .i64 x8) ∧ w.cell? ⟨b, off + k * 12 + 1 + 1 + 1 + 1 + 1 + 1 + 1 + 1 + 1, none⟩ = some (.int .i64 x9) ∧ w.cell? ⟨b, off + k * 12 + 1 + 1 + 1 + 1 + 1 + 1 + 1 + 1 + 1 + 1, none⟩ = some (.int .i64 x10) ∧ w.cell? ⟨b, off + k * 12 + 1 + 1 + 1 + 1 + 1 + 1 + 1 + 1 + 1 + 1 + 1, none⟩ = some (.bool x11)
theorem Case11_at {H : Type} {enc : TypeId × Value → H} {w : World} {A : Option Addr} {n : Nat} (h : Rd enc Try.prog w 6 75 A n) : Case11At enc w A n := by
  intro hn
  obtain ⟨b, off, hA, hb, hc⟩ := h hn
  refine ⟨b, off, hA, hb, fun k hk => ?_⟩
  have hk := hc k hk
  rw [leaves_Case11, cells_Case11] at hk
  obtain ⟨_, h0, x0, rfl, w0⟩ := hk 0 (.int .i64) (by simp)
  obtain ⟨x1, h1, w1⟩ := hk 1 (.slice 34) (by simp)
  obtain ⟨x2, h2, w2⟩ := hk 2 (.slice 34) (by simp)
  obtain ⟨_, h3, x3, rfl⟩ := hk 3 .bool (by simp)
  obtain ⟨_, h4, x4, rfl, w4⟩ := hk 4 .string (by simp)
  obtain ⟨_, h5, x5, rfl, w5⟩ := hk 5 (.int .i64) (by simp)
  obtain ⟨_, h6, x6, rfl, w6⟩ := hk 6 (.int .i64) (by simp)
  obtain ⟨_, h7, x7, rfl, w7⟩ := hk 7 (.int .i64) (by simp)
  obtain ⟨_, h8, x8, rfl, w8⟩ := hk 8 (.int .i64) (by simp)
  obtain ⟨_, h9, x9, rfl, w9⟩ := hk 9 (.int .i64) (by simp)
  obtain ⟨_, h10, x10, rfl, w10⟩ := hk 10 (.int .i64) (by simp)
  obtain ⟨_, h11, x11, rfl⟩ := hk 11 .bool (by simp)
  exact ⟨x0, x1, x2, x3, x4, x5, x6, x7, x8, x9, x10, x11, w0, w1, w2, w4, w5, w6, w7, w8, w9, w10, h0, h1, h2, h3, h4, h5, h6, h7, h8, h9, h10, h11⟩
theorem open_Case11 {H : Type} {enc : TypeId × Value → H} {w : World} {r : Reach} {b0 : Nat} {v : Value} {d : DataW H} {ps : List MemPlace} (hv : Value.okWide Try.prog w r b0 75 v) (h : DataW.Trod enc Try.prog w 0 (fun _ => true) true 75 v d ps)
    (hlt : ∀ p ∈ ps, p.block < w.heap.size) (hwt : ∀ y ∈ d.weights Try.prog 75, y ≤ reachBytes) : ∃ (x0 : Int) (x1 : Value) (x2 : Value) (x3 : Bool) (x4 : ByteArray) (x5 : Int) (x6 : Int) (x7 : Int) (x8 : Int) (x9 : Int) (x10 : Int) (x11 : Bool), v = .agg #[.int .i64 x0, x1, x2, .bool x3, .string x4, .int .i64 x5, .int .i64 x6, .int .i64 x7, .int .i64 x8, .int .i64 x9, .int .i64 x10, .bool x11] ∧ (Lit.int .i64 x0).wf = true ∧ Conf enc Try.prog w (.slice 34) x1 ∧ Conf enc Try.prog w (.slice 34) x2 ∧ x4.size ≤ reachBytes ∧ (Lit.int .i64 x5).wf = true ∧ (Lit.int .i64 x6).wf = true ∧ (Lit.int .i64 x7).wf = true ∧ (Lit.int .i64 x8).wf = true ∧ (Lit.int .i64 x9).wf = true ∧ (Lit.int .i64 x10).wf = true := by
  obtain ⟨cs, rfl, hl, hc⟩ := open_agg 6 Try.underlying75 hv h hlt hwt
  rw [cells_Case11] at hl
  rw [leaves_Case11] at hc
  obtain ⟨_, h0, x0, rfl, w0⟩ := hc 0 (.int .i64) (by simp)
  obtain ⟨x1, h1, w1⟩ := hc 1 (.slice 34) (by simp)
  obtain ⟨x2, h2, w2⟩ := hc 2 (.slice 34) (by simp)
  obtain ⟨_, h3, x3, rfl⟩ := hc 3 .bool (by simp)
  obtain ⟨_, h4, x4, rfl, w4⟩ := hc 4 .string (by simp)
  obtain ⟨_, h5, x5, rfl, w5⟩ := hc 5 (.int .i64) (by simp)
  obtain ⟨_, h6, x6, rfl, w6⟩ := hc 6 (.int .i64) (by simp)
  obtain ⟨_, h7, x7, rfl, w7⟩ := hc 7 (.int .i64) (by simp)
  obtain ⟨_, h8, x8, rfl, w8⟩ := hc 8 (.int .i64) (by simp)
  obtain ⟨_, h9, x9, rfl, w9⟩ := hc 9 (.int .i64) (by simp)
  obtain ⟨_, h10, x10, rfl, w10⟩ := hc 10 (.int .i64) (by simp)
  obtain ⟨_, h11, x11, rfl⟩ := hc 11 .bool (by simp)
  match cs, hl with
  | [c0, c1, c2, c3, c4, c5, c6, c7, c8, c9, c10, c11], _ =>
    obtain rfl : c0 = _ := by simpa using h0
    obtain rfl : c1 = _ := by simpa using h1
    obtain rfl : c2 = _ := by simpa using h2
    obtain rfl : c3 = _ := by simpa using h3
    obtain rfl : c4 = _ := by simpa using h4
    obtain rfl : c5 = _ := by simpa using h5
    obtain rfl : c6 = _ := by simpa using h6
    obtain rfl : c7 = _ := by simpa using h7
    obtain rfl : c8 = _ := by simpa using h8
    obtain rfl : c9 = _ := by simpa using h9
    obtain rfl : c10 = _ := by simpa using h10
    obtain rfl : c11 = _ := by simpa using h11
    exact ⟨x0, c1, c2, x3, x4, x5, x6, x7, x8, x9, x10, x11, rfl, w0, w1, w2, w4, w5, w6, w7, w8, w9, w10⟩

end Go.Proofs.Ytpjbncbmdfmlpaa

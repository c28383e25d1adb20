/- Given structs, taken apart to their cells (by value, and as elements of a slice). Written by mktypes.py. -/
import Derived.Test.YtfoljojacakkeaaDoorTypesR
namespace Go.Proofs.YtfoljojacakkeaaDoor
open Go.ChangeShapes Go.WideShapes Go.RowKit
set_option maxRecDepth 100000
set_option linter.unusedVariables false
set_option linter.unusedSimpArgs false

theorem cells_Do4 : Tryd.prog.cellsOf 42 = 20 := by kernel_rfl
theorem leaves_Do4 : leaves Tryd.prog 6 42 = [(0, .int .i64), (1, .int .i64), (2, .string), (3, .string), (4, .bool), (5, .int .i64), (6, .slice 33), (7, .slice 34), (8, .string), (9, .string), (10, .int .i64), (11, .int .i64), (12, .int .i64), (13, .string), (14, .int .i64), (15, .int .i64), (16, .int .i64), (17, .int .i64), (18, .bool), (19, .int .u8)] := by kernel_rfl
def Do4At {H : Type} (enc : TypeId × Value → H) (w : World) (A : Option Addr) (n : Nat) : Prop :=
  0 < n → ∃ b off, A = some ⟨b, off, none⟩ ∧ b < w.heap.size ∧ ∀ k, k < n → ∃ (x0 : Int) (x1 : Int) (x2 : ByteArray) (x3 : ByteArray) (x4 : Bool) (x5 : Int) (x6 : Value) (x7 : Value) (x8 : ByteArray) (x9 : ByteArray) (x10 : Int) (x11 : Int) (x12 : Int) (x13 : ByteArray) (x14 : Int) (x15 : Int) (x16 : Int) (x17 : Int) (x18 : Bool) (x19 : Int), (Lit.int .i64 x0).wf = true ∧ (Lit.int .i64 x1).wf = true ∧ x2.size ≤ reachBytes ∧ x3.size ≤ reachBytes ∧ (Lit.int .i64 x5).wf = true ∧ Conf enc Tryd.prog w (.slice 33) x6 ∧ Conf enc Tryd.prog w (.slice 34) x7 ∧ x8.size ≤ reachBytes ∧ x9.size ≤ reachBytes ∧ (Lit.int .i64 x10).wf = true ∧ (Lit.int .i64 x11).wf = true ∧ (Lit.int .i64 x12).wf = true ∧ x13.size ≤ reachBytes ∧ (Lit.int .i64 x14).wf = true ∧ (Lit.int .i64 x15).wf = true ∧ (Lit.int .i64 x16).wf = true ∧ (Lit.int .i64 x17).wf = true ∧ (Lit.int .u8 x19).wf = true ∧ w.cell? ⟨b, off + k * 20, none⟩ = some (.int .i64 x0) ∧ w.cell? ⟨b, off + k * 20 + 1, none⟩ = some (.int .i64 x1) ∧ w.cell? ⟨b, off + k * 20 + 1 + 1, none⟩ = some (.string x2) ∧ w.cell? ⟨b, off + k * 20 + 1 + 1 + 1, none⟩ = some (.string x3) ∧ w.cell? ⟨b, off + k * 20 + 1 + 1 + 1 + 1, none⟩ = some (.bool x4) ∧ w.cell? ⟨b, off + k * 20 + 1 + 1 + 1 + 1 + 1, none⟩ = some (.int .i64 x5) ∧ w.cell? ⟨b, off + k * 20 + 1 + 1 + 1 + 1 + 1 + 1, none⟩ = some (x6) ∧ w.cell? ⟨b, off + k * 20 + 1 + 1 + 1 + 1 + 1 + 1 + 1, none⟩ = some (x7) ∧ w.cell? ⟨b, off + k * 20 + 1 + 1 + 1 + 1 + 1 + 1 + 1 + 1, none⟩ = some (.string x8) ∧ w.cell? ⟨b, off + k * 20 + 1 + 1 + 1 + 1 + 1 + 1 + 1 + 1 + 1, none⟩ = some (.string x9) ∧ w.cell? ⟨b, off + k * 20 + 1 + 1 + 1 + 1 + 1 + 1 + 1 + 1 + 1 + 1, none⟩ = some (.int .i64 x10) ∧ w.cell? ⟨b, off + k * 20 + 1 + 1 + 1 + 1 + 1 + 1 + 1 + 1 + 1 + 1 + 1, none⟩ = some (.int .i64 x11) ∧ w.cell? ⟨b, off + k * 20 + 1 + 1 + 1 + 1 + 1 + 1 + 1 + 1 + 1 + 1 + 1 + 1, none⟩ = some (.int .i64 x12) ∧ w.cell? ⟨b, off + k * 20 + 1 + 1 + 1 + 1 + 1 + 1 + 1 + 1 + 1 + 1 + 1 + 1 + 1, none⟩ = some (.string x13) ∧ w.cell? ⟨b, off + k * 20 + 1 + 1 + 1 + 1 + 1 + 1 + 1 + 1 + 1 + 1 + 1 + 1 + 1 + 1, none⟩ = some (.int .i64 x14) ∧ w.cell? ⟨b, off + k * 20 + 1 + 1 + 1 + 1 + 1 + 1 + 1 + 1 + 1 + 1 + 1 + 1 + 1 + 1 + 1, none⟩ = some (.int .i64 x15) ∧ w.cell? ⟨b, off + k * 20 + 1 + 1 + 1 + 1 + 1 + 1 + 1 + 1 + 1 + 1 + 1 + 1 + 1 + 1 + 1 + 1, none⟩ = some (.int .i64 x16) ∧ w.cell? ⟨b, off + k * 20 + 1 + 1 + 1 + 1 + 1 + 1 + 1 + 1 + 1 + 1 + 1 + 1 + 1 + 1 + 1 + 1 + 1, none⟩ = some (.int .i64 x17) ∧ w.cell? ⟨b, off + k * 20 + 1 + 1 + 1 + 1 + 1 + 1 + 1 + 1 + 1 + 1 + 1 + 1 + 1 + 1 + 1 + 1 + 1 + 1, none⟩ = some (.bool x18) ∧ w.cell? ⟨b, off + k * 20 + 1 + 1 + 1 + 1 + 1 + 1 + 1 + 1 + 1 + 1 + 1 + 1 + 1 + 1 + 1 + 1 + 1 + 1 + 1, none⟩ = some (.int .u8 x19)
theorem Do4_at {H : Type} {enc : TypeId × Value → H} {w : World} {A : Option Addr} {n : Nat} (h : Rd enc Tryd.prog w 6 42 A n) : Do4At enc w A n := by
  intro hn
  obtain ⟨b, off, hA, hb, hc⟩ := h hn
  refine ⟨b, off, hA, hb, fun k hk => ?_⟩
  have hk := hc k hk
  rw [leaves_Do4, cells_Do4] at hk
  obtain ⟨_, h0, x0, rfl, w0⟩ := hk 0 (.int .i64) (by simp)
  obtain ⟨_, h1, x1, rfl, w1⟩ := hk 1 (.int .i64) (by simp)
  obtain ⟨_, h2, x2, rfl, w2⟩ := hk 2 .string (by simp)
  obtain ⟨_, h3, x3, rfl, w3⟩ := hk 3 .string (by simp)
  obtain ⟨_, h4, x4, rfl⟩ := hk 4 .bool (by simp)
  obtain ⟨_, h5, x5, rfl, w5⟩ := hk 5 (.int .i64) (by simp)
  obtain ⟨x6, h6, w6⟩ := hk 6 (.slice 33) (by simp)
  obtain ⟨x7, h7, w7⟩ := hk 7 (.slice 34) (by simp)
  obtain ⟨_, h8, x8, rfl, w8⟩ := hk 8 .string (by simp)
  obtain ⟨_, h9, x9, rfl, w9⟩ := hk 9 .string (by simp)
  obtain ⟨_, h10, x10, rfl, w10⟩ := hk 10 (.int .i64) (by simp)
  obtain ⟨_, h11, x11, rfl, w11⟩ := hk 11 (.int .i64) (by simp)
  obtain ⟨_, h12, x12, rfl, w12⟩ := hk 12 (.int .i64) (by simp)
  obtain ⟨_, h13, x13, rfl, w13⟩ := hk 13 .string (by simp)
  obtain ⟨_, h14, x14, rfl, w14⟩ := hk 14 (.int .i64) (by simp)
  obtain ⟨_, h15, x15, rfl, w15⟩ := hk 15 (.int .i64) (by simp)
  obtain ⟨_, h16, x16, rfl, w16⟩ := hk 16 (.int .i64) (by simp)
  obtain ⟨_, h17, x17, rfl, w17⟩ := hk 17 (.int .i64) (by simp)
  obtain ⟨_, h18, x18, rfl⟩ := hk 18 .bool (by simp)
  obtain ⟨_, h19, x19, rfl, w19⟩ := hk 19 (.int .u8) (by simp)
  exact ⟨x0, x1, x2, x3, x4, x5, x6, x7, x8, x9, x10, x11, x12, x13, x14, x15, x16, x17, x18, x19, w0, w1, w2, w3, w5, w6, w7, w8, w9, w10, w11, w12, w13, w14, w15, w16, w17, w19, h0, h1, h2, h3, h4, h5, h6, h7, h8, h9, h10, h11, h12, h13, h14, h15, h16, h17, h18, h19⟩
theorem open_Do4 {H : Type} {enc : TypeId × Value → H} {w : World} {r : Reach} {b0 : Nat} {v : Value} {d : DataW H} {ps : List MemPlace} (hv : Value.okWide Tryd.prog w r b0 42 v) (h : DataW.Trod enc Tryd.prog w 0 (fun _ => true) true 42 v d ps)
    (hlt : ∀ p ∈ ps, p.block < w.heap.size) (hwt : ∀ y ∈ d.weights Tryd.prog 42, y ≤ reachBytes) : ∃ (x0 : Int) (x1 : Int) (x2 : ByteArray) (x3 : ByteArray) (x4 : Bool) (x5 : Int) (x6 : Value) (x7 : Value) (x8 : ByteArray) (x9 : ByteArray) (x10 : Int) (x11 : Int) (x12 : Int) (x13 : ByteArray) (x14 : Int) (x15 : Int) (x16 : Int) (x17 : Int) (x18 : Bool) (x19 : Int), v = .agg #[.int .i64 x0, .int .i64 x1, .string x2, .string x3, .bool x4, .int .i64 x5, x6, x7, .string x8, .string x9, .int .i64 x10, .int .i64 x11, .int .i64 x12, .string x13, .int .i64 x14, .int .i64 x15, .int .i64 x16, .int .i64 x17, .bool x18, .int .u8 x19] ∧ (Lit.int .i64 x0).wf = true ∧ (Lit.int .i64 x1).wf = true ∧ x2.size ≤ reachBytes ∧ x3.size ≤ reachBytes ∧ (Lit.int .i64 x5).wf = true ∧ Conf enc Tryd.prog w (.slice 33) x6 ∧ Conf enc Tryd.prog w (.slice 34) x7 ∧ x8.size ≤ reachBytes ∧ x9.size ≤ reachBytes ∧ (Lit.int .i64 x10).wf = true ∧ (Lit.int .i64 x11).wf = true ∧ (Lit.int .i64 x12).wf = true ∧ x13.size ≤ reachBytes ∧ (Lit.int .i64 x14).wf = true ∧ (Lit.int .i64 x15).wf = true ∧ (Lit.int .i64 x16).wf = true ∧ (Lit.int .i64 x17).wf = true ∧ (Lit.int .u8 x19).wf = true := by
  obtain ⟨cs, rfl, hl, hc⟩ := open_agg 6 Tryd.underlying42 hv h hlt hwt
  rw [cells_Do4] at hl
  rw [leaves_Do4] at hc
  obtain ⟨_, h0, x0, rfl, w0⟩ := hc 0 (.int .i64) (by simp)
  obtain ⟨_, h1, x1, rfl, w1⟩ := hc 1 (.int .i64) (by simp)
  obtain ⟨_, h2, x2, rfl, w2⟩ := hc 2 .string (by simp)
  obtain ⟨_, h3, x3, rfl, w3⟩ := hc 3 .string (by simp)
  obtain ⟨_, h4, x4, rfl⟩ := hc 4 .bool (by simp)
  obtain ⟨_, h5, x5, rfl, w5⟩ := hc 5 (.int .i64) (by simp)
  obtain ⟨x6, h6, w6⟩ := hc 6 (.slice 33) (by simp)
  obtain ⟨x7, h7, w7⟩ := hc 7 (.slice 34) (by simp)
  obtain ⟨_, h8, x8, rfl, w8⟩ := hc 8 .string (by simp)
  obtain ⟨_, h9, x9, rfl, w9⟩ := hc 9 .string (by simp)
  obtain ⟨_, h10, x10, rfl, w10⟩ := hc 10 (.int .i64) (by simp)
  obtain ⟨_, h11, x11, rfl, w11⟩ := hc 11 (.int .i64) (by simp)
  obtain ⟨_, h12, x12, rfl, w12⟩ := hc 12 (.int .i64) (by simp)
  obtain ⟨_, h13, x13, rfl, w13⟩ := hc 13 .string (by simp)
  obtain ⟨_, h14, x14, rfl, w14⟩ := hc 14 (.int .i64) (by simp)
  obtain ⟨_, h15, x15, rfl, w15⟩ := hc 15 (.int .i64) (by simp)
  obtain ⟨_, h16, x16, rfl, w16⟩ := hc 16 (.int .i64) (by simp)
  obtain ⟨_, h17, x17, rfl, w17⟩ := hc 17 (.int .i64) (by simp)
  obtain ⟨_, h18, x18, rfl⟩ := hc 18 .bool (by simp)
  obtain ⟨_, h19, x19, rfl, w19⟩ := hc 19 (.int .u8) (by simp)
  match cs, hl with
  | [c0, c1, c2, c3, c4, c5, c6, c7, c8, c9, c10, c11, c12, c13, c14, c15, c16, c17, c18, c19], _ =>
    obtain rfl : c0 = _ := by simpa using h0
    obtain rfl : c1 = _ := by simpa using h1
    obtain rfl : c2 = _ := by simpa using h2
    obtain rfl : c3 = _ := by simpa using h3
    obtain rfl : c4 = _ := by simpa using h4
    obtain rfl : c5 = _ := by simpa using h5
    obtain rfl : c6 = _ := by simpa using h6
    obtain rfl : c7 = _ := by simpa using h7
    obtain rfl : c8 = _ := by simpa using h8
    obtain rfl : c9 = _ := by simpa using h9
    obtain rfl : c10 = _ := by simpa using h10
    obtain rfl : c11 = _ := by simpa using h11
    obtain rfl : c12 = _ := by simpa using h12
    obtain rfl : c13 = _ := by simpa using h13
    obtain rfl : c14 = _ := by simpa using h14
    obtain rfl : c15 = _ := by simpa using h15
    obtain rfl : c16 = _ := by simpa using h16
    obtain rfl : c17 = _ := by simpa using h17
    obtain rfl : c18 = _ := by simpa using h18
    obtain rfl : c19 = _ := by simpa using h19
    exact ⟨x0, x1, x2, x3, x4, x5, c6, c7, x8, x9, x10, x11, x12, x13, x14, x15, x16, x17, x18, x19, rfl, w0, w1, w2, w3, w5, w6, w7, w8, w9, w10, w11, w12, w13, w14, w15, w16, w17, w19⟩

end Go.Proofs.YtfoljojacakkeaaDoor

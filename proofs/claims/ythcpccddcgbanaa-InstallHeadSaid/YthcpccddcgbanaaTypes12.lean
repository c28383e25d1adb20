/- Given structs, taken apart to their cells (by value, and as elements of a slice). Written by mktypes.py. -/
import Derived.Test.YthcpccddcgbanaaTypesR
namespace Go.Proofs.Ythcpccddcgbanaa
open Go.ChangeShapes Go.WideShapes Go.RowKit
set_option maxRecDepth 100000
set_option linter.unusedVariables false
set_option linter.unusedSimpArgs false

theorem cells_Job12 : Try.prog.cellsOf 46 = 21 := by kernel_rfl
theorem leaves_Job12 : leaves Try.prog 6 46 = [(0, .int .i64), (1, .int .i64), (2, .int .i64), (3, .int .i64), (4, .slice 38), (5, .int .i64), (6, .string), (7, .string), (8, .bool), (9, .int .i64), (10, .slice 39), (11, .slice 40), (12, .string), (13, .string), (14, .int .i64), (15, .int .i64), (16, .int .i64), (17, .string), (18, .int .i64), (19, .int .i64), (20, .int .i64)] := by kernel_rfl
def Job12At {H : Type} (enc : TypeId × Value → H) (w : World) (A : Option Addr) (n : Nat) : Prop :=
  0 < n → ∃ b off, A = some ⟨b, off, none⟩ ∧ b < w.heap.size ∧ ∀ k, k < n → ∃ (x0 : Int) (x1 : Int) (x2 : Int) (x3 : Int) (x4 : Value) (x5 : Int) (x6 : ByteArray) (x7 : ByteArray) (x8 : Bool) (x9 : Int) (x10 : Value) (x11 : Value) (x12 : ByteArray) (x13 : ByteArray) (x14 : Int) (x15 : Int) (x16 : Int) (x17 : ByteArray) (x18 : Int) (x19 : Int) (x20 : Int), (Lit.int .i64 x0).wf = true ∧ (Lit.int .i64 x1).wf = true ∧ (Lit.int .i64 x2).wf = true ∧ (Lit.int .i64 x3).wf = true ∧ Conf enc Try.prog w (.slice 38) x4 ∧ (Lit.int .i64 x5).wf = true ∧ x6.size ≤ reachBytes ∧ x7.size ≤ reachBytes ∧ (Lit.int .i64 x9).wf = true ∧ Conf enc Try.prog w (.slice 39) x10 ∧ Conf enc Try.prog w (.slice 40) x11 ∧ x12.size ≤ reachBytes ∧ x13.size ≤ reachBytes ∧ (Lit.int .i64 x14).wf = true ∧ (Lit.int .i64 x15).wf = true ∧ (Lit.int .i64 x16).wf = true ∧ x17.size ≤ reachBytes ∧ (Lit.int .i64 x18).wf = true ∧ (Lit.int .i64 x19).wf = true ∧ (Lit.int .i64 x20).wf = true ∧ w.cell? ⟨b, off + k * 21, none⟩ = some (.int .i64 x0) ∧ w.cell? ⟨b, off + k * 21 + 1, none⟩ = some (.int .i64 x1) ∧ w.cell? ⟨b, off + k * 21 + 1 + 1, none⟩ = some (.int .i64 x2) ∧ w.cell? ⟨b, off + k * 21 + 1 + 1 + 1, none⟩ = some (.int .i64 x3) ∧ w.cell? ⟨b, off + k * 21 + 1 + 1 + 1 + 1, none⟩ = some (x4) ∧ w.cell? ⟨b, off + k * 21 + 1 + 1 + 1 + 1 + 1, none⟩ = some (.int .i64 x5) ∧ w.cell? ⟨b, off + k * 21 + 1 + 1 + 1 + 1 + 1 + 1, none⟩ = some (.string x6) ∧ w.cell? ⟨b, off + k * 21 + 1 + 1 + 1 + 1 + 1 + 1 + 1, none⟩ = some (.string x7) ∧ w.cell? ⟨b, off + k * 21 + 1 + 1 + 1 + 1 + 1 + 1 + 1 + 1, none⟩ = some (.bool x8) ∧ w.cell? ⟨b, off + k * 21 + 1 + 1 + 1 + 1 + 1 + 1 + 1 + 1 + 1, none⟩ = some (.int .i64 x9) ∧ w.cell? ⟨b, off + k * 21 + 1 + 1 + 1 + 1 + 1 + 1 + 1 + 1 + 1 + 1, none⟩ = some (x10) ∧ w.cell? ⟨b, off + k * 21 + 1 + 1 + 1 + 1 + 1 + 1 + 1 + 1 + 1 + 1 + 1, none⟩ = some (x11) ∧ w.cell? ⟨b, off + k * 21 + 1 + 1 + 1 + 1 + 1 + 1 + 1 + 1 + 1 + 1 + 1 + 1, none⟩ = some (.string x12) ∧ w.cell? ⟨b, off + k * 21 + 1 + 1 + 1 + 1 + 1 + 1 + 1 + 1 + 1 + 1 + 1 + 1 + 1, none⟩ = some (.string x13) ∧ w.cell? ⟨b, off + k * 21 + 1 + 1 + 1 + 1 + 1 + 1 + 1 + 1 + 1 + 1 + 1 + 1 + 1 + 1, none⟩ = some (.int .i64 x14) ∧ w.cell? ⟨b, off + k * 21 + 1 + 1 + 1 + 1 + 1 + 1 + 1 + 1 + 1 + 1 + 1 + 1 + 1 + 1 + 1, none⟩ = some (.int .i64 x15) ∧ w.cell? ⟨b, off + k * 21 + 1 + 1 + 1 + 1 + 1 + 1 + 1 + 1 + 1 + 1 + 1 + 1 + 1 + 1 + 1 + 1, none⟩ = some (.int .i64 x16) ∧ w.cell? ⟨b, off + k * 21 + 1 + 1 + 1 + 1 + 1 + 1 + 1 + 1 + 1 + 1 + 1 + 1 + 1 + 1 + 1 + 1 + 1, none⟩ = some (.string x17) ∧ w.cell? ⟨b, off + k * 21 + 1 + 1 + 1 + 1 + 1 + 1 + 1 + 1 + 1 + 1 + 1 + 1 + 1 + 1 + 1 + 1 + 1 + 1, none⟩ = some (.int .i64 x18) ∧ w.cell? ⟨b, off + k * 21 + 1 + 1 + 1 + 1 + 1 + 1 + 1 + 1 + 1 + 1 + 1 + 1 + 1 + 1 + 1 + 1 + 1 + 1 + 1, none⟩ = some (.int .i64 x19) ∧ w.cell? ⟨b, off + k * 21 + 1 + 1 + 1 + 1 + 1 + 1 + 1 + 1 + 1 + 1 + 1 + 1 + 1 + 1 + 1 + 1 + 1 + 1 + 1 + 1, none⟩ = some (.int .i64 x20)
theorem Job12_at {H : Type} {enc : TypeId × Value → H} {w : World} {A : Option Addr} {n : Nat} (h : Rd enc Try.prog w 6 46 A n) : Job12At enc w A n := by
  intro hn
  obtain ⟨b, off, hA, hb, hc⟩ := h hn
  refine ⟨b, off, hA, hb, fun k hk => ?_⟩
  have hk := hc k hk
  rw [leaves_Job12, cells_Job12] at hk
  obtain ⟨_, h0, x0, rfl, w0⟩ := hk 0 (.int .i64) (by simp)
  obtain ⟨_, h1, x1, rfl, w1⟩ := hk 1 (.int .i64) (by simp)
  obtain ⟨_, h2, x2, rfl, w2⟩ := hk 2 (.int .i64) (by simp)
  obtain ⟨_, h3, x3, rfl, w3⟩ := hk 3 (.int .i64) (by simp)
  obtain ⟨x4, h4, w4⟩ := hk 4 (.slice 38) (by simp)
  obtain ⟨_, h5, x5, rfl, w5⟩ := hk 5 (.int .i64) (by simp)
  obtain ⟨_, h6, x6, rfl, w6⟩ := hk 6 .string (by simp)
  obtain ⟨_, h7, x7, rfl, w7⟩ := hk 7 .string (by simp)
  obtain ⟨_, h8, x8, rfl⟩ := hk 8 .bool (by simp)
  obtain ⟨_, h9, x9, rfl, w9⟩ := hk 9 (.int .i64) (by simp)
  obtain ⟨x10, h10, w10⟩ := hk 10 (.slice 39) (by simp)
  obtain ⟨x11, h11, w11⟩ := hk 11 (.slice 40) (by simp)
  obtain ⟨_, h12, x12, rfl, w12⟩ := hk 12 .string (by simp)
  obtain ⟨_, h13, x13, rfl, w13⟩ := hk 13 .string (by simp)
  obtain ⟨_, h14, x14, rfl, w14⟩ := hk 14 (.int .i64) (by simp)
  obtain ⟨_, h15, x15, rfl, w15⟩ := hk 15 (.int .i64) (by simp)
  obtain ⟨_, h16, x16, rfl, w16⟩ := hk 16 (.int .i64) (by simp)
  obtain ⟨_, h17, x17, rfl, w17⟩ := hk 17 .string (by simp)
  obtain ⟨_, h18, x18, rfl, w18⟩ := hk 18 (.int .i64) (by simp)
  obtain ⟨_, h19, x19, rfl, w19⟩ := hk 19 (.int .i64) (by simp)
  obtain ⟨_, h20, x20, rfl, w20⟩ := hk 20 (.int .i64) (by simp)
  exact ⟨x0, x1, x2, x3, x4, x5, x6, x7, x8, x9, x10, x11, x12, x13, x14, x15, x16, x17, x18, x19, x20, w0, w1, w2, w3, w4, w5, w6, w7, w9, w10, w11, w12, w13, w14, w15, w16, w17, w18, w19, w20, h0, h1, h2, h3, h4, h5, h6, h7, h8, h9, h10, h11, h12, h13, h14, h15, h16, h17, h18, h19, h20⟩
theorem open_Job12 {H : Type} {enc : TypeId × Value → H} {w : World} {r : Reach} {b0 : Nat} {v : Value} {d : DataW H} {ps : List MemPlace} (hv : Value.okWide Try.prog w r b0 46 v) (h : DataW.Trod enc Try.prog w 0 (fun _ => true) true 46 v d ps)
    (hlt : ∀ p ∈ ps, p.block < w.heap.size) (hwt : ∀ y ∈ d.weights Try.prog 46, y ≤ reachBytes) : ∃ (x0 : Int) (x1 : Int) (x2 : Int) (x3 : Int) (x4 : Value) (x5 : Int) (x6 : ByteArray) (x7 : ByteArray) (x8 : Bool) (x9 : Int) (x10 : Value) (x11 : Value) (x12 : ByteArray) (x13 : ByteArray) (x14 : Int) (x15 : Int) (x16 : Int) (x17 : ByteArray) (x18 : Int) (x19 : Int) (x20 : Int), v = .agg #[.int .i64 x0, .int .i64 x1, .int .i64 x2, .int .i64 x3, x4, .int .i64 x5, .string x6, .string x7, .bool x8, .int .i64 x9, x10, x11, .string x12, .string x13, .int .i64 x14, .int .i64 x15, .int .i64 x16, .string x17, .int .i64 x18, .int .i64 x19, .int .i64 x20] ∧ (Lit.int .i64 x0).wf = true ∧ (Lit.int .i64 x1).wf = true ∧ (Lit.int .i64 x2).wf = true ∧ (Lit.int .i64 x3).wf = true ∧ Conf enc Try.prog w (.slice 38) x4 ∧ (Lit.int .i64 x5).wf = true ∧ x6.size ≤ reachBytes ∧ x7.size ≤ reachBytes ∧ (Lit.int .i64 x9).wf = true ∧ Conf enc Try.prog w (.slice 39) x10 ∧ Conf enc Try.prog w (.slice 40) x11 ∧ x12.size ≤ reachBytes ∧ x13.size ≤ reachBytes ∧ (Lit.int .i64 x14).wf = true ∧ (Lit.int .i64 x15).wf = true ∧ (Lit.int .i64 x16).wf = true ∧ x17.size ≤ reachBytes ∧ (Lit.int .i64 x18).wf = true ∧ (Lit.int .i64 x19).wf = true ∧ (Lit.int .i64 x20).wf = true := by
  obtain ⟨cs, rfl, hl, hc⟩ := open_agg 6 Try.underlying46 hv h hlt hwt
  rw [cells_Job12] at hl
  rw [leaves_Job12] at hc
  obtain ⟨_, h0, x0, rfl, w0⟩ := hc 0 (.int .i64) (by simp)
  obtain ⟨_, h1, x1, rfl, w1⟩ := hc 1 (.int .i64) (by simp)
  obtain ⟨_, h2, x2, rfl, w2⟩ := hc 2 (.int .i64) (by simp)
  obtain ⟨_, h3, x3, rfl, w3⟩ := hc 3 (.int .i64) (by simp)
  obtain ⟨x4, h4, w4⟩ := hc 4 (.slice 38) (by simp)
  obtain ⟨_, h5, x5, rfl, w5⟩ := hc 5 (.int .i64) (by simp)
  obtain ⟨_, h6, x6, rfl, w6⟩ := hc 6 .string (by simp)
  obtain ⟨_, h7, x7, rfl, w7⟩ := hc 7 .string (by simp)
  obtain ⟨_, h8, x8, rfl⟩ := hc 8 .bool (by simp)
  obtain ⟨_, h9, x9, rfl, w9⟩ := hc 9 (.int .i64) (by simp)
  obtain ⟨x10, h10, w10⟩ := hc 10 (.slice 39) (by simp)
  obtain ⟨x11, h11, w11⟩ := hc 11 (.slice 40) (by simp)
  obtain ⟨_, h12, x12, rfl, w12⟩ := hc 12 .string (by simp)
  obtain ⟨_, h13, x13, rfl, w13⟩ := hc 13 .string (by simp)
  obtain ⟨_, h14, x14, rfl, w14⟩ := hc 14 (.int .i64) (by simp)
  obtain ⟨_, h15, x15, rfl, w15⟩ := hc 15 (.int .i64) (by simp)
  obtain ⟨_, h16, x16, rfl, w16⟩ := hc 16 (.int .i64) (by simp)
  obtain ⟨_, h17, x17, rfl, w17⟩ := hc 17 .string (by simp)
  obtain ⟨_, h18, x18, rfl, w18⟩ := hc 18 (.int .i64) (by simp)
  obtain ⟨_, h19, x19, rfl, w19⟩ := hc 19 (.int .i64) (by simp)
  obtain ⟨_, h20, x20, rfl, w20⟩ := hc 20 (.int .i64) (by simp)
  match cs, hl with
  | [c0, c1, c2, c3, c4, c5, c6, c7, c8, c9, c10, c11, c12, c13, c14, c15, c16, c17, c18, c19, c20], _ =>
    obtain rfl : c0 = _ := by simpa using h0
    obtain rfl : c1 = _ := by simpa using h1
    obtain rfl : c2 = _ := by simpa using h2
    obtain rfl : c3 = _ := by simpa using h3
    obtain rfl : c4 = _ := by simpa using h4
    obtain rfl : c5 = _ := by simpa using h5
    obtain rfl : c6 = _ := by simpa using h6
    obtain rfl : c7 = _ := by simpa using h7
    obtain rfl : c8 = _ := by simpa using h8
    obtain rfl : c9 = _ := by simpa using h9
    obtain rfl : c10 = _ := by simpa using h10
    obtain rfl : c11 = _ := by simpa using h11
    obtain rfl : c12 = _ := by simpa using h12
    obtain rfl : c13 = _ := by simpa using h13
    obtain rfl : c14 = _ := by simpa using h14
    obtain rfl : c15 = _ := by simpa using h15
    obtain rfl : c16 = _ := by simpa using h16
    obtain rfl : c17 = _ := by simpa using h17
    obtain rfl : c18 = _ := by simpa using h18
    obtain rfl : c19 = _ := by simpa using h19
    obtain rfl : c20 = _ := by simpa using h20
    exact ⟨x0, x1, x2, x3, c4, x5, x6, x7, x8, x9, c10, c11, x12, x13, x14, x15, x16, x17, x18, x19, x20, rfl, w0, w1, w2, w3, w4, w5, w6, w7, w9, w10, w11, w12, w13, w14, w15, w16, w17, w18, w19, w20⟩

theorem cells_Lim12 : Try.prog.cellsOf 23 = 6 := by kernel_rfl
theorem leaves_Lim12 : leaves Try.prog 6 23 = [(0, .int .i64), (1, .int .i64), (2, .int .i64), (3, .int .i64), (4, .int .i64), (5, .int .i64)] := by kernel_rfl
def Lim12At (w : World) (A : Option Addr) (n : Nat) : Prop :=
  0 < n → ∃ b off, A = some ⟨b, off, none⟩ ∧ b < w.heap.size ∧ ∀ k, k < n → ∃ (x0 : Int) (x1 : Int) (x2 : Int) (x3 : Int) (x4 : Int) (x5 : Int), (Lit.int .i64 x0).wf = true ∧ (Lit.int .i64 x1).wf = true ∧ (Lit.int .i64 x2).wf = true ∧ (Lit.int .i64 x3).wf = true ∧ (Lit.int .i64 x4).wf = true ∧ (Lit.int .i64 x5).wf = true ∧ w.cell? ⟨b, off + k * 6, none⟩ = some (.int .i64 x0) ∧ w.cell? ⟨b, off + k * 6 + 1, none⟩ = some (.int .i64 x1) ∧ w.cell? ⟨b, off + k * 6 + 1 + 1, none⟩ = some (.int .i64 x2) ∧ w.cell? ⟨b, off + k * 6 + 1 + 1 + 1, none⟩ = some (.int .i64 x3) ∧ w.cell? ⟨b, off + k * 6 + 1 + 1 + 1 + 1, none⟩ = some (.int .i64 x4) ∧ w.cell? ⟨b, off + k * 6 + 1 + 1 + 1 + 1 + 1, none⟩ = some (.int .i64 x5)
theorem Lim12_at {H : Type} {enc : TypeId × Value → H} {w : World} {A : Option Addr} {n : Nat} (h : Rd enc Try.prog w 6 23 A n) : Lim12At w A n := by
  intro hn
  obtain ⟨b, off, hA, hb, hc⟩ := h hn
  refine ⟨b, off, hA, hb, fun k hk => ?_⟩
  have hk := hc k hk
  rw [leaves_Lim12, cells_Lim12] at hk
  obtain ⟨_, h0, x0, rfl, w0⟩ := hk 0 (.int .i64) (by simp)
  obtain ⟨_, h1, x1, rfl, w1⟩ := hk 1 (.int .i64) (by simp)
  obtain ⟨_, h2, x2, rfl, w2⟩ := hk 2 (.int .i64) (by simp)
  obtain ⟨_, h3, x3, rfl, w3⟩ := hk 3 (.int .i64) (by simp)
  obtain ⟨_, h4, x4, rfl, w4⟩ := hk 4 (.int .i64) (by simp)
  obtain ⟨_, h5, x5, rfl, w5⟩ := hk 5 (.int .i64) (by simp)
  exact ⟨x0, x1, x2, x3, x4, x5, w0, w1, w2, w3, w4, w5, h0, h1, h2, h3, h4, h5⟩
theorem open_Lim12 {H : Type} {enc : TypeId × Value → H} {w : World} {r : Reach} {b0 : Nat} {v : Value} {d : DataW H} {ps : List MemPlace} (hv : Value.okWide Try.prog w r b0 23 v) (h : DataW.Trod enc Try.prog w 0 (fun _ => true) true 23 v d ps)
    (hlt : ∀ p ∈ ps, p.block < w.heap.size) (hwt : ∀ y ∈ d.weights Try.prog 23, y ≤ reachBytes) : ∃ (x0 : Int) (x1 : Int) (x2 : Int) (x3 : Int) (x4 : Int) (x5 : Int), v = .agg #[.int .i64 x0, .int .i64 x1, .int .i64 x2, .int .i64 x3, .int .i64 x4, .int .i64 x5] ∧ (Lit.int .i64 x0).wf = true ∧ (Lit.int .i64 x1).wf = true ∧ (Lit.int .i64 x2).wf = true ∧ (Lit.int .i64 x3).wf = true ∧ (Lit.int .i64 x4).wf = true ∧ (Lit.int .i64 x5).wf = true := by
  obtain ⟨cs, rfl, hl, hc⟩ := open_agg 6 Try.underlying23 hv h hlt hwt
  rw [cells_Lim12] at hl
  rw [leaves_Lim12] at hc
  obtain ⟨_, h0, x0, rfl, w0⟩ := hc 0 (.int .i64) (by simp)
  obtain ⟨_, h1, x1, rfl, w1⟩ := hc 1 (.int .i64) (by simp)
  obtain ⟨_, h2, x2, rfl, w2⟩ := hc 2 (.int .i64) (by simp)
  obtain ⟨_, h3, x3, rfl, w3⟩ := hc 3 (.int .i64) (by simp)
  obtain ⟨_, h4, x4, rfl, w4⟩ := hc 4 (.int .i64) (by simp)
  obtain ⟨_, h5, x5, rfl, w5⟩ := hc 5 (.int .i64) (by simp)
  match cs, hl with
  | [c0, c1, c2, c3, c4, c5], _ =>
    obtain rfl : c0 = _ := by simpa using h0
    obtain rfl : c1 = _ := by simpa using h1
    obtain rfl : c2 = _ := by simpa using h2
    obtain rfl : c3 = _ := by simpa using h3
    obtain rfl : c4 = _ := by simpa using h4
    obtain rfl : c5 = _ := by simpa using h5
    exact ⟨x0, x1, x2, x3, x4, x5, rfl, w0, w1, w2, w3, w4, w5⟩

end Go.Proofs.Ythcpccddcgbanaa

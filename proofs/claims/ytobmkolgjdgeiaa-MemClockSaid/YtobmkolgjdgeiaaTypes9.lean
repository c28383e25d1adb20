/- Given structs, taken apart to their cells (by value, and as elements of a slice). Written by mktypes.py. -/
import Derived.Test.YtobmkolgjdgeiaaTypesR
namespace Go.Proofs.Ytobmkolgjdgeiaa
open Go.ChangeShapes Go.WideShapes Go.RowKit
set_option maxRecDepth 100000
set_option linter.unusedVariables false
set_option linter.unusedSimpArgs false

theorem cells_Do9 : Try.prog.cellsOf 47 = 23 := by kernel_rfl
theorem leaves_Do9 : leaves Try.prog 6 47 = [(0, .int .i64), (1, .int .i64), (2, .int .i64), (3, .bool), (4, .int .i64), (5, .int .i64), (6, .int .i64), (7, .int .i64), (8, .int .i64), (9, .string), (10, .string), (11, .bool), (12, .int .i64), (13, .slice 40), (14, .slice 41), (15, .string), (16, .string), (17, .int .i64), (18, .int .i64), (19, .int .i64), (20, .string), (21, .int .i64), (22, .int .i64)] := by kernel_rfl
def Do9At {H : Type} (enc : TypeId × Value → H) (w : World) (A : Option Addr) (n : Nat) : Prop :=
  0 < n → ∃ b off, A = some ⟨b, off, none⟩ ∧ b < w.heap.size ∧ ∀ k, k < n → ∃ (x0 : Int) (x1 : Int) (x2 : Int) (x3 : Bool) (x4 : Int) (x5 : Int) (x6 : Int) (x7 : Int) (x8 : Int) (x9 : ByteArray) (x10 : ByteArray) (x11 : Bool) (x12 : Int) (x13 : Value) (x14 : Value) (x15 : ByteArray) (x16 : ByteArray) (x17 : Int) (x18 : Int) (x19 : Int) (x20 : ByteArray) (x21 : Int) (x22 : Int), (Lit.int .i64 x0).wf = true ∧ (Lit.int .i64 x1).wf = true ∧ (Lit.int .i64 x2).wf = true ∧ (Lit.int .i64 x4).wf = true ∧ (Lit.int .i64 x5).wf = true ∧ (Lit.int .i64 x6).wf = true ∧ (Lit.int .i64 x7).wf = true ∧ (Lit.int .i64 x8).wf = true ∧ x9.size ≤ reachBytes ∧ x10.size ≤ reachBytes ∧ (Lit.int .i64 x12).wf = true ∧ Conf enc Try.prog w (.slice 40) x13 ∧ Conf enc Try.prog w (.slice 41) x14 ∧ x15.size ≤ reachBytes ∧ x16.size ≤ reachBytes ∧ (Lit.int .i64 x17).wf = true ∧ (Lit.int .i64 x18).wf = true ∧ (Lit.int .i64 x19).wf = true ∧ x20.size ≤ reachBytes ∧ (Lit.int .i64 x21).wf = true ∧ (Lit.int .i64 x22).wf = true ∧ w.cell? ⟨b, off + k * 23, none⟩ = some (.int .i64 x0) ∧ w.cell? ⟨b, off + k * 23 + 1, none⟩ = some (.int .i64 x1) ∧ w.cell? ⟨b, off + k * 23 + 1 + 1, none⟩ = some (.int .i64 x2) ∧ w.cell? ⟨b, off + k * 23 + 1 + 1 + 1, none⟩ = some (.bool x3) ∧ w.cell? ⟨b, off + k * 23 + 1 + 1 + 1 + 1, none⟩ = some (.int .i64 x4) ∧ w.cell? ⟨b, off + k * 23 + 1 + 1 + 1 + 1 + 1, none⟩ = some (.int .i64 x5) ∧ w.cell? ⟨b, off + k * 23 + 1 + 1 + 1 + 1 + 1 + 1, none⟩ = some (.int .i64 x6) ∧ w.cell? ⟨b, off + k * 23 + 1 + 1 + 1 + 1 + 1 + 1 + 1, none⟩ = some (.int .i64 x7) ∧ w.cell? ⟨b, off + k * 23 + 1 + 1 + 1 + 1 + 1 + 1 + 1 + 1, none⟩ = some (.int .i64 x8) ∧ w.cell? ⟨b, off + k * 23 + 1 + 1 + 1 + 1 + 1 + 1 + 1 + 1 + 1, none⟩ = some (.string x9) ∧ w.cell? ⟨b, off + k * 23 + 1 + 1 + 1 + 1 + 1 + 1 + 1 + 1 + 1 + 1, none⟩ = some (.string x10) ∧ w.cell? ⟨b, off + k * 23 + 1 + 1 + 1 + 1 + 1 + 1 + 1 + 1 + 1 + 1 + 1, none⟩ = some (.bool x11) ∧ w.cell? ⟨b, off + k * 23 + 1 + 1 + 1 + 1 + 1 + 1 + 1 + 1 + 1 + 1 + 1 + 1, none⟩ = some (.int .i64 x12) ∧ w.cell? ⟨b, off + k * 23 + 1 + 1 + 1 + 1 + 1 + 1 + 1 + 1 + 1 + 1 + 1 + 1 + 1, none⟩ = some (x13) ∧ w.cell? ⟨b, off + k * 23 + 1 + 1 + 1 + 1 + 1 + 1 + 1 + 1 + 1 + 1 + 1 + 1 + 1 + 1, none⟩ = some (x14) ∧ w.cell? ⟨b, off + k * 23 + 1 + 1 + 1 + 1 + 1 + 1 + 1 + 1 + 1 + 1 + 1 + 1 + 1 + 1 + 1, none⟩ = some (.string x15) ∧ w.cell? ⟨b, off + k * 23 + 1 + 1 + 1 + 1 + 1 + 1 + 1 + 1 + 1 + 1 + 1 + 1 + 1 + 1 + 1 + 1, none⟩ = some (.string x16) ∧ w.cell? ⟨b, off + k * 23 + 1 + 1 + 1 + 1 + 1 + 1 + 1 + 1 + 1 + 1 + 1 + 1 + 1 + 1 + 1 + 1 + 1, none⟩ = some (.int .i64 x17) ∧ w.cell? ⟨b, off + k * 23 + 1 + 1 + 1 + 1 + 1 + 1 + 1 + 1 + 1 + 1 + 1 + 1 + 1 + 1 + 1 + 1 + 1 + 1, none⟩ = some (.int .i64 x18) ∧ w.cell? ⟨b, off + k * 23 + 1 + 1 + 1 + 1 + 1 + 1 + 1 + 1 + 1 + 1 + 1 + 1 + 1 + 1 + 1 + 1 + 1 + 1 + 1, none⟩ = some (.int .i64 x19) ∧ w.cell? ⟨b, off + k * 23 + 1 + 1 + 1 + 1 + 1 + 1 + 1 + 1 + 1 + 1 + 1 + 1 + 1 + 1 + 1 + 1 + 1 + 1 + 1 + 1, none⟩ = some (.string x20) ∧ w.cell? ⟨b, off + k * 23 + 1 + 1 + 1 + 1 + 1 + 1 + 1 + 1 + 1 + 1 + 1 + 1 + 1 + 1 + 1 + 1 + 1 + 1 + 1 + 1 + 1, none⟩ = some (.int .i64 x21) ∧ w.cell? ⟨b, off + k * 23 + 1 + 1 + 1 + 1 + 1 + 1 + 1 + 1 + 1 + 1 + 1 + 1 + 1 + 1 + 1 + 1 + 1 + 1 + 1 + 1 + 1 + 1, none⟩ = some (.int .i64 x22)
theorem Do9_at {H : Type} {enc : TypeId × Value → H} {w : World} {A : Option Addr} {n : Nat} (h : Rd enc Try.prog w 6 47 A n) : Do9At enc w A n := by
  intro hn
  obtain ⟨b, off, hA, hb, hc⟩ := h hn
  refine ⟨b, off, hA, hb, fun k hk => ?_⟩
  have hk := hc k hk
  rw [leaves_Do9, cells_Do9] at hk
  obtain ⟨_, h0, x0, rfl, w0⟩ := hk 0 (.int .i64) (by simp)
  obtain ⟨_, h1, x1, rfl, w1⟩ := hk 1 (.int .i64) (by simp)
  obtain ⟨_, h2, x2, rfl, w2⟩ := hk 2 (.int .i64) (by simp)
  obtain ⟨_, h3, x3, rfl⟩ := hk 3 .bool (by simp)
  obtain ⟨_, h4, x4, rfl, w4⟩ := hk 4 (.int .i64) (by simp)
  obtain ⟨_, h5, x5, rfl, w5⟩ := hk 5 (.int .i64) (by simp)
  obtain ⟨_, h6, x6, rfl, w6⟩ := hk 6 (.int .i64) (by simp)
  obtain ⟨_, h7, x7, rfl, w7⟩ := hk 7 (.int .i64) (by simp)
  obtain ⟨_, h8, x8, rfl, w8⟩ := hk 8 (.int .i64) (by simp)
  obtain ⟨_, h9, x9, rfl, w9⟩ := hk 9 .string (by simp)
  obtain ⟨_, h10, x10, rfl, w10⟩ := hk 10 .string (by simp)
  obtain ⟨_, h11, x11, rfl⟩ := hk 11 .bool (by simp)
  obtain ⟨_, h12, x12, rfl, w12⟩ := hk 12 (.int .i64) (by simp)
  obtain ⟨x13, h13, w13⟩ := hk 13 (.slice 40) (by simp)
  obtain ⟨x14, h14, w14⟩ := hk 14 (.slice 41) (by simp)
  obtain ⟨_, h15, x15, rfl, w15⟩ := hk 15 .string (by simp)
  obtain ⟨_, h16, x16, rfl, w16⟩ := hk 16 .string (by simp)
  obtain ⟨_, h17, x17, rfl, w17⟩ := hk 17 (.int .i64) (by simp)
  obtain ⟨_, h18, x18, rfl, w18⟩ := hk 18 (.int .i64) (by simp)
  obtain ⟨_, h19, x19, rfl, w19⟩ := hk 19 (.int .i64) (by simp)
  obtain ⟨_, h20, x20, rfl, w20⟩ := hk 20 .string (by simp)
  obtain ⟨_, h21, x21, rfl, w21⟩ := hk 21 (.int .i64) (by simp)
  obtain ⟨_, h22, x22, rfl, w22⟩ := hk 22 (.int .i64) (by simp)
  exact ⟨x0, x1, x2, x3, x4, x5, x6, x7, x8, x9, x10, x11, x12, x13, x14, x15, x16, x17, x18, x19, x20, x21, x22, w0, w1, w2, w4, w5, w6, w7, w8, w9, w10, w12, w13, w14, w15, w16, w17, w18, w19, w20, w21, w22, h0, h1, h2, h3, h4, h5, h6, h7, h8, h9, h10, h11, h12, h13, h14, h15, h16, h17, h18, h19, h20, h21, h22⟩
theorem open_Do9 {H : Type} {enc : TypeId × Value → H} {w : World} {r : Reach} {b0 : Nat} {v : Value} {d : DataW H} {ps : List MemPlace} (hv : Value.okWide Try.prog w r b0 47 v) (h : DataW.Trod enc Try.prog w 0 (fun _ => true) true 47 v d ps)
    (hlt : ∀ p ∈ ps, p.block < w.heap.size) (hwt : ∀ y ∈ d.weights Try.prog 47, y ≤ reachBytes) : ∃ (x0 : Int) (x1 : Int) (x2 : Int) (x3 : Bool) (x4 : Int) (x5 : Int) (x6 : Int) (x7 : Int) (x8 : Int) (x9 : ByteArray) (x10 : ByteArray) (x11 : Bool) (x12 : Int) (x13 : Value) (x14 : Value) (x15 : ByteArray) (x16 : ByteArray) (x17 : Int) (x18 : Int) (x19 : Int) (x20 : ByteArray) (x21 : Int) (x22 : Int), v = .agg #[.int .i64 x0, .int .i64 x1, .int .i64 x2, .bool x3, .int .i64 x4, .int .i64 x5, .int .i64 x6, .int .i64 x7, .int .i64 x8, .string x9, .string x10, .bool x11, .int .i64 x12, x13, x14, .string x15, .string x16, .int .i64 x17, .int .i64 x18, .int .i64 x19, .string x20, .int .i64 x21, .int .i64 x22] ∧ (Lit.int .i64 x0).wf = true ∧ (Lit.int .i64 x1).wf = true ∧ (Lit.int .i64 x2).wf = true ∧ (Lit.int .i64 x4).wf = true ∧ (Lit.int .i64 x5).wf = true ∧ (Lit.int .i64 x6).wf = true ∧ (Lit.int .i64 x7).wf = true ∧ (Lit.int .i64 x8).wf = true ∧ x9.size ≤ reachBytes ∧ x10.size ≤ reachBytes ∧ (Lit.int .i64 x12).wf = true ∧ Conf enc Try.prog w (.slice 40) x13 ∧ Conf enc Try.prog w (.slice 41) x14 ∧ x15.size ≤ reachBytes ∧ x16.size ≤ reachBytes ∧ (Lit.int .i64 x17).wf = true ∧ (Lit.int .i64 x18).wf = true ∧ (Lit.int .i64 x19).wf = true ∧ x20.size ≤ reachBytes ∧ (Lit.int .i64 x21).wf = true ∧ (Lit.int .i64 x22).wf = true := by
  obtain ⟨cs, rfl, hl, hc⟩ := open_agg 6 Try.underlying47 hv h hlt hwt
  rw [cells_Do9] at hl
  rw [leaves_Do9] at hc
  obtain ⟨_, h0, x0, rfl, w0⟩ := hc 0 (.int .i64) (by simp)
  obtain ⟨_, h1, x1, rfl, w1⟩ := hc 1 (.int .i64) (by simp)
  obtain ⟨_, h2, x2, rfl, w2⟩ := hc 2 (.int .i64) (by simp)
  obtain ⟨_, h3, x3, rfl⟩ := hc 3 .bool (by simp)
  obtain ⟨_, h4, x4, rfl, w4⟩ := hc 4 (.int .i64) (by simp)
  obtain ⟨_, h5, x5, rfl, w5⟩ := hc 5 (.int .i64) (by simp)
  obtain ⟨_, h6, x6, rfl, w6⟩ := hc 6 (.int .i64) (by simp)
  obtain ⟨_, h7, x7, rfl, w7⟩ := hc 7 (.int .i64) (by simp)
  obtain ⟨_, h8, x8, rfl, w8⟩ := hc 8 (.int .i64) (by simp)
  obtain ⟨_, h9, x9, rfl, w9⟩ := hc 9 .string (by simp)
  obtain ⟨_, h10, x10, rfl, w10⟩ := hc 10 .string (by simp)
  obtain ⟨_, h11, x11, rfl⟩ := hc 11 .bool (by simp)
  obtain ⟨_, h12, x12, rfl, w12⟩ := hc 12 (.int .i64) (by simp)
  obtain ⟨x13, h13, w13⟩ := hc 13 (.slice 40) (by simp)
  obtain ⟨x14, h14, w14⟩ := hc 14 (.slice 41) (by simp)
  obtain ⟨_, h15, x15, rfl, w15⟩ := hc 15 .string (by simp)
  obtain ⟨_, h16, x16, rfl, w16⟩ := hc 16 .string (by simp)
  obtain ⟨_, h17, x17, rfl, w17⟩ := hc 17 (.int .i64) (by simp)
  obtain ⟨_, h18, x18, rfl, w18⟩ := hc 18 (.int .i64) (by simp)
  obtain ⟨_, h19, x19, rfl, w19⟩ := hc 19 (.int .i64) (by simp)
  obtain ⟨_, h20, x20, rfl, w20⟩ := hc 20 .string (by simp)
  obtain ⟨_, h21, x21, rfl, w21⟩ := hc 21 (.int .i64) (by simp)
  obtain ⟨_, h22, x22, rfl, w22⟩ := hc 22 (.int .i64) (by simp)
  match cs, hl with
  | [c0, c1, c2, c3, c4, c5, c6, c7, c8, c9, c10, c11, c12, c13, c14, c15, c16, c17, c18, c19, c20, c21, c22], _ =>
    obtain rfl : c0 = _ := by simpa using h0
    obtain rfl : c1 = _ := by simpa using h1
    obtain rfl : c2 = _ := by simpa using h2
    obtain rfl : c3 = _ := by simpa using h3
    obtain rfl : c4 = _ := by simpa using h4
    obtain rfl : c5 = _ := by simpa using h5
    obtain rfl : c6 = _ := by simpa using h6
    obtain rfl : c7 = _ := by simpa using h7
    obtain rfl : c8 = _ := by simpa using h8
    obtain rfl : c9 = _ := by simpa using h9
    obtain rfl : c10 = _ := by simpa using h10
    obtain rfl : c11 = _ := by simpa using h11
    obtain rfl : c12 = _ := by simpa using h12
    obtain rfl : c13 = _ := by simpa using h13
    obtain rfl : c14 = _ := by simpa using h14
    obtain rfl : c15 = _ := by simpa using h15
    obtain rfl : c16 = _ := by simpa using h16
    obtain rfl : c17 = _ := by simpa using h17
    obtain rfl : c18 = _ := by simpa using h18
    obtain rfl : c19 = _ := by simpa using h19
    obtain rfl : c20 = _ := by simpa using h20
    obtain rfl : c21 = _ := by simpa using h21
    obtain rfl : c22 = _ := by simpa using h22
    exact ⟨x0, x1, x2, x3, x4, x5, x6, x7, x8, x9, x10, x11, x12, c13, c14, x15, x16, x17, x18, x19, x20, x21, x22, rfl, w0, w1, w2, w4, w5, w6, w7, w8, w9, w10, w12, w13, w14, w15, w16, w17, w18, w19, w20, w21, w22⟩

theorem cells_Lim9 : Try.prog.cellsOf 23 = 6 := by kernel_rfl
theorem leaves_Lim9 : leaves Try.prog 6 23 = [(0, .int .i64), (1, .int .i64), (2, .int .i64), (3, .int .i64), (4, .int .i64), (5, .int .i64)] := by kernel_rfl
def Lim9At (w : World) (A : Option Addr) (n : Nat) : Prop :=
  0 < n → ∃ b off, A = some ⟨b, off, none⟩ ∧ b < w.heap.size ∧ ∀ k, k < n → ∃ (x0 : Int) (x1 : Int) (x2 : Int) (x3 : Int) (x4 : Int) (x5 : Int), (Lit.int .i64 x0).wf = true ∧ (Lit.int .i64 x1).wf = true ∧ (Lit.int .i64 x2).wf = true ∧ (Lit.int .i64 x3).wf = true ∧ (Lit.int .i64 x4).wf = true ∧ (Lit.int .i64 x5).wf = true ∧ w.cell? ⟨b, off + k * 6, none⟩ = some (.int .i64 x0) ∧ w.cell? ⟨b, off + k * 6 + 1, none⟩ = some (.int .i64 x1) ∧ w.cell? ⟨b, off + k * 6 + 1 + 1, none⟩ = some (.int .i64 x2) ∧ w.cell? ⟨b, off + k * 6 + 1 + 1 + 1, none⟩ = some (.int .i64 x3) ∧ w.cell? ⟨b, off + k * 6 + 1 + 1 + 1 + 1, none⟩ = some (.int .i64 x4) ∧ w.cell? ⟨b, off + k * 6 + 1 + 1 + 1 + 1 + 1, none⟩ = some (.int .i64 x5)
theorem Lim9_at {H : Type} {enc : TypeId × Value → H} {w : World} {A : Option Addr} {n : Nat} (h : Rd enc Try.prog w 6 23 A n) : Lim9At w A n := by
  intro hn
  obtain ⟨b, off, hA, hb, hc⟩ := h hn
  refine ⟨b, off, hA, hb, fun k hk => ?_⟩
  have hk := hc k hk
  rw [leaves_Lim9, cells_Lim9] at hk
  obtain ⟨_, h0, x0, rfl, w0⟩ := hk 0 (.int .i64) (by simp)
  obtain ⟨_, h1, x1, rfl, w1⟩ := hk 1 (.int .i64) (by simp)
  obtain ⟨_, h2, x2, rfl, w2⟩ := hk 2 (.int .i64) (by simp)
  obtain ⟨_, h3, x3, rfl, w3⟩ := hk 3 (.int .i64) (by simp)
  obtain ⟨_, h4, x4, rfl, w4⟩ := hk 4 (.int .i64) (by simp)
  obtain ⟨_, h5, x5, rfl, w5⟩ := hk 5 (.int .i64) (by simp)
  exact ⟨x0, x1, x2, x3, x4, x5, w0, w1, w2, w3, w4, w5, h0, h1, h2, h3, h4, h5⟩
theorem open_Lim9 {H : Type} {enc : TypeId × Value → H} {w : World} {r : Reach} {b0 : Nat} {v : Value} {d : DataW H} {ps : List MemPlace} (hv : Value.okWide Try.prog w r b0 23 v) (h : DataW.Trod enc Try.prog w 0 (fun _ => true) true 23 v d ps)
    (hlt : ∀ p ∈ ps, p.block < w.heap.size) (hwt : ∀ y ∈ d.weights Try.prog 23, y ≤ reachBytes) : ∃ (x0 : Int) (x1 : Int) (x2 : Int) (x3 : Int) (x4 : Int) (x5 : Int), v = .agg #[.int .i64 x0, .int .i64 x1, .int .i64 x2, .int .i64 x3, .int .i64 x4, .int .i64 x5] ∧ (Lit.int .i64 x0).wf = true ∧ (Lit.int .i64 x1).wf = true ∧ (Lit.int .i64 x2).wf = true ∧ (Lit.int .i64 x3).wf = true ∧ (Lit.int .i64 x4).wf = true ∧ (Lit.int .i64 x5).wf = true := by
  obtain ⟨cs, rfl, hl, hc⟩ := open_agg 6 Try.underlying23 hv h hlt hwt
  rw [cells_Lim9] at hl
  rw [leaves_Lim9] at hc
  obtain ⟨_, h0, x0, rfl, w0⟩ := hc 0 (.int .i64) (by simp)
  obtain ⟨_, h1, x1, rfl, w1⟩ := hc 1 (.int .i64) (by simp)
  obtain ⟨_, h2, x2, rfl, w2⟩ := hc 2 (.int .i64) (by simp)
  obtain ⟨_, h3, x3, rfl, w3⟩ := hc 3 (.int .i64) (by simp)
  obtain ⟨_, h4, x4, rfl, w4⟩ := hc 4 (.int .i64) (by simp)
  obtain ⟨_, h5, x5, rfl, w5⟩ := hc 5 (.int .i64) (by simp)
  match cs, hl with
  | [c0, c1, c2, c3, c4, c5], _ =>
    obtain rfl : c0 = _ := by simpa using h0
    obtain rfl : c1 = _ := by simpa using h1
    obtain rfl : c2 = _ := by simpa using h2
    obtain rfl : c3 = _ := by simpa using h3
    obtain rfl : c4 = _ := by simpa using h4
    obtain rfl : c5 = _ := by simpa using h5
    exact ⟨x0, x1, x2, x3, x4, x5, rfl, w0, w1, w2, w3, w4, w5⟩

end Go.Proofs.Ytobmkolgjdgeiaa

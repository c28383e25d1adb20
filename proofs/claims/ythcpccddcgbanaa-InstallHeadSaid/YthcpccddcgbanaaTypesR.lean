/- Given structs, taken apart to their cells (by value, and as elements of a slice). Written by mktypes.py. -/
import Derived.Test.YthcpccddcgbanaaErr
import Derived.Test.YthcpccddcgbanaaOpen
namespace Go.Proofs.Ythcpccddcgbanaa
open Go.ChangeShapes Go.WideShapes Go.RowKit
set_option maxRecDepth 100000
set_option linter.unusedVariables false
set_option linter.unusedSimpArgs false

theorem cells_Row : Try.prog.cellsOf 97 = 2 := by kernel_rfl
theorem leaves_Row : leaves Try.prog 6 97 = [(0, .string), (1, .string)] := by kernel_rfl
def RowAt (w : World) (A : Option Addr) (n : Nat) : Prop :=
  0 < n → ∃ b off, A = some ⟨b, off, none⟩ ∧ b < w.heap.size ∧ ∀ k, k < n → ∃ (x0 : ByteArray) (x1 : ByteArray), x0.size ≤ reachBytes ∧ x1.size ≤ reachBytes ∧ w.cell? ⟨b, off + k * 2, none⟩ = some (.string x0) ∧ w.cell? ⟨b, off + k * 2 + 1, none⟩ = some (.string x1)
theorem Row_at {H : Type} {enc : TypeId × Value → H} {w : World} {A : Option Addr} {n : Nat} (h : Rd enc Try.prog w 6 97 A n) : RowAt w A n := by
  intro hn
  obtain ⟨b, off, hA, hb, hc⟩ := h hn
  refine ⟨b, off, hA, hb, fun k hk => ?_⟩
  have hk := hc k hk
  rw [leaves_Row, cells_Row] at hk
  obtain ⟨_, h0, x0, rfl, w0⟩ := hk 0 .string (by simp)
  obtain ⟨_, h1, x1, rfl, w1⟩ := hk 1 .string (by simp)
  exact ⟨x0, x1, w0, w1, h0, h1⟩
theorem open_Row {H : Type} {enc : TypeId × Value → H} {w : World} {r : Reach} {b0 : Nat} {v : Value} {d : DataW H} {ps : List MemPlace} (hv : Value.okWide Try.prog w r b0 97 v) (h : DataW.Trod enc Try.prog w 0 (fun _ => true) true 97 v d ps)
    (hlt : ∀ p ∈ ps, p.block < w.heap.size) (hwt : ∀ y ∈ d.weights Try.prog 97, y ≤ reachBytes) : ∃ (x0 : ByteArray) (x1 : ByteArray), v = .agg #[.string x0, .string x1] ∧ x0.size ≤ reachBytes ∧ x1.size ≤ reachBytes := by
  obtain ⟨cs, rfl, hl, hc⟩ := open_agg 6 Try.underlying97 hv h hlt hwt
  rw [cells_Row] at hl
  rw [leaves_Row] at hc
  obtain ⟨_, h0, x0, rfl, w0⟩ := hc 0 .string (by simp)
  obtain ⟨_, h1, x1, rfl, w1⟩ := hc 1 .string (by simp)
  match cs, hl with
  | [c0, c1], _ =>
    obtain rfl : c0 = _ := by simpa using h0
    obtain rfl : c1 = _ := by simpa using h1
    exact ⟨x0, x1, rfl, w0, w1⟩

theorem cells_Entry : Try.prog.cellsOf 99 = 2 := by kernel_rfl
theorem leaves_Entry : leaves Try.prog 6 99 = [(0, .string), (1, .int .i64)] := by kernel_rfl
def EntryAt (w : World) (A : Option Addr) (n : Nat) : Prop :=
  0 < n → ∃ b off, A = some ⟨b, off, none⟩ ∧ b < w.heap.size ∧ ∀ k, k < n → ∃ (x0 : ByteArray) (x1 : Int), x0.size ≤ reachBytes ∧ (Lit.int .i64 x1).wf = true ∧ w.cell? ⟨b, off + k * 2, none⟩ = some (.string x0) ∧ w.cell? ⟨b, off + k * 2 + 1, none⟩ = some (.int .i64 x1)
theorem Entry_at {H : Type} {enc : TypeId × Value → H} {w : World} {A : Option Addr} {n : Nat} (h : Rd enc Try.prog w 6 99 A n) : EntryAt w A n := by
  intro hn
  obtain ⟨b, off, hA, hb, hc⟩ := h hn
  refine ⟨b, off, hA, hb, fun k hk => ?_⟩
  have hk := hc k hk
  rw [leaves_Entry, cells_Entry] at hk
  obtain ⟨_, h0, x0, rfl, w0⟩ := hk 0 .string (by simp)
  obtain ⟨_, h1, x1, rfl, w1⟩ := hk 1 (.int .i64) (by simp)
  exact ⟨x0, x1, w0, w1, h0, h1⟩
theorem open_Entry {H : Type} {enc : TypeId × Value → H} {w : World} {r : Reach} {b0 : Nat} {v : Value} {d : DataW H} {ps : List MemPlace} (hv : Value.okWide Try.prog w r b0 99 v) (h : DataW.Trod enc Try.prog w 0 (fun _ => true) true 99 v d ps)
    (hlt : ∀ p ∈ ps, p.block < w.heap.size) (hwt : ∀ y ∈ d.weights Try.prog 99, y ≤ reachBytes) : ∃ (x0 : ByteArray) (x1 : Int), v = .agg #[.string x0, .int .i64 x1] ∧ x0.size ≤ reachBytes ∧ (Lit.int .i64 x1).wf = true := by
  obtain ⟨cs, rfl, hl, hc⟩ := open_agg 6 Try.underlying99 hv h hlt hwt
  rw [cells_Entry] at hl
  rw [leaves_Entry] at hc
  obtain ⟨_, h0, x0, rfl, w0⟩ := hc 0 .string (by simp)
  obtain ⟨_, h1, x1, rfl, w1⟩ := hc 1 (.int .i64) (by simp)
  match cs, hl with
  | [c0, c1], _ =>
    obtain rfl : c0 = _ := by simpa using h0
    obtain rfl : c1 = _ := by simpa using h1
    exact ⟨x0, x1, rfl, w0, w1⟩

theorem cells_Record : Try.prog.cellsOf 44 = 15 := by kernel_rfl
theorem leaves_Record : leaves Try.prog 6 44 = [(0, .int .i64), (1, .string), (2, .string), (3, .bool), (4, .int .i64), (5, .slice 39), (6, .slice 40), (7, .string), (8, .string), (9, .int .i64), (10, .int .i64), (11, .int .i64), (12, .string), (13, .int .i64), (14, .int .i64)] := by kernel_rfl
def RecordAt {H : Type} (enc : TypeId × Value → H) (w : World) (A : Option Addr) (n : Nat) : Prop :=
  0 < n → ∃ b off, A = some ⟨b, off, none⟩ ∧ b < w.heap.size ∧ ∀ k, k < n → ∃ (x0 : Int) (x1 : ByteArray) (x2 : ByteArray) (x3 : Bool) (x4 : Int) (x5 : Value) (x6 : Value) (x7 : ByteArray) (x8 : ByteArray) (x9 : Int) (x10 : Int) (x11 : Int) (x12 : ByteArray) (x13 : Int) (x14 : Int), (Lit.int .i64 x0).wf = true ∧ x1.size ≤ reachBytes ∧ x2.size ≤ reachBytes ∧ (Lit.int .i64 x4).wf = true ∧ Conf enc Try.prog w (.slice 39) x5 ∧ Conf enc Try.prog w (.slice 40) x6 ∧ x7.size ≤ reachBytes ∧ x8.size ≤ reachBytes ∧ (Lit.int .i64 x9).wf = true ∧ (Lit.int .i64 x10).wf = true ∧ (Lit.int .i64 x11).wf = true ∧ x12.size ≤ reachBytes ∧ (Lit.int .i64 x13).wf = true ∧ (Lit.int .i64 x14).wf = true ∧ w.cell? ⟨b, off + k * 15, none⟩ = some (.int .i64 x0) ∧ w.cell? ⟨b, off + k * 15 + 1, none⟩ = some (.string x1) ∧ w.cell? ⟨b, off + k * 15 + 1 + 1, none⟩ = some (.string x2) ∧ w.cell? ⟨b, off + k * 15 + 1 + 1 + 1, none⟩ = some (.bool x3) ∧ w.cell? ⟨b, off + k * 15 + 1 + 1 + 1 + 1, none⟩ = some (.int .i64 x4) ∧ w.cell? ⟨b, off + k * 15 + 1 + 1 + 1 + 1 + 1, none⟩ = some (x5) ∧ w.cell? ⟨b, off + k * 15 + 1 + 1 + 1 + 1 + 1 + 1, none⟩ = some (x6) ∧ w.cell? ⟨b, off + k * 15 + 1 + 1 + 1 + 1 + 1 + 1 + 1, none⟩ = some (.string x7) ∧ w.cell? ⟨b, off + k * 15 + 1 + 1 + 1 + 1 + 1 + 1 + 1 + 1, none⟩ = some (.string x8) ∧ w.cell? ⟨b, off + k * 15 + 1 + 1 + 1 + 1 + 1 + 1 + 1 + 1 + 1, none⟩ = some (.int .i64 x9) ∧ w.cell? ⟨b, off + k * 15 + 1 + 1 + 1 + 1 + 1 + 1 + 1 + 1 + 1 + 1, none⟩ = some (.int .i64 x10) ∧ w.cell? ⟨b, off + k * 15 + 1 + 1 + 1 + 1 + 1 + 1 + 1 + 1 + 1 + 1 + 1, none⟩ = some (.int .i64 x11) ∧ w.cell? ⟨b, off + k * 15 + 1 + 1 + 1 + 1 + 1 + 1 + 1 + 1 + 1 + 1 + 1 + 1, none⟩ = some (.string x12) ∧ w.cell? ⟨b, off + k * 15 + 1 + 1 + 1 + 1 + 1 + 1 + 1 + 1 + 1 + 1 + 1 + 1 + 1, none⟩ = some (.int .i64 x13) ∧ w.cell? ⟨b, off + k * 15 + 1 + 1 + 1 + 1 + 1 + 1 + 1 + 1 + 1 + 1 + 1 + 1 + 1 + 1, none⟩ = some (.int .i64 x14)
theorem Record_at {H : Type} {enc : TypeId × Value → H} {w : World} {A : Option Addr} {n : Nat} (h : Rd enc Try.prog w 6 44 A n) : RecordAt enc w A n := by
  intro hn
  obtain ⟨b, off, hA, hb, hc⟩ := h hn
  refine ⟨b, off, hA, hb, fun k hk => ?_⟩
  have hk := hc k hk
  rw [leaves_Record, cells_Record] at hk
  obtain ⟨_, h0, x0, rfl, w0⟩ := hk 0 (.int .i64) (by simp)
  obtain ⟨_, h1, x1, rfl, w1⟩ := hk 1 .string (by simp)
  obtain ⟨_, h2, x2, rfl, w2⟩ := hk 2 .string (by simp)
  obtain ⟨_, h3, x3, rfl⟩ := hk 3 .bool (by simp)
  obtain ⟨_, h4, x4, rfl, w4⟩ := hk 4 (.int .i64) (by simp)
  obtain ⟨x5, h5, w5⟩ := hk 5 (.slice 39) (by simp)
  obtain ⟨x6, h6, w6⟩ := hk 6 (.slice 40) (by simp)
  obtain ⟨_, h7, x7, rfl, w7⟩ := hk 7 .string (by simp)
  obtain ⟨_, h8, x8, rfl, w8⟩ := hk 8 .string (by simp)
  obtain ⟨_, h9, x9, rfl, w9⟩ := hk 9 (.int .i64) (by simp)
  obtain ⟨_, h10, x10, rfl, w10⟩ := hk 10 (.int .i64) (by simp)
  obtain ⟨_, h11, x11, rfl, w11⟩ := hk 11 (.int .i64) (by simp)
  obtain ⟨_, h12, x12, rfl, w12⟩ := hk 12 .string (by simp)
  obtain ⟨_, h13, x13, rfl, w13⟩ := hk 13 (.int .i64) (by simp)
  obtain ⟨_, h14, x14, rfl, w14⟩ := hk 14 (.int .i64) (by simp)
  exact ⟨x0, x1, x2, x3, x4, x5, x6, x7, x8, x9, x10, x11, x12, x13, x14, w0, w1, w2, w4, w5, w6, w7, w8, w9, w10, w11, w12, w13, w14, h0, h1, h2, h3, h4, h5, h6, h7, h8, h9, h10, h11, h12, h13, h14⟩
theorem open_Record {H : Type} {enc : TypeId × Value → H} {w : World} {r : Reach} {b0 : Nat} {v : Value} {d : DataW H} {ps : List MemPlace} (hv : Value.okWide Try.prog w r b0 44 v) (h : DataW.Trod enc Try.prog w 0 (fun _ => true) true 44 v d ps)
    (hlt : ∀ p ∈ ps, p.block < w.heap.size) (hwt : ∀ y ∈ d.weights Try.prog 44, y ≤ reachBytes) : ∃ (x0 : Int) (x1 : ByteArray) (x2 : ByteArray) (x3 : Bool) (x4 : Int) (x5 : Value) (x6 : Value) (x7 : ByteArray) (x8 : ByteArray) (x9 : Int) (x10 : Int) (x11 : Int) (x12 : ByteArray) (x13 : Int) (x14 : Int), v = .agg #[.int .i64 x0, .string x1, .string x2, .bool x3, .int .i64 x4, x5, x6, .string x7, .string x8, .int .i64 x9, .int .i64 x10, .int .i64 x11, .string x12, .int .i64 x13, .int .i64 x14] ∧ (Lit.int .i64 x0).wf = true ∧ x1.size ≤ reachBytes ∧ x2.size ≤ reachBytes ∧ (Lit.int .i64 x4).wf = true ∧ Conf enc Try.prog w (.slice 39) x5 ∧ Conf enc Try.prog w (.slice 40) x6 ∧ x7.size ≤ reachBytes ∧ x8.size ≤ reachBytes ∧ (Lit.int .i64 x9).wf = true ∧ (Lit.int .i64 x10).wf = true ∧ (Lit.int .i64 x11).wf = true ∧ x12.size ≤ reachBytes ∧ (Lit.int .i64 x13).wf = true ∧ (Lit.int .i64 x14).wf = true := by
  obtain ⟨cs, rfl, hl, hc⟩ := open_agg 6 Try.underlying44 hv h hlt hwt
  rw [cells_Record] at hl
  rw [leaves_Record] at hc
  obtain ⟨_, h0, x0, rfl, w0⟩ := hc 0 (.int .i64) (by simp)
  obtain ⟨_, h1, x1, rfl, w1⟩ := hc 1 .string (by simp)
  obtain ⟨_, h2, x2, rfl, w2⟩ := hc 2 .string (by simp)
  obtain ⟨_, h3, x3, rfl⟩ := hc 3 .bool (by simp)
  obtain ⟨_, h4, x4, rfl, w4⟩ := hc 4 (.int .i64) (by simp)
  obtain ⟨x5, h5, w5⟩ := hc 5 (.slice 39) (by simp)
  obtain ⟨x6, h6, w6⟩ := hc 6 (.slice 40) (by simp)
  obtain ⟨_, h7, x7, rfl, w7⟩ := hc 7 .string (by simp)
  obtain ⟨_, h8, x8, rfl, w8⟩ := hc 8 .string (by simp)
  obtain ⟨_, h9, x9, rfl, w9⟩ := hc 9 (.int .i64) (by simp)
  obtain ⟨_, h10, x10, rfl, w10⟩ := hc 10 (.int .i64) (by simp)
  obtain ⟨_, h11, x11, rfl, w11⟩ := hc 11 (.int .i64) (by simp)
  obtain ⟨_, h12, x12, rfl, w12⟩ := hc 12 .string (by simp)
  obtain ⟨_, h13, x13, rfl, w13⟩ := hc 13 (.int .i64) (by simp)
  obtain ⟨_, h14, x14, rfl, w14⟩ := hc 14 (.int .i64) (by simp)
  match cs, hl with
  | [c0, c1, c2, c3, c4, c5, c6, c7, c8, c9, c10, c11, c12, c13, c14], _ =>
    obtain rfl : c0 = _ := by simpa using h0
    obtain rfl : c1 = _ := by simpa using h1
    obtain rfl : c2 = _ := by simpa using h2
    obtain rfl : c3 = _ := by simpa using h3
    obtain rfl : c4 = _ := by simpa using h4
    obtain rfl : c5 = _ := by simpa using h5
    obtain rfl : c6 = _ := by simpa using h6
    obtain rfl : c7 = _ := by simpa using h7
    obtain rfl : c8 = _ := by simpa using h8
    obtain rfl : c9 = _ := by simpa using h9
    obtain rfl : c10 = _ := by simpa using h10
    obtain rfl : c11 = _ := by simpa using h11
    obtain rfl : c12 = _ := by simpa using h12
    obtain rfl : c13 = _ := by simpa using h13
    obtain rfl : c14 = _ := by simpa using h14
    exact ⟨x0, x1, x2, x3, x4, c5, c6, x7, x8, x9, x10, x11, x12, x13, x14, rfl, w0, w1, w2, w4, w5, w6, w7, w8, w9, w10, w11, w12, w13, w14⟩

end Go.Proofs.Ythcpccddcgbanaa

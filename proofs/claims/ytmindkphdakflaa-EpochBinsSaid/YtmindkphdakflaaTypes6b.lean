/- Slices of items and of numbers that came in, as lists. -/
import Derived.Test.YtmindkphdakflaaBin3
import Derived.Test.YtmindkphdakflaaTypes6
namespace Go.Proofs.Ytmindkphdakflaa
open Go.ChangeShapes Go.WideShapes Go.RowKit
set_option maxRecDepth 100000
set_option linter.unusedVariables false

/-- The slice (A, n) holds the items L, its address as the walk has it. -/
def ItReads (w : World) (A : Option Addr) (n : Nat) (L : List It) : Prop :=
  L.length = n ∧ (0 < n → ∃ b off, A = some ⟨b, off, none⟩ ∧ b < w.heap.size ∧ ∀ k p, L[k]? = some p →
    w.cell? ⟨b, off + k * 4, none⟩ = some (.int .i64 p.1) ∧ w.cell? ⟨b, off + k * 4 + 1, none⟩ = some (.int .i64 p.2.1) ∧ w.cell? ⟨b, off + k * 4 + 1 + 1, none⟩ = some (.int .i64 p.2.2.1) ∧ w.cell? ⟨b, off + k * 4 + 1 + 1 + 1, none⟩ = some (.int .i64 p.2.2.2))
theorem items_of {w : World} {A : Option Addr} {n : Nat} (h : ItemAt w A n) : ∃ L, ItReads w A n L := by
  rcases Nat.eq_zero_or_pos n with h0 | h0
  · subst h0; exact ⟨[], rfl, fun h => absurd h (by omega)⟩
  · obtain ⟨b, off, hA, hb, hc⟩ := h h0
    obtain ⟨L, hl, hL⟩ := choose_list (α := It) (P := fun k p => w.cell? ⟨b, off + k * 4, none⟩ = some (.int .i64 p.1) ∧ w.cell? ⟨b, off + k * 4 + 1, none⟩ = some (.int .i64 p.2.1) ∧ w.cell? ⟨b, off + k * 4 + 1 + 1, none⟩ = some (.int .i64 p.2.2.1) ∧ w.cell? ⟨b, off + k * 4 + 1 + 1 + 1, none⟩ = some (.int .i64 p.2.2.2)) n (fun k hk => by
      obtain ⟨x0, x1, x2, x3, _, _, _, _, h0, h1, h2, h3⟩ := hc k hk
      exact ⟨(x0, x1, x2, x3), h0, h1, h2, h3⟩)
    exact ⟨L, hl, fun _ => ⟨b, off, hA, hb, hL⟩⟩
theorem itFlat_inv : ∀ (L : List It) (j : Nat) (u : Value), (itFlat L)[j]? = some u → ∃ (k o : Nat) (p : It), L[k]? = some p ∧ j = k * 4 + o ∧ (itCells p)[o]? = some u
  | [], j, u, h => by simp [itFlat] at h
  | q :: L, j, u, h => by
    have e : itFlat (q :: L) = itCells q ++ itFlat L := by simp [itFlat]
    rw [e] at h
    rcases Nat.lt_or_ge j 4 with h1 | h1
    · rw [List.getElem?_append_left (by simpa [itCells] using h1)] at h
      exact ⟨0, j, q, rfl, by omega, h⟩
    · rw [List.getElem?_append_right (by simpa [itCells] using h1)] at h
      obtain ⟨k, o, p, hp, hj, ho⟩ := itFlat_inv L _ u h
      refine ⟨k + 1, o, p, by simpa using hp, ?_, ho⟩
      simp [itCells] at hj
      omega
theorem ItReads.reads {w : World} {A : Option Addr} {n : Nat} {L : List It} (h : ItReads w A n L) : Reads w 4 A n (itFlat L) := by
  refine ⟨by rw [itFlat_len, h.1], fun hn => ?_⟩
  obtain ⟨b, off, hA, hb, hc⟩ := h.2 hn
  refine ⟨⟨b, off, none⟩, hA, fun j u hu => ?_⟩
  obtain ⟨k, o, p, hp, rfl, ho⟩ := itFlat_inv L j u hu
  obtain ⟨c0, c1, c2, c3⟩ := hc k p hp
  rw [add_lit]
  match o, ho with
  | 0, ho => obtain rfl : Value.int .i64 p.1 = u := by simpa [itCells] using ho
             exact c0
  | 1, ho => obtain rfl : Value.int .i64 p.2.1 = u := by simpa [itCells] using ho
             exact c1
  | 2, ho => obtain rfl : Value.int .i64 p.2.2.1 = u := by simpa [itCells] using ho
             exact c2
  | 3, ho => obtain rfl : Value.int .i64 p.2.2.2 = u := by simpa [itCells] using ho
             exact c3
  | o + 4, ho => simp [itCells] at ho
theorem leaves_Num : leaves Try.prog 6 3 = [(0, .int .i64)] := by kernel_rfl
theorem cells_Num : Try.prog.cellsOf 3 = 1 := by kernel_rfl
def NumReads (w : World) (A : Option Addr) (n : Nat) (N : List Int) : Prop :=
  N.length = n ∧ (0 < n → ∃ b off, A = some ⟨b, off, none⟩ ∧ b < w.heap.size ∧ ∀ k x, N[k]? = some x → w.cell? ⟨b, off + k, none⟩ = some (.int .i64 x))
theorem Num_at {H : Type} {enc : TypeId × Value → H} {w : World} {A : Option Addr} {n : Nat} (h : Rd enc Try.prog w 6 3 A n) : ∃ N, NumReads w A n N := by
  rcases Nat.eq_zero_or_pos n with h0 | h0
  · subst h0; exact ⟨[], rfl, fun h => absurd h (by omega)⟩
  · obtain ⟨b, off, hA, hb, hc⟩ := h h0
    obtain ⟨L, hl, hL⟩ := choose_list (α := Int) (P := fun k x => w.cell? ⟨b, off + k, none⟩ = some (.int .i64 x)) n (fun k hk => by
      have hk := hc k hk
      rw [leaves_Num, cells_Num] at hk
      obtain ⟨_, h0, x0, rfl, w0⟩ := hk 0 (.int .i64) (by simp)
      exact ⟨x0, by simpa using h0⟩)
    exact ⟨L, hl, fun _ => ⟨b, off, hA, hb, hL⟩⟩
theorem ItReads.fr {w w' : World} {A : Option Addr} {n : Nat} {L : List It} (h : ItReads w A n L) (hf : Fr none_ w w') : ItReads w' A n L :=
  ⟨h.1, fun hn => by
    obtain ⟨b, off, hA, hb, hc⟩ := h.2 hn
    exact ⟨b, off, hA, by have := hf.size; omega, fun k p hp => by
      obtain ⟨c0, c1, c2, c3⟩ := hc k p hp
      exact ⟨cellFr c0 hf, cellFr c1 hf, cellFr c2 hf, cellFr c3 hf⟩⟩⟩
theorem NumReads.fr {w w' : World} {A : Option Addr} {n : Nat} {L : List Int} (h : NumReads w A n L) (hf : Fr none_ w w') : NumReads w' A n L :=
  ⟨h.1, fun hn => by
    obtain ⟨b, off, hA, hb, hc⟩ := h.2 hn
    exact ⟨b, off, hA, by have := hf.size; omega, fun k p hp => cellFr (hc k p hp) hf⟩⟩
theorem ItReads.at {w : World} {A : Option Addr} {n : Nat} {L : List It} (h : ItReads w A n L) {k : Nat} (hk : k < n) : ∃ b off p, A = some ⟨b, off, none⟩ ∧ b < w.heap.size ∧ L[k]? = some p ∧
    w.cell? ⟨b, off + k * 4, none⟩ = some (.int .i64 p.1) ∧ w.cell? ⟨b, off + k * 4 + 1, none⟩ = some (.int .i64 p.2.1) ∧ w.cell? ⟨b, off + k * 4 + 1 + 1, none⟩ = some (.int .i64 p.2.2.1) ∧ w.cell? ⟨b, off + k * 4 + 1 + 1 + 1, none⟩ = some (.int .i64 p.2.2.2) := by
  obtain ⟨b, off, hA, hb, hc⟩ := h.2 (by omega)
  have hl := h.1
  have hp : L[k]? = some (L[k]'(by omega)) := List.getElem?_eq_getElem (by omega)
  exact ⟨b, off, _, hA, hb, hp, hc k _ hp⟩
theorem NumReads.at {w : World} {A : Option Addr} {n : Nat} {L : List Int} (h : NumReads w A n L) {k : Nat} (hk : k < n) : ∃ b off x, A = some ⟨b, off, none⟩ ∧ b < w.heap.size ∧ L[k]? = some x ∧ w.cell? ⟨b, off + k, none⟩ = some (.int .i64 x) := by
  obtain ⟨b, off, hA, hb, hc⟩ := h.2 (by omega)
  have hl := h.1
  have hp : L[k]? = some (L[k]'(by omega)) := List.getElem?_eq_getElem (by omega)
  exact ⟨b, off, _, hA, hb, hp, hc k _ hp⟩
end Go.Proofs.Ytmindkphdakflaa

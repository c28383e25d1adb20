/- Rows and entries that a slice reads, at their addresses. -/
import Derived.Test.YthcpccddcgbanaaClone
namespace Go.Proofs.Ythcpccddcgbanaa
open Go.RowKit
set_option maxRecDepth 100000
set_option linter.unusedVariables false

/-- A slice that holds something lies at an address without a spot. -/
theorem reads_lit {w : World} {size n : Nat} {A : Option Addr} {xs : List Value} (h : Reads w size A n xs) (hs : 0 < size) (hn : 0 < n) : ∃ b off, A = some ⟨b, off, none⟩ ∧ b < w.heap.size ∧ ∀ j u, xs[j]? = some u → w.cell? ⟨b, off + j, none⟩ = some u := by
  obtain ⟨ad, e, hc⟩ := h.2 hn
  have hl : 0 < xs.length := by rw [h.1]; exact Nat.mul_pos hn hs
  have h0 := hc 0 xs[0] (List.getElem?_eq_getElem hl)
  have e0 : ad.add 0 = ad := by simp [Addr.add]
  rw [e0] at h0
  have hspot : ad.spot = none := by
    unfold World.cell? at h0
    split at h0
    · split at h0
      · cases h0
      · rename_i hs; simpa using hs
    · cases h0
  obtain ⟨b, off, sp⟩ := ad
  simp only at hspot
  subst hspot
  exact ⟨b, off, e, World.block_lt_of_cell? w _ h0, fun j u hu => by rw [← add_lit]; exact hc j u hu⟩
theorem rw_at {w : World} {A : Option Addr} {L : List Rw} (h : Reads w 2 A L.length (rwFlat L)) {k : Nat} {p : Rw} (hp : L[k]? = some p) : ∃ b off, A = some ⟨b, off, none⟩ ∧ b < w.heap.size ∧ w.cell? ⟨b, off + k * 2, none⟩ = some (.string p.1) ∧ w.cell? ⟨b, off + k * 2 + 1, none⟩ = some (.string p.2) := by
  obtain ⟨b, off, e, hb, hc⟩ := reads_lit h (by omega) (by have := (List.getElem?_eq_some_iff.1 hp).1; omega)
  obtain ⟨d0, d1⟩ := rwFlat_get L k p hp
  exact ⟨b, off, e, hb, hc _ _ d0, hc _ _ d1⟩
theorem et_at {w : World} {A : Option Addr} {L : List Et} (h : Reads w 2 A L.length (etFlat L)) {k : Nat} {p : Et} (hp : L[k]? = some p) : ∃ b off, A = some ⟨b, off, none⟩ ∧ b < w.heap.size ∧ w.cell? ⟨b, off + k * 2, none⟩ = some (.string p.1) ∧ w.cell? ⟨b, off + k * 2 + 1, none⟩ = some (.int .i64 p.2) := by
  obtain ⟨b, off, e, hb, hc⟩ := reads_lit h (by omega) (by have := (List.getElem?_eq_some_iff.1 hp).1; omega)
  obtain ⟨d0, d1⟩ := etFlat_get L k p hp
  exact ⟨b, off, e, hb, hc _ _ d0, hc _ _ d1⟩

end Go.Proofs.Ythcpccddcgbanaa

/- The document's SameRefs, at equal lists. -/
import Derived.Test.YtfoljojacakkeaaDoorPlA4
namespace Go.Proofs.YtfoljojacakkeaaDoor
open Go.RowKit
set_option maxRecDepth 100000
set_option linter.unusedVariables false
theorem rfFlat_len (X : List Rf) : (rfFlat X).length = X.length * 2 := by
  unfold rfFlat
  induction X with
  | nil => rfl
  | cons p t ih => simp only [List.map_cons, List.flatten_cons, List.length_append, List.length_cons, List.length_nil, rfCells] at ih ⊢; omega
theorem rfFlat_get : ∀ (X : List Rf) (k : Nat) (p : Rf), X[k]? = some p → (rfFlat X)[k * 2]? = some (.int .i64 p.1) ∧ (rfFlat X)[k * 2 + 1]? = some (.int .i64 p.2)
  | [], k, p, h => by simp at h
  | q :: X, 0, p, h => by
    obtain rfl : q = p := by simpa using h
    exact ⟨rfl, rfl⟩
  | q :: X, k + 1, p, h => by
    have := rfFlat_get X k p (by simpa using h)
    have e : ∀ j, (rfFlat (q :: X))[j + 2]? = (rfFlat X)[j]? := fun j => rfl
    exact ⟨by rw [show (k + 1) * 2 = k * 2 + 2 by omega, e]; exact this.1, by rw [show (k + 1) * 2 + 1 = k * 2 + 1 + 2 by omega, e]; exact this.2⟩
theorem rf_at {w : World} {A : Option Addr} {X : List Rf} (h : Reads w 2 A X.length (rfFlat X)) {k : Nat} {p : Rf} (hp : X[k]? = some p) : ∃ b off, A = some ⟨b, off, none⟩ ∧ b < w.heap.size ∧ w.cell? ⟨b, off + k * 2, none⟩ = some (.int .i64 p.1) ∧ w.cell? ⟨b, off + k * 2 + 1, none⟩ = some (.int .i64 p.2) := by
  obtain ⟨b, off, e, hb, hc⟩ := reads_lit h (by decide) (by have := (List.getElem?_eq_some_iff.1 hp).1; omega)
  have := rfFlat_get X k p hp
  exact ⟨b, off, e, hb, hc _ _ this.1, by have := hc _ _ this.2; rwa [← Nat.add_assoc] at this⟩
set_option maxHeartbeats 4000000 in
theorem sameRefs_ok (X : List Rf) (A B : Option Addr) (c d : Nat) (w : World) (hl : X.length ≤ 5000) (h1 : Reads w 2 A X.length (rfFlat X)) (h2 : Reads w 2 B X.length (rfFlat X)) : Calls Tryd.prog 14 #[.slice A X.length c, .slice B X.length d] w fun e w' => e = .returned (.bool true) ∧ Fr none_ w w' := by
  have H1 := hid_ h1
  have H2 := hid_ h2
  clear h1 h2
  go_enter Tryd.func14, Tryd.ntmps14
  go_wp2_with fail
  go_loopw [5] (fun i wr => ∃ k : Nat, k ≤ X.length ∧ i = .int .i64 k ∧ Fr none_ w wr) (fun i _ => X.length - (intOf i).toNat)
  case atStart => exact ⟨0, Nat.zero_le _, rfl, Fr.refl _ _⟩
  case round =>
    obtain ⟨k, hk, rfl, hfr⟩ := hrel
    have FR := hid_ hfr
    have hi0 : (0 : Int) ≤ (k : Int) := Int.natCast_nonneg _
    clear hfr
    by_cases hlt : k < X.length
    · obtain ⟨p, hp⟩ : ∃ p, X[k]? = some p := ⟨_, List.getElem?_eq_getElem hlt⟩
      obtain ⟨b1, o1, rfl, hb1, x0, x1⟩ := rf_at (H1.out.none_fr FR.out) hp
      obtain ⟨b2, o2, rfl, hb2, y0, y1⟩ := rf_at (H2.out.none_fr FR.out) hp
      have hi1 : (k : Int) < (X.length : Int) := by omega
      have hq : ∀ w', (binOp .neq 38 (.agg #[.int .i64 p.1, .int .i64 p.2]) (.agg #[.int .i64 p.1, .int .i64 p.2])).run Tryd.prog w' = .ok (.bool false) w' := fun w' => by rw [neq_ref]; simp
      clear hp
      go_wp2_with fail
      go_quiet (fail)
      go_wp2_with fail
      go_roundw
      case rel => exact ⟨k + 1, by omega, by go_num, by repeat (first | exact FR.out | apply Fr.drewN | apply Fr.drew)⟩
      case measure => simp [intOf]; omega
    · have hi1 : ¬ (k : Int) < (X.length : Int) := by omega
      go_wp2_with fail
      go_ret
      exact ⟨rfl, FR.out⟩
end Go.Proofs.YtfoljojacakkeaaDoor

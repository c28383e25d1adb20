/- Texts of one proof, merged: Awake9, Same4, Sm10. -/
import Derived.WalkSpells
import Derived.WalkLawsBesides
import Derived.Deep.QuietTactic
import Derived.BigQuiet
import Derived.Test.YtfihfjbakfadkaaDoorMcA
import Derived.Test.YtfihfjbakfadkaaDoorMcJ
import Derived.Test.YtfihfjbakfadkaaDoorMcN
import Derived.Test.YtfihfjbakfadkaaDoorMcP
import Derived.Test.YtfihfjbakfadkaaDoorMcYA
namespace Go.Proofs.YtfihfjbakfadkaaDoor
open Go.RowKit
set_option maxRecDepth 100000
set_option linter.unusedVariables false

theorem memCount_ok {m : Nat} {k : Int} {l : Lm} {x : St} (w : World) (h : Mm w m k l x) : Calls Tryd.prog 27 #[.pointer (some ⟨m, 0, none⟩)] w fun e w' => e = .returned (.int .i64 k) ∧ w = w' := by
  have c0 : w.cell? ⟨m, 0, none⟩ = some (.int .i64 k) := h.b.cell' rfl
  clear h
  go_enter Tryd.func27, Tryd.ntmps27
  go_wp2
  go_ret
  exact ⟨rfl, rfl⟩
abbrev lim9 : Lm := ⟨9, 3, 2, 4, 4, 99⟩
theorem lim9_right : lim9.Right := ⟨by decide, by decide, by decide, by decide, by decide, by decide⟩
set_option maxHeartbeats 4000000 in
theorem awake9 (w : World) : Calls Tryd.prog 7 #[] w fun e w' => e = .returned (.bool true) ∧ Fr none_ w w' := by
  go_enter Tryd.func7, Tryd.ntmps7
  go_wp2_with fail
  refine (memNew_ok lim9 _ lim9_right).mono ?_
  rintro e w1 ⟨m, a, G, vr, ve, T, H, C, M, rfl, hM, hf1, -⟩
  have M1 := hid_ hM
  have F1 := hid_ hf1
  clear hM hf1
  go_wp2_with fail
  refine (chain_ok _ M1.out 0 1 1 rfl [0] ⟨rfl, ⟨1, true, leafR, vr, ve⟩, rfl, rfl, rfl, rfl, rfl⟩ (by decide) (by decide)).mono ?_
  rintro e w2 ⟨A, c, B, d, Cs, rfl, hCs, hl, hr, -, hf2⟩
  obtain ⟨D, rfl⟩ : ∃ D, Cs = [D] := List.length_eq_one_iff.1 (by have h := congrArg List.length hCs; rw [List.length_map, List.length_map] at h; exact h)
  have hD : D.R = leafR := by simpa [recOf] using hCs
  obtain ⟨A1, c1, e1, h1, h2, h3⟩ := own_parts hl
  cases e1
  obtain ⟨B1, d1, e2, h4, h5, h6⟩ := own_parts hr
  cases e2
  obtain ⟨g, rfl, hg, hcg⟩ := h3 (by decide)
  obtain ⟨h, rfl, hh, hch⟩ := h6 (by decide)
  have k0 : w2.cell? ⟨g, 0, none⟩ = some (.int .i64 1) := hcg 0 _ (by simp [crFlat, hD])
  have k3 : w2.cell? ⟨g, 3, none⟩ = some (.bool true) := hcg 3 _ (by simp [crFlat, hD])
  have r0 : w2.cell? ⟨h, 0, none⟩ = some (.int .i64 1) := hch 0 _ (by simp [rf9Flat, refOf])
  have r1 : w2.cell? ⟨h, 1, none⟩ = some (.int .i64 1) := hch 1 _ (by simp [rf9Flat, refOf])
  have M2 := hid_ (M1.out.keep hf2)
  have F2 := hid_ (F1.out.then_none hf2)
  clear hcg hch h3 h6 hl hr hCs hD hf2 h1 h2 h4 h5
  simp only [List.length_cons, List.length_nil]
  go_wp2_with fail
  refine (memCount_ok _ M2.out).mono ?_
  rintro e w3 ⟨rfl, rfl⟩
  go_wp2_with fail
  go_ret
  exact ⟨rfl, F2.out⟩
end Go.Proofs.YtfihfjbakfadkaaDoor
namespace Go.Proofs.YtfihfjbakfadkaaDoor
open Go.RowKit
set_option maxRecDepth 100000
set_option linter.unusedVariables false

structure Sm4 (w w' : World) (R : Rc) (A B A2 B2 : Option Addr) (c d c2 d2 : Nat) : Prop where
  b0 : Blk w' w.heap.size 41 (recA R (.slice A R.rows.length c) (.slice B R.ents.length d))
  b1 : Blk w' (w.heap.size + 1) 41 (recA R (.slice A2 R.rows.length c2) (.slice B2 R.ents.length d2))
  rd : RecReads w' R A B
  rd2 : RecReads w' R A2 B2
  fr : Fr none_ w w'
theorem Sm4.keep {w w' w2 : World} {R : Rc} {A B A2 B2 : Option Addr} {c d c2 d2 : Nat} (h : Sm4 w w' R A B A2 B2 c d c2 d2) (hf : Fr none_ w' w2) : Sm4 w w2 R A B A2 B2 c d c2 d2 :=
  ⟨h.b0.fr hf id, h.b1.fr hf id, h.rd.keep hf, h.rd2.keep hf, h.fr.then_none hf⟩

end Go.Proofs.YtfihfjbakfadkaaDoor
namespace Go.Proofs.YtfihfjbakfadkaaDoor
open Go.RowKit Go.BigFrame
set_option maxRecDepth 100000
set_option linter.unusedVariables false
theorem rpFlat_get10 : ∀ (X : List (Int × Int)) (k : Nat) (p : Int × Int), X[k]? = some p → (rpFlat X)[k * 2]? = some (.int .i64 p.1) ∧ (rpFlat X)[k * 2 + 1]? = some (.int .i64 p.2)
  | [], k, p, h => by simp at h
  | q :: X, 0, p, h => by
    obtain rfl : q = p := by simpa using h
    exact ⟨rfl, rfl⟩
  | q :: X, k + 1, p, h => by
    have := rpFlat_get10 X k p (by simpa using h)
    have e : ∀ j, (rpFlat (q :: X))[j + 2]? = (rpFlat X)[j]? := fun j => rfl
    exact ⟨by rw [show (k + 1) * 2 = k * 2 + 2 by omega, e]; exact this.1, by rw [show (k + 1) * 2 + 1 = k * 2 + 1 + 2 by omega, e]; exact this.2⟩
theorem rp_at10 {w : World} {A : Option Addr} {X : List (Int × Int)} (h : Reads w 2 A X.length (rpFlat X)) {k : Nat} {p : Int × Int} (hp : X[k]? = some p) : ∃ b off, A = some ⟨b, off, none⟩ ∧ b < w.heap.size ∧ w.cell? ⟨b, off + k * 2, none⟩ = some (.int .i64 p.1) ∧ w.cell? ⟨b, off + k * 2 + 1, none⟩ = some (.int .i64 p.2) := by
  obtain ⟨b, off, e, hb, hc⟩ := reads_lit h (by decide) (by have := (List.getElem?_eq_some_iff.1 hp).1; omega)
  have := rpFlat_get10 X k p hp
  exact ⟨b, off, e, hb, hc _ _ this.1, by have := hc _ _ this.2; rwa [← Nat.add_assoc] at this⟩
set_option maxHeartbeats 4000000 in
theorem sameRefs10_ok (X : List (Int × Int)) (A B : Option Addr) (c d : Nat) (w : World) (hl : X.length ≤ 5000) (h1 : Reads w 2 A X.length (rpFlat X)) (h2 : Reads w 2 B X.length (rpFlat X)) : Calls Tryd.prog 16 #[.slice A X.length c, .slice B X.length d] w fun e w' => e = .returned (.bool true) ∧ Fr none_ w w' := by
  have H1 := hid_ h1
  have H2 := hid_ h2
  clear h1 h2
  go_enter Tryd.func16, Tryd.ntmps16
  go_wp2_with fail
  go_loopw [5] (fun i wr => ∃ k : Nat, k ≤ X.length ∧ i = .int .i64 k ∧ Fr none_ w wr) (fun i _ => X.length - (intOf i).toNat)
  case atStart => exact ⟨0, Nat.zero_le _, rfl, Fr.refl _ _⟩
  case round =>
    obtain ⟨k, hk, rfl, hfr⟩ := hrel
    have FR := hid_ hfr
    have hi0 : (0 : Int) ≤ (k : Int) := Int.natCast_nonneg _
    clear hfr
    by_cases hlt : k < X.length
    · obtain ⟨p, hp⟩ : ∃ p, X[k]? = some p := ⟨_, List.getElem?_eq_getElem hlt⟩
      obtain ⟨b1, o1, rfl, hb1, x0, x1⟩ := rp_at10 (H1.out.none_fr FR.out) hp
      obtain ⟨b2, o2, rfl, hb2, y0, y1⟩ := rp_at10 (H2.out.none_fr FR.out) hp
      have hi1 : (k : Int) < (X.length : Int) := by omega
      have hq : ∀ w', (binOp .neq 25 (.agg #[.int .i64 p.1, .int .i64 p.2]) (.agg #[.int .i64 p.1, .int .i64 p.2])).run Tryd.prog w' = .ok (.bool false) w' := fun w' => by rw [neq_ref]; simp
      clear hp
      go_wp2_with fail
      go_quiet (fail)
      go_wp2_with fail
      go_roundw
      case rel => exact ⟨k + 1, by omega, by go_num, by repeat (first | exact FR.out | apply Fr.drewN | apply Fr.drew)⟩
      case measure => simp [intOf]; omega
    · have hi1 : ¬ (k : Int) < (X.length : Int) := by omega
      go_wp2_with fail
      go_ret
      exact ⟨rfl, FR.out⟩
end Go.Proofs.YtfihfjbakfadkaaDoor

/- Layer 9's awake. -/
import Derived.Test.YtobmkolgjdgeiaaChain9
import Derived.Test.YtobmkolgjdgeiaaNob9
namespace Go.Proofs.Ytobmkolgjdgeiaa
open Go.RowKit
set_option maxRecDepth 100000
set_option linter.unusedVariables false

theorem memCount_ok {m : Nat} {k : Int} {l : Lm} {x : St} (w : World) (h : Mm w m k l x) : Calls Try.prog 27 #[.pointer (some ⟨m, 0, none⟩)] w fun e w' => e = .returned (.int .i64 k) ∧ w = w' := by
  have c0 : w.cell? ⟨m, 0, none⟩ = some (.int .i64 k) := h.b.cell' rfl
  clear h
  go_enter Try.func27, Try.ntmps27
  go_wp2
  go_ret
  exact ⟨rfl, rfl⟩
abbrev lim9 : Lm := ⟨9, 3, 2, 4, 4, 99⟩
theorem lim9_right : lim9.Right := ⟨by decide, by decide, by decide, by decide, by decide, by decide⟩
set_option maxHeartbeats 4000000 in
theorem awake9 (w : World) : Calls Try.prog 7 #[] w fun e w' => e = .returned (.bool true) ∧ Fr none_ w w' := by
  go_enter Try.func7, Try.ntmps7
  go_wp2_with fail
  refine (memNew_ok lim9 _ lim9_right).mono ?_
  rintro e w1 ⟨m, a, G, vr, ve, T, H, C, M, rfl, hM, hf1, -⟩
  have M1 := hid_ hM
  have F1 := hid_ hf1
  clear hM hf1
  go_wp2_with fail
  refine (chain_ok _ M1.out 0 1 1 rfl [0] ⟨rfl, ⟨1, true, leafR, vr, ve⟩, rfl, rfl, rfl, rfl, rfl⟩ (by decide) (by decide)).mono ?_
  rintro e w2 ⟨A, c, B, d, Cs, rfl, hCs, hl, hr, -, hf2⟩
  obtain ⟨D, rfl⟩ : ∃ D, Cs = [D] := List.length_eq_one_iff.1 (by have h := congrArg List.length hCs; rw [List.length_map, List.length_map] at h; exact h)
  have hD : D.R = leafR := by simpa [recOf] using hCs
  obtain ⟨A1, c1, e1, h1, h2, h3⟩ := own_parts hl
  cases e1
  obtain ⟨B1, d1, e2, h4, h5, h6⟩ := own_parts hr
  cases e2
  obtain ⟨g, rfl, hg, hcg⟩ := h3 (by decide)
  obtain ⟨h, rfl, hh, hch⟩ := h6 (by decide)
  have k0 : w2.cell? ⟨g, 0, none⟩ = some (.int .i64 1) := hcg 0 _ (by simp [crFlat, hD])
  have k3 : w2.cell? ⟨g, 3, none⟩ = some (.bool true) := hcg 3 _ (by simp [crFlat, hD])
  have r0 : w2.cell? ⟨h, 0, none⟩ = some (.int .i64 1) := hch 0 _ (by simp [rf9Flat, refOf])
  have r1 : w2.cell? ⟨h, 1, none⟩ = some (.int .i64 1) := hch 1 _ (by simp [rf9Flat, refOf])
  have M2 := hid_ (M1.out.keep hf2)
  have F2 := hid_ (F1.out.then_none hf2)
  clear hcg hch h3 h6 hl hr hCs hD hf2 h1 h2 h4 h5
  simp only [List.length_cons, List.length_nil]
  go_wp2_with fail
  refine (memCount_ok _ M2.out).mono ?_
  rintro e w3 ⟨rfl, rfl⟩
  go_wp2_with fail
  go_ret
  exact ⟨rfl, F2.out⟩
end Go.Proofs.Ytobmkolgjdgeiaa

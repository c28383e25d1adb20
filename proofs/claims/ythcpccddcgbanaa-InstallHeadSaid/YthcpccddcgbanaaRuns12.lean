/- An installer that runs alone. Written by gen_ins9.py. -/
import Derived.Test.YthcpccddcgbanaaStepJ12
namespace Go.Proofs.Ythcpccddcgbanaa
open Go.RowKit
set_option maxRecDepth 100000
set_option linter.unusedVariables false

inductive Steps (n : Int) (J : Jd) : Nat → Dt → St → Dt → St → Prop
  | none (D : Dt) (x : St) : Steps n J 0 D x D x
  | one {z : Nat} {D D1 D2 : Dt} {x x1 x2 : St} (h : Steps n J z D x D1 x1) (hs : D1.stage ≠ 7) (h1 : StepR n J D1 x1 D2 x2) : Steps n J (z + 1) D x D2 x2
theorem Steps.left {n : Int} {J : Jd} {z : Nat} {D D' : Dt} {x x' : St} (h : Steps n J z D x D' x') : DOk D → DOk D' ∧ left12 D' + z ≤ left12 D := by
  induction h with
  | none D x => exact fun h => ⟨h, by simp⟩
  | one h hs h1 ih =>
    intro hD
    obtain ⟨i1, i2⟩ := ih hD
    have := left12_step i1 h1
    exact ⟨i1.step h1, by omega⟩
theorem left12_pos {D : Dt} (h : DOk D) (hs : D.stage ≠ 7) : 1 ≤ left12 D := by
  rcases Int.lt_or_le 0 (left12 D) with h1 | h1
  · omega
  · exact absurd (left12_zero h h1) hs
/-- How a run leaves an installer and what is round it. -/
structure Ran (W w : World) (m : Nat) (k : Int) (l : Lm) (x : St) (B i : Nat) (D : Dt) (a : Ia) (J : Jd) (q : Jl) (z : Nat) (D' : Dt) (x' : St) (a' : Ia) (c' : Int) (w' : World) : Prop where
  e : Env W w' m (k + z) l x' B i D' a' J q c'
  s : Steps l.n J z D x D' x'
  f : Fr (mfc m x i a q.cab) w w'
  fl : FootLe i a a' w
  sm : x'.a = x.a ∧ x'.G = x.G ∧ x'.T = x.T ∧ x'.H = x.H ∧ x'.C = x.C ∧ x'.M = x.M
theorem Ran.next {W w w1 w2 : World} {m : Nat} {k : Int} {l : Lm} {x x1 x2 : St} {B i : Nat} {D D1 D2 : Dt} {a a1 a2 : Ia} {J : Jd} {q : Jl} {z : Nat} {c1 c2 : Int} (h : Ran W w m k l x B i D a J q z D1 x1 a1 c1 w1) (hs : D1.stage ≠ 7) (h1 : StepR l.n J D1 x1 D2 x2) (hb : Behind W w1 m (k + z) l x1 x2 B i D2 a1 a2 J q c2 w2) (hk : k + z + 1 ≤ 100000) : Ran W w m k l x B i D a J q (z + 1) D2 x2 a2 c2 w2 := by
  have hsz := h.f.size
  refine ⟨?_, .one h.s hs h1, h.f.trans hb.f (fun _ _ => id) (fun g hg e => ?_), h.fl.trans hb.fl hsz, ?_⟩
  · have := h.e.next h1 hb hk
    rw [show k + ((z + 1 : Nat) : Int) = k + z + 1 by omega]
    exact this
  · rcases e with e | e | e
    · exact .inl (by rw [mall_same h.sm] at e; exact e)
    · rcases h.fl g e with e | e
      · exact .inr (.inl e)
      · omega
    · exact .inr (.inr e)
  · obtain ⟨a1, a2, a3, a4, a5, a6⟩ := h.sm
    obtain ⟨b1, b2, b3, b4, b5, b6⟩ := hb.sm
    exact ⟨b1.trans a1, b2.trans a2, b3.trans a3, b4.trans a4, b5.trans a5, b6.trans a6⟩
theorem Ran.none {W w : World} {m : Nat} {k : Int} {l : Lm} {x : St} {B i : Nat} {D : Dt} {a : Ia} {J : Jd} {q : Jl} {c0 : Int} (h : Env W w m k l x B i D a J q c0) : Ran W w m k l x B i D a J q 0 D x a c0 w :=
  ⟨by simpa using h, .none _ _, Fr.refl _ _, FootLe.refl _ _ _, rfl, rfl, rfl, rfl, rfl, rfl⟩
def RunsP (W : World) (m : Nat) (k : Int) (l : Lm) (x : St) (B i : Nat) (D : Dt) (a : Ia) (J : Jd) (q : Jl) (w : World) (e : Ending) (w' : World) : Prop :=
  ∃ n z D' x' a' c', e = .returned (.tuple #[.int .i64 n, .bool true]) ∧ D'.stage = 7 ∧ z ≤ 24 ∧ Ran W w m k l x B i D a J q z D' x' a' c' w'
set_option maxHeartbeats 8000000 in
theorem runs_ok {W w : World} {m : Nat} {k : Int} {l : Lm} {x : St} {B i : Nat} {D : Dt} {a : Ia} {J : Jd} {q : Jl} {c0 : Int} (h : Env W w m k l x B i D a J q c0) (hk : k ≤ 99000) :
    Calls Try.prog 14 #[.pointer (some ⟨i, 0, none⟩), .pointer (some ⟨m, 0, none⟩)] w (RunsP W m k l x B i D a J q w) := by
  have H := hid_ h
  clear h
  go_enter Try.func14, Try.ntmps14
  go_wp2_with fail
  refine (memCount12 _ H.out.M).mono ?_
  rintro e w1 ⟨rfl, rfl⟩
  go_wp2_with fail
  go_loopw [9] (fun u wr => ∃ (z : Nat) (D' : Dt) (x' : St) (a' : Ia) (c' : Int), u = .int .i64 z ∧ z ≤ 24 ∧ (z = 0 ∨ D'.stage ≠ 7) ∧ Ran W w m k l x B i D a J q z D' x' a' c' wr) (fun u _ => 40 - (intOf u).toNat)
  case atStart => exact ⟨0, D, x, a, c0, rfl, by omega, .inl rfl, Ran.none H.out⟩
  case round =>
    obtain ⟨z, D1, x1, a1, c1, rfl, hz, hz7, hR⟩ := hrel
    have R := hid_ hR
    have Z7 := hid_ hz7
    clear hR hz7
    have hi0 : (0 : Int) ≤ (z : Int) := Int.natCast_nonneg _
    have hi1 : decide ((z : Int) < 40) = true := by simp; omega
    by_cases h7 : D1.stage = 7
    · have S7 := hid_ h7
      have d7 : (D1.stage == 7) = true := by simp [h7]
      clear h7
      go_wp2_with fail
      refine (step_over _ R.out.e.I S7.out).mono ?_
      rintro e w2 ⟨rfl, rfl⟩
      go_wp2_with fail
      refine (memCount12 _ R.out.e.M).mono ?_
      rintro e w2 ⟨rfl, rfl⟩
      go_wp2_with fail
      refine (over_ok R.out.e.I).mono ?_
      rintro e w2 ⟨rfl, rfl⟩
      go_wp2_with fail
      go_ret2
      exact ⟨_, z, D1, x1, a1, c1, rfl, S7.out, hz, R.out⟩
    · have S7 := hid_ h7
      clear h7
      have HLD := hid_ (show (z : Int) + 1 ≤ 24 by
        obtain ⟨l1, l2⟩ := R.out.s.left H.out.d
        have l3 := (left12_ge D H.out.d).2
        have l4 := left12_pos l1 S7.out
        omega)
      go_wp2_with fail
      refine (step_any R.out.e S7.out).mono ?_
      rintro e w2 ⟨D2, x2, a2, c2, rfl, hS, hC, hB⟩
      have R2 := hid_ (R.out.next S7.out hS hB (by have := H.out.k0; omega))
      clear hS hC hB
      by_cases h8 : D2.stage = 7
      · have S8 := hid_ h8
        have d8 : (D2.stage == 7) = true := by simp [h8]
        clear h8
        go_wp2_with fail
        refine (memCount12 _ R2.out.e.M).mono ?_
        rintro e w2 ⟨rfl, rfl⟩
        go_wp2_with fail
        refine (over_ok R2.out.e.I).mono ?_
        rintro e w2 ⟨rfl, rfl⟩
        go_wp2_with fail
        go_ret2
        exact ⟨_, z + 1, D2, x2, a2, c2, rfl, S8.out, by have := HLD.out; omega, R2.out⟩
      · have S8 := hid_ h8
        have d8 : (D2.stage == 7) = false := by simp [h8]
        clear h8
        go_wp2_with fail
        go_roundw
        case rel => exact ⟨z + 1, D2, x2, a2, c2, by go_num, by have := HLD.out; omega, .inr S8.out, R2.out⟩
        case measure => simp [intOf]; omega
end Go.Proofs.Ythcpccddcgbanaa

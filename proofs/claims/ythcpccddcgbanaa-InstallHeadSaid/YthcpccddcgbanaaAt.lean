/- at, Load, Free, by contracts. -/
import Derived.Test.YthcpccddcgbanaaAr
import Derived.Deep.MidRow
namespace Go.Proofs.Ythcpccddcgbanaa
open Go.RowKit
set_option maxRecDepth 100000
set_option linter.unusedVariables false

/-- What at says of a ref: 0, it is live; 1, it is no slot's; 4, it is stale. -/
def atC (ss : List Sl) (sl gn : Int) : Int :=
  if sl < 1 ∨ (ss.length : Int) < sl then 1 else
  match ss[(sl - 1).toNat]? with
  | some s => if s.used = true ∧ s.gen = gn then 0 else 4
  | none => 1
theorem atC_cases (ss : List Sl) (sl gn : Int) : (atC ss sl gn = 1 ∧ (sl < 1 ∨ (ss.length : Int) < sl)) ∨ ∃ (i : Nat) (s : Sl), sl = (i : Int) + 1 ∧ ss[i]? = some s ∧ ((atC ss sl gn = 4 ∧ ¬ (s.used = true ∧ s.gen = gn)) ∨ (atC ss sl gn = 0 ∧ s.used = true ∧ s.gen = gn)) := by
  unfold atC
  by_cases h : sl < 1 ∨ (ss.length : Int) < sl
  · exact .inl ⟨if_pos h, h⟩
  · rw [if_neg h]
    have hl : (sl - 1).toNat < ss.length := by omega
    refine .inr ⟨(sl - 1).toNat, ss[(sl - 1).toNat], by omega, List.getElem?_eq_getElem hl, ?_⟩
    rw [List.getElem?_eq_getElem hl]
    by_cases h2 : ss[(sl - 1).toNat].used = true ∧ ss[(sl - 1).toNat].gen = gn
    · exact .inr ⟨if_pos h2, h2⟩
    · exact .inl ⟨if_neg h2, h2⟩

section
variable (w : World) (a G : Nat) (last : Int) (ss : List Sl) (sl gn : Int)
theorem arAt_nil : Calls Try.prog 58 #[.pointer none, .agg #[.int .i64 sl, .int .i64 gn]] w fun e w' => e = .returned (.tuple #[.pointer none, errV 1]) ∧ Fr none_ w w' := by
  have F0 := hid_ ((Fr.refl none_ w).alloc (.cells #[.int .i64 sl, .int .i64 gn] 34))
  go_enter Try.func58, Try.ntmps58
  go_wp2_with fail
  go_quiet (fail)
  have FQ := hid_ (F0.out.drewN nq)
  go_wp2
  go_ret2
  exact ⟨rfl, FQ.out⟩
variable {w a G last ss}
theorem at_arg1 (h : Ar w a G last ss) (h1 : sl < 1) : Calls Try.prog 58 #[.pointer (some ⟨a, 0, none⟩), .agg #[.int .i64 sl, .int .i64 gn]] w fun e w' => e = .returned (.tuple #[.pointer none, errV 1]) ∧ Fr none_ w w' := by
  have F0 := hid_ ((Fr.refl none_ w).alloc (.cells #[.int .i64 sl, .int .i64 gn] 34))
  have h1 : decide (sl < 1) = true := by simpa using h1
  clear h
  go_enter Try.func58, Try.ntmps58
  go_wp2_with fail
  go_quiet (fail)
  have FQ := hid_ (F0.out.drewN nq)
  go_wp2
  go_ret2
  exact ⟨rfl, FQ.out⟩
theorem at_arg2 (h : Ar w a G last ss) (h1 : ¬ sl < 1) (h2 : (ss.length : Int) < sl) : Calls Try.prog 58 #[.pointer (some ⟨a, 0, none⟩), .agg #[.int .i64 sl, .int .i64 gn]] w fun e w' => e = .returned (.tuple #[.pointer none, errV 1]) ∧ Fr none_ w w' := by
  have F0 := hid_ ((Fr.refl none_ w).alloc (.cells #[.int .i64 sl, .int .i64 gn] 34))
  have h1 : decide (sl < 1) = false := by simpa using h1
  have h2 : decide ((ss.length : Int) < sl) = true := by simpa using h2
  have lA := h.ltA
  have lA1 : a < w.heap.size + 1 := by omega
  have c0 : w.cell? ⟨a, 0, none⟩ = some (.slice (some ⟨G, 0, none⟩) ss.length ss.length) := h.hA.cell' rfl
  clear h
  go_enter Try.func58, Try.ntmps58
  go_wp2_with fail
  go_quiet (fail)
  have FQ := hid_ (F0.out.drewN nq)
  go_wp2
  go_ret2
  exact ⟨rfl, FQ.out⟩
theorem at_stale {i : Nat} {s : Sl} (h : Ar w a G last ss) (hs : ss[i]? = some s) (hi : sl = (i : Int) + 1) (hb : ¬ (s.used = true ∧ s.gen = gn)) : Calls Try.prog 58 #[.pointer (some ⟨a, 0, none⟩), .agg #[.int .i64 sl, .int .i64 gn]] w fun e w' => e = .returned (.tuple #[.pointer none, errV 4]) ∧ Fr none_ w w' := by
  have hlen := h.len
  have hlt := (List.getElem?_eq_some_iff.1 hs).1
  obtain ⟨w0, hw0⟩ : ∃ w0, w0 = w.alloc (.cells #[.int .i64 sl, .int .i64 gn] 34) := ⟨_, rfl⟩
  have f0 : Fr none_ w w0 := by rw [hw0]; exact (Fr.refl none_ w).alloc _
  have F0 := hid_ f0
  have X0 := h.keep f0
  have p0 : Blk w0 w.heap.size 34 #[.int .i64 sl, .int .i64 gn] := by rw [hw0]; exact Blk.new w _ _
  have x0 : w0.cell? ⟨w.heap.size, 0, none⟩ = some (.int .i64 sl) := p0.cell' rfl
  have x1 : w0.cell? ⟨w.heap.size, 1, none⟩ = some (.int .i64 gn) := p0.cell' rfl
  have h1 : decide (sl < 1) = false := by simp; omega
  have h2 : decide ((ss.length : Int) < sl) = false := by simp; omega
  have hw : IntKind.i64.wrap (sl - 1) = (i : Int) := by rw [show sl - 1 = (i : Int) by omega]; exact IntWalk.i64_in _ (by omega)
  have hi0 : (0 : Int) ≤ (i : Int) := Int.natCast_nonneg _
  have hi1 : (i : Int) < (ss.length : Int) := by omega
  have c0 : w0.cell? ⟨a, 0, none⟩ = some (.slice (some ⟨G, 0, none⟩) ss.length ss.length) := X0.hA.cell' rfl
  have g0 : w0.cell? ⟨G, i * 17, none⟩ = some (.int .i64 s.gen) := X0.cell hs 0 rfl
  have lA := h.ltA
  have lA1 : a < w.heap.size + 1 := by omega
  cases hu : s.used with
  | false =>
    have g1 : w0.cell? ⟨G, i * 17 + 1, none⟩ = some (.bool false) := by rw [← hu]; exact X0.cell hs 1 rfl
    clear h hi f0 hb X0 p0 hs hlt
    go_enter Try.func58, Try.ntmps58
    go_wp2_with fail
    change Code.wp _ _ _ _ (w.alloc (.cells #[.int .i64 sl, .int .i64 gn] 34))
    rw [← hw0]
    clear hw0
    go_quiet (fail)
    go_wp2_with fail
    go_quiet (fail)
    go_wp2_with fail
    go_quiet (fail)
    go_wp2
    go_ret2
    exact ⟨rfl, by repeat (first | exact F0.out | apply Fr.drewN | apply Fr.drew)⟩
  | true =>
    have g1 : w0.cell? ⟨G, i * 17 + 1, none⟩ = some (.bool true) := by rw [← hu]; exact X0.cell hs 1 rfl
    have hg : (s.gen == gn) = false := by
      have : s.gen ≠ gn := fun e => hb ⟨hu, e⟩
      simpa using this
    clear h hi f0 hb X0 p0 hs hlt
    go_enter Try.func58, Try.ntmps58
    go_wp2_with fail
    change Code.wp _ _ _ _ (w.alloc (.cells #[.int .i64 sl, .int .i64 gn] 34))
    rw [← hw0]
    clear hw0
    go_quiet (fail)
    go_wp2_with fail
    go_quiet (fail)
    go_wp2_with fail
    go_quiet (fail)
    go_wp2
    go_ret2
    exact ⟨rfl, by repeat (first | exact F0.out | apply Fr.drewN | apply Fr.drew)⟩
theorem at_ok {i : Nat} {s : Sl} (h : Ar w a G last ss) (hs : ss[i]? = some s) (hi : sl = (i : Int) + 1) (hu : s.used = true) (hg : s.gen = gn) : Calls Try.prog 58 #[.pointer (some ⟨a, 0, none⟩), .agg #[.int .i64 sl, .int .i64 gn]] w fun e w' => e = .returned (.tuple #[.pointer (some ⟨G, i * 17, none⟩), .nilIface]) ∧ Fr none_ w w' := by
  have hlen := h.len
  have hlt := (List.getElem?_eq_some_iff.1 hs).1
  obtain ⟨w0, hw0⟩ : ∃ w0, w0 = w.alloc (.cells #[.int .i64 sl, .int .i64 gn] 34) := ⟨_, rfl⟩
  have f0 : Fr none_ w w0 := by rw [hw0]; exact (Fr.refl none_ w).alloc _
  have F0 := hid_ f0
  have X0 := h.keep f0
  have p0 : Blk w0 w.heap.size 34 #[.int .i64 sl, .int .i64 gn] := by rw [hw0]; exact Blk.new w _ _
  have x0 : w0.cell? ⟨w.heap.size, 0, none⟩ = some (.int .i64 sl) := p0.cell' rfl
  have x1 : w0.cell? ⟨w.heap.size, 1, none⟩ = some (.int .i64 gn) := p0.cell' rfl
  have h1 : decide (sl < 1) = false := by simp; omega
  have h2 : decide ((ss.length : Int) < sl) = false := by simp; omega
  have hw : IntKind.i64.wrap (sl - 1) = (i : Int) := by rw [show sl - 1 = (i : Int) by omega]; exact IntWalk.i64_in _ (by omega)
  have hi0 : (0 : Int) ≤ (i : Int) := Int.natCast_nonneg _
  have hi1 : (i : Int) < (ss.length : Int) := by omega
  have c0 : w0.cell? ⟨a, 0, none⟩ = some (.slice (some ⟨G, 0, none⟩) ss.length ss.length) := X0.hA.cell' rfl
  have g0 : w0.cell? ⟨G, i * 17, none⟩ = some (.int .i64 gn) := by rw [← hg]; exact X0.cell hs 0 rfl
  have g1 : w0.cell? ⟨G, i * 17 + 1, none⟩ = some (.bool true) := by rw [← hu]; exact X0.cell hs 1 rfl
  have lA := h.ltA
  have lA1 : a < w.heap.size + 1 := by omega
  clear h hi f0 X0 p0 hs hlt
  go_enter Try.func58, Try.ntmps58
  go_wp2_with fail
  change Code.wp _ _ _ _ (w.alloc (.cells #[.int .i64 sl, .int .i64 gn] 34))
  rw [← hw0]
  clear hw0
  go_quiet (fail)
  go_wp2_with fail
  go_quiet (fail)
  go_wp2_with fail
  go_quiet (fail)
  go_wp2
  go_ret2
  exact ⟨rfl, by repeat (first | exact F0.out | apply Fr.drewN | apply Fr.drew)⟩
/-- at where it tells an error. -/
theorem at_bad (h : Ar w a G last ss) (hb : atC ss sl gn ≠ 0) : Calls Try.prog 58 #[.pointer (some ⟨a, 0, none⟩), .agg #[.int .i64 sl, .int .i64 gn]] w fun e w' => e = .returned (.tuple #[.pointer none, errV (atC ss sl gn)]) ∧ Fr none_ w w' := by
  rcases atC_cases ss sl gn with ⟨e, h1⟩ | ⟨i, s, hi, hs, ⟨e, hn⟩ | ⟨e, _⟩⟩
  · rw [e]
    by_cases h2 : sl < 1
    · exact at_arg1 sl gn h h2
    · exact at_arg2 sl gn h h2 (by omega)
  · rw [e]
    exact at_stale sl gn h hs hi hn
  · exact absurd e hb
end
end Go.Proofs.Ythcpccddcgbanaa

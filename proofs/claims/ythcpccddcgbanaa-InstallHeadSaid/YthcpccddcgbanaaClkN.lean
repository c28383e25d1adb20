/- (first part) Contracts of package epoch's Clock: a clock in memory is its three numbers and a map of its own. -/
import Derived.Test.YthcpccddcgbanaaErr
import Derived.Maps.OwnOps
import Derived.Maps.OwnSet
import Derived.Maps.RangeWalk
import Derived.IntWalk
namespace Go.Proofs.Ythcpccddcgbanaa
open Go.RowKit
open Go.Maps (Keyed int_keyed keyOf_int_mk)
set_option maxRecDepth 100000
set_option linter.unusedVariables false

/-- What is kept of where threads are inside. -/
abbrev Ins := DataW Unit
abbrev kOf (t : Int) : Lit := .int .i64 t
theorem int_law : Keyed Try.prog 3 := int_keyed Try.underlying3
theorem zero_int (w : World) : (zeroValue 3).run Try.prog w = .ok (.int .i64 0) w := by kernel_rfl

structure Clk (w : World) (C M : Nat) (now last threads : Int) (n : Nat) (D : Ins) : Prop where
  hC : Blk w C 110 #[.int .i64 now, .int .i64 last, .int .i64 threads, .map (some M)]
  hM : w.ownsMap Try.prog 3 (plainElem (H := Unit) Try.prog 3) M n D

theorem map_fr {w w' : World} {S : Nat → Prop} {M n : Nat} {D : Ins} (h : w.ownsMap Try.prog 3 (plainElem (H := Unit) Try.prog 3) M n D) (hf : Fr S w w') (hS : ¬ S M) : w'.ownsMap Try.prog 3 (plainElem (H := Unit) Try.prog 3) M n D := by
  have hl := h.lt
  obtain ⟨es, clock, hb, r⟩ := h
  exact ⟨es, clock, (hf.block M hl hS).trans hb, r⟩
theorem Clk.fr {w w' : World} {S : Nat → Prop} {C M n : Nat} {now last threads : Int} {D : Ins} (h : Clk w C M now last threads n D) (hf : Fr S w w') (hC : ¬ S C) (hM : ¬ S M) : Clk w' C M now last threads n D :=
  ⟨h.hC.fr hf hC, map_fr h.hM hf hM⟩
theorem Clk.ne {w : World} {C M n : Nat} {now last threads : Int} {D : Ins} (h : Clk w C M now last threads n D) : C ≠ M := by
  rintro rfl
  obtain ⟨es, clock, hb, r⟩ := h.hM
  have := h.hC
  unfold Blk at this
  rw [this] at hb
  cases hb

def NewClk (threads last : Int) (w : World) (e : Ending) (w' : World) : Prop :=
  ∃ C M, e = .returned (.pointer (some ⟨C, 0, none⟩)) ∧ Clk w' C M 1 last threads 0 (.map []) ∧ Fr none_ w w' ∧ w.heap.size ≤ C ∧ w.heap.size ≤ M

set_option maxHeartbeats 1000000 in
theorem clkNew_ok (threads last : Int) (w : World) (h1 : 1 ≤ threads) (h2 : threads ≤ 64) (h3 : 1 ≤ last) (h4 : last ≤ 1099511627776) : Calls Try.prog 32 #[.int .i64 threads, .int .i64 last] w (NewClk threads last w) := by
  have hmm := @run_makeMap Try.prog
  have d1 : decide (threads < 1) = false := by simp; omega
  have d2 : decide (64 < threads) = false := by simp; omega
  have d3 : decide (last < 1) = false := by simp; omega
  go_enter Try.func32, Try.ntmps32
  go_wp2_with fail
  go_ret
  refine ⟨w.heap.size + 1, w.heap.size, rfl, ⟨?_, (World.ownsMap_made w _ _ _).alloc _⟩, ((Fr.refl none_ w).alloc _).alloc _, by omega, Nat.le_refl _⟩
  have := Blk.new (w.alloc (.map #[] 0)) 110 #[.int .i64 1, .int .i64 last, .int .i64 threads, .map (some w.heap.size)]
  simpa using this

theorem clkNew_no (threads last : Int) (w : World) (h : threads < 1 ∨ 64 < threads ∨ last < 1 ∨ 1099511627776 < last) : Calls Try.prog 32 #[.int .i64 threads, .int .i64 last] w fun e w' => e = .returned (.pointer none) ∧ w = w' := by
  by_cases h1 : threads < 1
  · clear h
    go_enter Try.func32, Try.ntmps32
    go_wp2
    go_ret
    exact ⟨rfl, rfl⟩
  by_cases h2 : 64 < threads
  · clear h
    go_enter Try.func32, Try.ntmps32
    go_wp2
    go_ret
    exact ⟨rfl, rfl⟩
  by_cases h3 : last < 1
  · clear h
    go_enter Try.func32, Try.ntmps32
    go_wp2
    go_ret
    exact ⟨rfl, rfl⟩
  have h4 : 1099511627776 < last := by omega
  clear h
  go_enter Try.func32, Try.ntmps32
  go_wp2
  go_ret
  exact ⟨rfl, rfl⟩
end Go.Proofs.Ythcpccddcgbanaa

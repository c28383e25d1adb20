/- rowlockref09.Right, at any limits. (Out of XFew9.) -/
import Derived.Test.YthcpccddcgbanaaMem9
namespace Go.Proofs.Ythcpccddcgbanaa
open Go.RowKit
set_option maxRecDepth 100000
set_option linter.unusedVariables false

set_option maxHeartbeats 4000000 in
theorem rright12 (s p t r c n : Int) (w : World) : Calls Try.prog 26 #[.agg #[.int .i64 s, .int .i64 p, .int .i64 t, .int .i64 r, .int .i64 c, .int .i64 n]] w fun e w' => e = .returned (.bool (decide (4 ≤ s ∧ s ≤ 4096 ∧ 3 ≤ p ∧ p ≤ 256 ∧ 1 ≤ t ∧ t ≤ 64 ∧ 2 ≤ r ∧ r ≤ 64 ∧ 2 ≤ c ∧ c ≤ 64 ∧ 8 ≤ n ∧ n ≤ 1099511627776))) ∧ Fr none_ w w' := by
  by_cases g0 : s < 4
  · have E : decide (4 ≤ s ∧ s ≤ 4096 ∧ 3 ≤ p ∧ p ≤ 256 ∧ 1 ≤ t ∧ t ≤ 64 ∧ 2 ≤ r ∧ r ≤ 64 ∧ 2 ≤ c ∧ c ≤ 64 ∧ 8 ≤ n ∧ n ≤ 1099511627776) = false := decide_eq_false (by omega)
    have d0 : decide (s < 4) = true := by simp; omega
    clear g0
    rw [E]
    go_enter Try.func26, Try.ntmps26
    go_wp2
    go_ret
    exact ⟨rfl, (Fr.refl none_ w).alloc _⟩
  have d0 : decide (s < 4) = false := by simp; omega
  by_cases g1 : 4096 < s
  · have E : decide (4 ≤ s ∧ s ≤ 4096 ∧ 3 ≤ p ∧ p ≤ 256 ∧ 1 ≤ t ∧ t ≤ 64 ∧ 2 ≤ r ∧ r ≤ 64 ∧ 2 ≤ c ∧ c ≤ 64 ∧ 8 ≤ n ∧ n ≤ 1099511627776) = false := decide_eq_false (by omega)
    have d1 : decide (4096 < s) = true := by simp; omega
    clear g1
    clear g0
    rw [E]
    go_enter Try.func26, Try.ntmps26
    go_wp2
    go_ret
    exact ⟨rfl, (Fr.refl none_ w).alloc _⟩
  have d1 : decide (4096 < s) = false := by simp; omega
  by_cases g2 : p < 3
  · have E : decide (4 ≤ s ∧ s ≤ 4096 ∧ 3 ≤ p ∧ p ≤ 256 ∧ 1 ≤ t ∧ t ≤ 64 ∧ 2 ≤ r ∧ r ≤ 64 ∧ 2 ≤ c ∧ c ≤ 64 ∧ 8 ≤ n ∧ n ≤ 1099511627776) = false := decide_eq_false (by omega)
    have d2 : decide (p < 3) = true := by simp; omega
    clear g2
    clear g0
    clear g1
    rw [E]
    go_enter Try.func26, Try.ntmps26
    go_wp2
    go_ret
    exact ⟨rfl, (Fr.refl none_ w).alloc _⟩
  have d2 : decide (p < 3) = false := by simp; omega
  by_cases g3 : 256 < p
  · have E : decide (4 ≤ s ∧ s ≤ 4096 ∧ 3 ≤ p ∧ p ≤ 256 ∧ 1 ≤ t ∧ t ≤ 64 ∧ 2 ≤ r ∧ r ≤ 64 ∧ 2 ≤ c ∧ c ≤ 64 ∧ 8 ≤ n ∧ n ≤ 1099511627776) = false := decide_eq_false (by omega)
    have d3 : decide (256 < p) = true := by simp; omega
    clear g3
    clear g0
    clear g1
    clear g2
    rw [E]
    go_enter Try.func26, Try.ntmps26
    go_wp2
    go_ret
    exact ⟨rfl, (Fr.refl none_ w).alloc _⟩
  have d3 : decide (256 < p) = false := by simp; omega
  by_cases g4 : t < 1
  · have E : decide (4 ≤ s ∧ s ≤ 4096 ∧ 3 ≤ p ∧ p ≤ 256 ∧ 1 ≤ t ∧ t ≤ 64 ∧ 2 ≤ r ∧ r ≤ 64 ∧ 2 ≤ c ∧ c ≤ 64 ∧ 8 ≤ n ∧ n ≤ 1099511627776) = false := decide_eq_false (by omega)
    have d4 : decide (t < 1) = true := by simp; omega
    clear g4
    clear g0
    clear g1
    clear g2
    clear g3
    rw [E]
    go_enter Try.func26, Try.ntmps26
    go_wp2
    go_ret
    exact ⟨rfl, (Fr.refl none_ w).alloc _⟩
  have d4 : decide (t < 1) = false := by simp; omega
  by_cases g5 : 64 < t
  · have E : decide (4 ≤ s ∧ s ≤ 4096 ∧ 3 ≤ p ∧ p ≤ 256 ∧ 1 ≤ t ∧ t ≤ 64 ∧ 2 ≤ r ∧ r ≤ 64 ∧ 2 ≤ c ∧ c ≤ 64 ∧ 8 ≤ n ∧ n ≤ 1099511627776) = false := decide_eq_false (by omega)
    have d5 : decide (64 < t) = true := by simp; omega
    clear g5
    clear g0
    clear g1
    clear g2
    clear g3
    clear g4
    rw [E]
    go_enter Try.func26, Try.ntmps26
    go_wp2
    go_ret
    exact ⟨rfl, (Fr.refl none_ w).alloc _⟩
  have d5 : decide (64 < t) = false := by simp; omega
  by_cases g6 : r < 2
  · have E : decide (4 ≤ s ∧ s ≤ 4096 ∧ 3 ≤ p ∧ p ≤ 256 ∧ 1 ≤ t ∧ t ≤ 64 ∧ 2 ≤ r ∧ r ≤ 64 ∧ 2 ≤ c ∧ c ≤ 64 ∧ 8 ≤ n ∧ n ≤ 1099511627776) = false := decide_eq_false (by omega)
    have d6 : decide (2 ≤ r) = false := by simp; omega
    clear g6
    clear g0
    clear g1
    clear g2
    clear g3
    clear g4
    clear g5
    rw [E]
    go_enter Try.func26, Try.ntmps26
    go_wp2
    go_ret
    exact ⟨rfl, (Fr.refl none_ w).alloc _⟩
  have d6 : decide (2 ≤ r) = true := by simp; omega
  by_cases g7 : 64 < r
  · have E : decide (4 ≤ s ∧ s ≤ 4096 ∧ 3 ≤ p ∧ p ≤ 256 ∧ 1 ≤ t ∧ t ≤ 64 ∧ 2 ≤ r ∧ r ≤ 64 ∧ 2 ≤ c ∧ c ≤ 64 ∧ 8 ≤ n ∧ n ≤ 1099511627776) = false := decide_eq_false (by omega)
    have d7 : decide (r ≤ 64) = false := by simp; omega
    clear g7
    clear g0
    clear g1
    clear g2
    clear g3
    clear g4
    clear g5
    clear g6
    rw [E]
    go_enter Try.func26, Try.ntmps26
    go_wp2
    go_ret
    exact ⟨rfl, (Fr.refl none_ w).alloc _⟩
  have d7 : decide (r ≤ 64) = true := by simp; omega
  by_cases g8 : c < 2
  · have E : decide (4 ≤ s ∧ s ≤ 4096 ∧ 3 ≤ p ∧ p ≤ 256 ∧ 1 ≤ t ∧ t ≤ 64 ∧ 2 ≤ r ∧ r ≤ 64 ∧ 2 ≤ c ∧ c ≤ 64 ∧ 8 ≤ n ∧ n ≤ 1099511627776) = false := decide_eq_false (by omega)
    have d8 : decide (2 ≤ c) = false := by simp; omega
    clear g8
    clear g0
    clear g1
    clear g2
    clear g3
    clear g4
    clear g5
    clear g6
    clear g7
    rw [E]
    go_enter Try.func26, Try.ntmps26
    go_wp2
    go_ret
    exact ⟨rfl, (Fr.refl none_ w).alloc _⟩
  have d8 : decide (2 ≤ c) = true := by simp; omega
  by_cases g9 : 64 < c
  · have E : decide (4 ≤ s ∧ s ≤ 4096 ∧ 3 ≤ p ∧ p ≤ 256 ∧ 1 ≤ t ∧ t ≤ 64 ∧ 2 ≤ r ∧ r ≤ 64 ∧ 2 ≤ c ∧ c ≤ 64 ∧ 8 ≤ n ∧ n ≤ 1099511627776) = false := decide_eq_false (by omega)
    have d9 : decide (c ≤ 64) = false := by simp; omega
    clear g9
    clear g0
    clear g1
    clear g2
    clear g3
    clear g4
    clear g5
    clear g6
    clear g7
    clear g8
    rw [E]
    go_enter Try.func26, Try.ntmps26
    go_wp2
    go_ret
    exact ⟨rfl, (Fr.refl none_ w).alloc _⟩
  have d9 : decide (c ≤ 64) = true := by simp; omega
  by_cases g10 : n < 8
  · have E : decide (4 ≤ s ∧ s ≤ 4096 ∧ 3 ≤ p ∧ p ≤ 256 ∧ 1 ≤ t ∧ t ≤ 64 ∧ 2 ≤ r ∧ r ≤ 64 ∧ 2 ≤ c ∧ c ≤ 64 ∧ 8 ≤ n ∧ n ≤ 1099511627776) = false := decide_eq_false (by omega)
    have d10 : decide (8 ≤ n) = false := by simp; omega
    clear g10
    clear g0
    clear g1
    clear g2
    clear g3
    clear g4
    clear g5
    clear g6
    clear g7
    clear g8
    clear g9
    rw [E]
    go_enter Try.func26, Try.ntmps26
    go_wp2
    go_ret
    exact ⟨rfl, (Fr.refl none_ w).alloc _⟩
  have d10 : decide (8 ≤ n) = true := by simp; omega
  by_cases g11 : 1099511627776 < n
  · have E : decide (4 ≤ s ∧ s ≤ 4096 ∧ 3 ≤ p ∧ p ≤ 256 ∧ 1 ≤ t ∧ t ≤ 64 ∧ 2 ≤ r ∧ r ≤ 64 ∧ 2 ≤ c ∧ c ≤ 64 ∧ 8 ≤ n ∧ n ≤ 1099511627776) = false := decide_eq_false (by omega)
    have d11 : decide (n ≤ 1099511627776) = false := by simp; omega
    clear g11
    clear g0
    clear g1
    clear g2
    clear g3
    clear g4
    clear g5
    clear g6
    clear g7
    clear g8
    clear g9
    clear g10
    rw [E]
    go_enter Try.func26, Try.ntmps26
    go_wp2
    go_ret
    exact ⟨rfl, (Fr.refl none_ w).alloc _⟩
  have d11 : decide (n ≤ 1099511627776) = true := by simp; omega
  have E : decide (4 ≤ s ∧ s ≤ 4096 ∧ 3 ≤ p ∧ p ≤ 256 ∧ 1 ≤ t ∧ t ≤ 64 ∧ 2 ≤ r ∧ r ≤ 64 ∧ 2 ≤ c ∧ c ≤ 64 ∧ 8 ≤ n ∧ n ≤ 1099511627776) = true := decide_eq_true (by omega)
  clear g0 g1 g2 g3 g4 g5 g6 g7 g8 g9 g10 g11
  rw [E]
  go_enter Try.func26, Try.ntmps26
  go_wp2
  go_ret
  exact ⟨rfl, (Fr.refl none_ w).alloc _⟩
end Go.Proofs.Ythcpccddcgbanaa

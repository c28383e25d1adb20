/- More small words on worlds. -/
import Derived.Test.YthcpccddcgbanaaReads
namespace Go.Proofs.Ythcpccddcgbanaa
open Go.RowKit
set_option linter.unusedVariables false

theorem Fr.toOnly {a w : World} {p : Addr} (h : Fr none_ a w) (u : Value) : Fr (only p.block) a (w.setCell p u) :=
  (h.mono (S' := only p.block) (fun _ _ e => e.elim)).setCell (p := p) (.inl (Eq.refl _)) u
theorem Fr.only1 (w : World) (p : Addr) (u : Value) : Fr (only p.block) w (w.setCell p u) := (Fr.refl none_ w).toOnly u
theorem cellFr {w w' : World} {p : Addr} {v : Value} (h : w.cell? p = some v) (hf : Fr none_ w w') : w'.cell? p = some v :=
  (World.cell?_of_block (hf.block _ (World.block_lt_of_cell? w _ h) id)).trans h
theorem cellFrS {S : Nat → Prop} {w w' : World} {p : Addr} {v : Value} (h : w.cell? p = some v) (hf : Fr S w w') (hS : ¬ S p.block) : w'.cell? p = some v :=
  (World.cell?_of_block (hf.block _ (World.block_lt_of_cell? w _ h) hS)).trans h

theorem choose_list {α : Type} {P : Nat → α → Prop} : ∀ (n : Nat), (∀ k, k < n → ∃ x, P k x) → ∃ L : List α, L.length = n ∧ ∀ k x, L[k]? = some x → P k x
  | 0, _ => ⟨[], rfl, fun k x h => by simp at h⟩
  | n + 1, h => by
    obtain ⟨L, hl, hL⟩ := choose_list n (fun k hk => h k (by omega))
    obtain ⟨x, hx⟩ := h n (by omega)
    refine ⟨L ++ [x], by simp [hl], fun k y hy => ?_⟩
    rcases Nat.lt_or_ge k L.length with h1 | h1
    · rw [List.getElem?_append_left h1] at hy; exact hL k y hy
    · rw [List.getElem?_append_right h1] at hy
      have : k - L.length = 0 := by
        rcases Nat.eq_zero_or_pos (k - L.length) with h2 | h2
        · exact h2
        · rw [List.getElem?_eq_none (by simp; omega)] at hy; cases hy
      rw [this] at hy
      obtain rfl : x = y := by simpa using hy
      obtain rfl : k = n := by omega
      exact hx
def numFlat (N : List Int) : List Value := N.map (Value.int .i64)
theorem numFlat_get {N : List Int} {k : Nat} {x : Int} (h : N[k]? = some x) : (numFlat N)[k]? = some (.int .i64 x) := by unfold numFlat; rw [List.getElem?_map, h]; rfl
theorem reads_at {w : World} {size n : Nat} {A : Option Addr} {xs : List Value} (h : Reads w size A n xs) (hn : 0 < n) : ∃ ad, A = some ad ∧ ∀ j u, xs[j]? = some u → w.cell? (ad.add j) = some u := h.2 hn

section
variable {P : Program} (w : World)
/-- append, at the operation, with where the new row lies. -/
theorem wp_append_at {o : Oper} {a : Act} {K : Act → World → Prop} {Q : Exit → Act → World → Prop} (s x : Operand) (t : TypeId)
    (ho : o.op = .call { callee := .builtin .append, args := #[s, x], argTypes := #[t, t] })
    (base : Nat) (e : TypeId) (i : TypeInfo) (z : Value) (size bytes : Nat) (ht : P.underlying t = some (.slice e)) (hi : P.info? e = some i) (hz : i.zero = some z)
    (hsize : i.size = size) (hby : i.bytes = bytes) (hzs : z.cells.size = size) (hsz : 0 < size)
    (v : Value) (n : Nat) (xs : List Value) (hs : a.eval s = v) (hown : w.ownsRow base e size v n xs)
    (A : Option Addr) (m c : Nat) (news : List Value) (hx : a.eval x = .slice A m c) (hr : Reads w size A m news) (h1 : ∀ u ∈ news, u.oneCell' = true)
    (h63 : n + m ≤ maxLen) (hbytes : (n + m) * bytes ≤ 140737488355328) (hbase : base ≤ w.heap.size)
    (h : ∀ v' w', w'.ownsRow base e size v' (n + m) (xs ++ news) → w.grownBy w' v.ownBlock → (v'.ownBlock = v.ownBlock ∨ v'.ownBlock = some w.heap.size) → K (a.put o.dst v') w') : o.wp P a w K Q := by
  obtain ⟨v', w', hrun, h2, h3, h4⟩ := run_append_any (P := P) w base t o.type e i z size bytes ht hi hz hsize hby hzs hsz v n xs hown A m c news hr h1 h63 hbytes hbase
  unfold Oper.wp execOp
  simp only [ho, resolve, invoke, builtin, Sem.run_bind, Sem.run_pure, Result.andThen_ok, List.map_toArray, List.map_cons, List.map_nil, hs, hx, hrun]
  exact h v' w' h2 h3 h4
theorem wpList_append_at {ops : Array Oper} {rest : List Oper} {o : Oper} {a : Act} {Q : Exit → Act → World → Prop} (hgd : o.guard = none) (s x : Operand) (t : TypeId)
    (ho : o.op = .call { callee := .builtin .append, args := #[s, x], argTypes := #[t, t] })
    (base : Nat) (e : TypeId) (i : TypeInfo) (z : Value) (size bytes : Nat) (ht : P.underlying t = some (.slice e)) (hi : P.info? e = some i) (hz : i.zero = some z)
    (hsize : i.size = size) (hby : i.bytes = bytes) (hzs : z.cells.size = size) (hsz : 0 < size)
    (v : Value) (n : Nat) (xs : List Value) (hs : a.eval s = v) (hown : w.ownsRow base e size v n xs)
    (A : Option Addr) (m c : Nat) (news : List Value) (hx : a.eval x = .slice A m c) (hr : Reads w size A m news) (h1 : ∀ u ∈ news, u.oneCell' = true)
    (h63 : n + m ≤ maxLen) (hbytes : (n + m) * bytes ≤ 140737488355328) (hbase : base ≤ w.heap.size)
    (h : ∀ v' w', w'.ownsRow base e size v' (n + m) (xs ++ news) → w.grownBy w' v.ownBlock → (v'.ownBlock = v.ownBlock ∨ v'.ownBlock = some w.heap.size) → wpList P ops Q rest (a.put o.dst v') w') : wpList P ops Q (o :: rest) a w :=
  wpList_plain hgd fun _ hK => wp_append_at w s x t ho base e i z size bytes ht hi hz hsize hby hzs hsz v n xs hs hown A m c news hx hr h1 h63 hbytes hbase fun v' w' h2 h3 h4 => hK _ _ (h v' w' h2 h3 h4)
end
end Go.Proofs.Ythcpccddcgbanaa

/- fault.Is of an error that a memory tells. -/
import Derived.Test.YthpkbppaaagaoaaGreatMhB
import Derived.Stop.Asserts
namespace Go.Proofs.YthpkbppaaagaoaaGreat
open Go.RowKit Go.Extern.Stop Go.Stop Go.Extern
set_option maxRecDepth 100000
set_option linter.unusedVariables false

theorem noIsF9 (v : Value) (xT : TypeId) (w : World) : (Instr.typeAssert (.iface 156 v) xT 188 true).run Tryz.prog w = .ok (.tuple #[.nilIface, .bool false]) w := run_typeAssert_lacksB Tryz.underlying188 (by kernel_rfl) (by kernel_rfl) v xT w
theorem unF9 (v : Value) (xT : TypeId) (w : World) : (Instr.typeAssert (.iface 156 v) xT 190 true).run Tryz.prog w = .ok (.tuple #[.iface 156 v, .bool true]) w := run_typeAssert_hasB Tryz.underlying190 (by kernel_rfl) v xT w
theorem meUF9 (v : Value) (w : World) : (Go.method 361 156 v "Unwrap").run Tryz.prog w = .ok (163, v) w := by kernel_rfl
set_option maxHeartbeats 4000000 in
theorem isF_at (p : ByteArray) (s k c : Int) (q : Nat) (w : World) (hq : Blk w q 158 #[.string p, .int .i64 s, errV k]) : Calls Tryz.prog 37 #[.iface 156 (.pointer (some ⟨q, 0, none⟩)), .int .i64 c] w fun e w' => e = .returned (.bool (k == c)) ∧ w = w' := by
  obtain ⟨i, hi, hcmp⟩ := Option.map_eq_some_iff.1 isComp
  have h8 := @run_callFunc_extern Tryz.prog 91 _ Extern.ReflectliteType.typeOf Tryz.func91 (by kernel_rfl) (by kernel_rfl) (by kernel_rfl) (by kernel_rfl)
  have h32 := @run_callFunc_extern Tryz.prog 167 _ cmpEntry Tryz.func167 (by kernel_rfl) (by kernel_rfl) (by kernel_rfl) (by kernel_rfl)
  have tT := isTypeOf
  have cT := isComparable
  have mR := isMethodComparable
  have nE := noIsE
  have uE := noUnwrapE
  have vE := noUnwrapsE
  have nF := noIsF9
  have uF := unF9
  have mF := meUF9
  have y1 := fun (u v : Value) (w : World) => run_eql_iface_types (P := Tryz.prog) 156 73 u v Tryz.underlying45 (by decide) w
  have c2 : w.cell? ⟨q, 2, none⟩ = some (errV k) := hq.cell' rfl
  have heq := fun w => run_eql_iface_int (P := Tryz.prog) w k c Tryz.underlying45 Tryz.underlying73 hi hcmp
  have Hi := hid_ (And.intro hi hcmp)
  clear hi hcmp hq
  by_cases hk : k = c
  · subst hk
    have hb : (k == k) = true := by simp
    rw [hb]
    simp only [hb] at heq
    clear hb
    go_enter Tryz.func37, Tryz.ntmps37
    go_wp2
    refine wp_loop_rounds 2 ?_
    rw [rounds_succ]
    go_wp2
    rw [rounds_succ]
    go_wp2
    go_ret
    exact ⟨rfl, rfl⟩
  · have hb : (k == c) = false := by simpa using hk
    rw [hb]
    simp only [hb] at heq
    clear hb hk
    go_enter Tryz.func37, Tryz.ntmps37
    go_wp2
    refine wp_loop_rounds 2 ?_
    rw [rounds_succ]
    go_wp2
    rw [rounds_succ]
    go_wp2
    go_ret
    exact ⟨rfl, rfl⟩
theorem isF_ev (c k : Int) (p : ByteArray) (s : Int) (v : Value) (w : World) (h : Ev w v p s k) (hk : k ≠ 0) : Calls Tryz.prog 37 #[v, .int .i64 c] w fun e w' => e = .returned (.bool (k == c)) ∧ w = w' := by
  rcases h with ⟨h, _⟩ | ⟨_, q, rfl, hq⟩
  · exact absurd h hk
  · exact isF_at p s k c q w hq
end Go.Proofs.YthpkbppaaagaoaaGreat

/- errors.Is and fault.Is by contracts, at errors that are nil or one of api's codes. -/
import Derived.Test.YthcpccddcgbanaaErr
import Derived.LaidEql
import Derived.Stop.Asserts
import Derived.RowKitTokens
namespace Go.Proofs.Ythcpccddcgbanaa
open Go.RowKit Go.Extern.Stop Go.Stop Go.Extern
set_option linter.unusedVariables false

theorem run_equalIn_iface_int {P : Program} (w : World) (d : Nat) {ti tn : TypeId} {ms : Array (String × TypeId)} {i : TypeInfo} {k : IntKind} (a b : Int)
    (hi : P.underlying ti = some (.interface ms)) (hn : P.underlying tn = some (.int k)) (hinfo : P.info? tn = some i) (hcomp : i.comparable = true) :
    (Op.equalIn (d + 2) ti (.iface tn (.int k a)) (.iface tn (.int k b))).run P w = .ok (a == b) w := by
  simp [Op.equalIn, run_underlying hi, run_underlying hn, typeInfo, hinfo, hcomp]
theorem run_eql_iface_int {P : Program} (w : World) {ti tn : TypeId} {ms : Array (String × TypeId)} {i : TypeInfo} {k : IntKind} (a b : Int)
    (hi : P.underlying ti = some (.interface ms)) (hn : P.underlying tn = some (.int k)) (hinfo : P.info? tn = some i) (hcomp : i.comparable = true) :
    (binOp .eql ti (.iface tn (.int k a)) (.iface tn (.int k b))).run P w = .ok (.bool (a == b)) w := by
  simp only [binOp]
  simp [Op.equal, Op.maxDepth, run_equalIn_iface_int w 9998 a b hi hn hinfo hcomp]

theorem isTypeOf (v : Value) (w : World) : (Extern.ReflectliteType.typeOf #[.iface 70 v]).run Try.prog w = .ok (.iface 133 (.agg #[.pointer (some ⟨0, 70, none⟩)])) w := by kernel_rfl
/-- What stands in for (reflectlite.rtype).Comparable. -/
def cmpEntry : Array Value → Sem Value := Extern.ReflectliteType.method fun t => do Extern.Rtype.noPackHeld "Comparable" t; pure (.bool (← typeInfo t).comparable)
theorem isComparable (w : World) : (cmpEntry #[.agg #[.pointer (some ⟨0, 70, none⟩)]]).run Try.prog w = .ok (.bool true) w := by kernel_rfl
theorem isMethodComparable (v : Value) (w : World) : (Go.method 276 133 v "Comparable").run Try.prog w = .ok (86, v) w := by kernel_rfl
theorem isComp : (Try.prog.info? 70).map (·.comparable) = some true := by kernel_rfl
theorem noIsE (v : Value) (xT : TypeId) (w : World) : (Instr.typeAssert (.iface 70 v) xT 135 true).run Try.prog w = .ok (.tuple #[.nilIface, .bool false]) w := run_typeAssert_lacksB Try.underlying135 (by kernel_rfl) (by kernel_rfl) v xT w
theorem noUnwrapE (v : Value) (xT : TypeId) (w : World) : (Instr.typeAssert (.iface 70 v) xT 137 true).run Try.prog w = .ok (.tuple #[.nilIface, .bool false]) w := run_typeAssert_lacksB Try.underlying137 (by kernel_rfl) (by kernel_rfl) v xT w
theorem noUnwrapsE (v : Value) (xT : TypeId) (w : World) : (Instr.typeAssert (.iface 70 v) xT 139 true).run Try.prog w = .ok (.tuple #[.nilIface, .bool false]) w := run_typeAssert_lacksB Try.underlying139 (by kernel_rfl) (by kernel_rfl) v xT w

/-- fault.Is(nil, c). -/
theorem isF_nil (c : Int) (w : World) : Calls Try.prog 24 #[.nilIface, .int .i64 c] w fun e w' => e = .returned (.bool false) ∧ w = w' := by
  have hn := fun w => run_eql_iface_nil_left (P := Try.prog) w 70 (.int .i64 c) Try.underlying30
  go_enter Try.func24, Try.ntmps24
  go_wp2
  go_ret
  exact ⟨rfl, rfl⟩

theorem isF (k c : Int) (w : World) : Calls Try.prog 24 #[errV k, .int .i64 c] w fun e w' => e = .returned (.bool (k == c)) ∧ w = w' := by
  obtain ⟨i, hi, hcmp⟩ := Option.map_eq_some_iff.1 isComp
  have h8 := @run_callFunc_extern Try.prog 59 _ Extern.ReflectliteType.typeOf Try.func59 (by kernel_rfl) (by kernel_rfl) (by kernel_rfl) (by kernel_rfl)
  have h32 := @run_callFunc_extern Try.prog 86 _ cmpEntry Try.func86 (by kernel_rfl) (by kernel_rfl) (by kernel_rfl) (by kernel_rfl)
  have tT := isTypeOf
  have cT := isComparable
  have mR := isMethodComparable
  have nE := noIsE
  have uE := noUnwrapE
  have vE := noUnwrapsE
  have heq := fun w => run_eql_iface_int (P := Try.prog) w k c Try.underlying30 Try.underlying70 hi hcmp
  have Hi := hid_ (And.intro hi hcmp)
  clear hi hcmp
  by_cases hk : k = c
  · subst hk
    have hb : (k == k) = true := by simp
    rw [hb]
    simp only [hb] at heq
    clear hb
    go_enter Try.func24, Try.ntmps24
    go_wp2
    refine wp_loop_rounds 1 ?_
    rw [rounds_succ]
    go_wp2
    go_ret
    exact ⟨rfl, rfl⟩
  · have hb : (k == c) = false := by simpa using hk
    rw [hb]
    simp only [hb] at heq
    clear hb hk
    go_enter Try.func24, Try.ntmps24
    go_wp2
    refine wp_loop_rounds 1 ?_
    rw [rounds_succ]
    go_wp2
    go_ret
    exact ⟨rfl, rfl⟩
end Go.Proofs.Ythcpccddcgbanaa

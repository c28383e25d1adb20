/- Texts of one proof, merged: As. -/
import Derived.LaidEql
import Derived.Stop.Asserts
import Derived.RowKitTokens
import Derived.Test.YtfihfjbakfadkaaDoorMcA
namespace Go.Proofs.YtfihfjbakfadkaaDoor
open Go.RowKit Go.Extern.Stop Go.Stop Go.Extern
set_option linter.unusedVariables false

theorem as_nil (t : Value) (w : World) : Calls Tryd.prog 48 #[.nilIface, t] w fun e w' => e = .returned (.bool false) ∧ w = w' := by
  go_enter Tryd.func48, Tryd.ntmps48
  go_wp2
  go_ret
  exact ⟨rfl, rfl⟩

theorem valueOfT (t : Addr) (w : World) : (ReflectliteValue.unpack (.iface 129 (.pointer (some t)))).run Tryd.prog w
    = .ok (.agg #[.pointer (some ⟨1, 129, none⟩), .pointer (some ⟨w.heap.size, 0, none⟩), .int .u64 150]) (w.alloc (.cells #[.pointer (some t)] 129)) := by kernel_rfl
theorem typeT (a : Addr) (w : World) : (ReflectliteValue.methodAny (ReflectliteValue.valueError "reflectlite.Value.Type" 0) (fun t _ _ _ => ReflectliteType.toType t) #[.agg #[.pointer (some ⟨1, 129, none⟩), .pointer (some a), .int .u64 150]]).run Tryd.prog w
    = .ok (.iface 185 (.agg #[.pointer (some ⟨1, 129, none⟩)])) w := by kernel_rfl
theorem methodKind (h : Value) (w : World) : (Go.method 356 185 (.agg #[h]) "Kind").run Tryd.prog w = .ok (114, h) w := by kernel_rfl
theorem kindT (w : World) : ((ReflectliteType.abiMethod fun t => (fun a : Nat => Value.int IntKind.u8 (a : Int)) <$> Rtype.kind t) #[.pointer (some ⟨1, 129, none⟩)]).run Tryd.prog w = .ok (.int .u8 22) w := by kernel_rfl
theorem kindC (w : World) : ((ReflectliteType.abiMethod fun t => (fun a : Nat => Value.int IntKind.u8 (a : Int)) <$> Rtype.kind t) #[.pointer (some ⟨1, 56, none⟩)]).run Tryd.prog w = .ok (.int .u8 2) w := by kernel_rfl
theorem rlm (z : Sem Value) (f : TypeId → Addr → Nat → Nat → Sem Value) (v : Value) :
    ReflectliteValue.method z f #[v] = (do match ← ReflectliteValue.parts v with | none => z | some (t, a, fl) => f t a fl (fl % 32)) := rfl
theorem partsT (a : Addr) (w : World) : (ReflectliteValue.parts (.agg #[.pointer (some ⟨1, 129, none⟩), .pointer (some a), .int .u64 150])).run Tryd.prog w = .ok (some (129, a, 150)) w := by kernel_rfl
theorem isNilT (a p : Addr) (W : World) (ha : W.cell? a = some (.pointer (some p))) :
    (ReflectliteValue.method (ReflectliteValue.valueError "reflectlite.Value.IsNil" 0) ReflectliteValue.isNil #[.agg #[.pointer (some ⟨1, 129, none⟩), .pointer (some a), .int .u64 150]]).run Tryd.prog W = .ok (.bool false) W := by
  rw [rlm]
  simp only [Sem.run_bind, partsT, Result.andThen]
  simp [ReflectliteValue.isNil, loadVar, isAgg, underlying, Tryd.underlying129, ha, Result.andThen]
theorem methodElem (h : Value) (w : World) : (Go.method 356 185 (.agg #[h]) "Elem").run Tryd.prog w = .ok (131, .agg #[h]) w := by kernel_rfl
theorem methodImplements (h : Value) (w : World) : (Go.method 356 185 (.agg #[h]) "Implements").run Tryd.prog w = .ok (132, .agg #[h]) w := by kernel_rfl
theorem methodAssignableTo (h : Value) (w : World) : (Go.method 356 185 (.agg #[h]) "AssignableTo").run Tryd.prog w = .ok (129, .agg #[h]) w := by kernel_rfl
theorem elemT (w : World) : (ReflectliteType.method ReflectliteType.elem #[.agg #[.pointer (some ⟨1, 129, none⟩)]]).run Tryd.prog w = .ok (.iface 185 (.agg #[.pointer (some ⟨1, 56, none⟩)])) w := by kernel_rfl
theorem implementsC (w : World) : (ReflectliteType.relation "Implements" ReflectliteType.implements_ #[.agg #[.pointer (some ⟨1, 56, none⟩)], .iface 185 (.agg #[.pointer (some ⟨1, 31, none⟩)])]).run Tryd.prog w = .ok (.bool true) w := by kernel_rfl
theorem valueOfC (k : Int) (w : World) : (ReflectliteValue.unpack (.iface 56 (.int .i64 k))).run Tryd.prog w
    = .ok (.agg #[.pointer (some ⟨1, 56, none⟩), .pointer (some ⟨w.heap.size, 0, none⟩), .int .u64 130]) (w.alloc (.cells #[.int .i64 k] 56)) := by kernel_rfl
theorem elemOfT (w : World) : (Rtype.elem? 129).run Tryd.prog w = .ok (some 56) w := by kernel_rfl
theorem mkC (p : Addr) (w : World) : (ReflectliteValue.mk 56 p ReflectliteValue.flagAddr).run Tryd.prog w = .ok (.agg #[.pointer (some ⟨1, 56, none⟩), .pointer (some p), .int .u64 386]) w := by kernel_rfl
theorem elemV (a p : Addr) (W : World) (ha : W.cell? a = some (.pointer (some p))) :
    (ReflectliteValue.method (ReflectliteValue.valueError "reflectlite.Value.Elem" 0) ReflectliteValue.elem #[.agg #[.pointer (some ⟨1, 129, none⟩), .pointer (some a), .int .u64 150]]).run Tryd.prog W
      = .ok (.agg #[.pointer (some ⟨1, 56, none⟩), .pointer (some p), .int .u64 386]) W := by
  rw [rlm]
  simp only [Sem.run_bind, partsT, Result.andThen]
  simp [ReflectliteValue.elem, loadVar, isAgg, underlying, Tryd.underlying129, ha, Result.andThen, elemOfT, mkC]
theorem rls (v x : Value) : ∃ s1 s2 s3 s4 s5 : String, ReflectliteValue.set #[v, x] = (do
    let (some (dst, a, fl), some (src, b, _)) := (← ReflectliteValue.parts v, ← ReflectliteValue.parts x)
      | unsupported (.noEntry s1)
    if fl / ReflectliteValue.flagAddr % 2 == 0 then unsupported (.noEntry s2)
    let val ← loadVar src b
    if ← Rtype.directlyAssignable dst src then storeVar dst a val
    else if ← Rtype.implements dst src then
      if (← Rtype.kind src) == 20 then
        match val with
        | .nilIface => unsupported (.noEntry s3)
        | _ => storeVar dst a val
      else storeVar dst a (.iface src val)
    else panicString (s4 ++ (← Rtype.spelt src) ++ s5 ++ (← Rtype.spelt dst))
    pure (.tuple #[])) := ⟨_, _, _, _, _, rfl⟩
theorem partsA (a : Addr) (w : World) : (ReflectliteValue.parts (.agg #[.pointer (some ⟨1, 56, none⟩), .pointer (some a), .int .u64 386])).run Tryd.prog w = .ok (some (56, a, 386)) w := by kernel_rfl
theorem partsB (a : Addr) (w : World) : (ReflectliteValue.parts (.agg #[.pointer (some ⟨1, 56, none⟩), .pointer (some a), .int .u64 130])).run Tryd.prog w = .ok (some (56, a, 130)) w := by kernel_rfl
theorem directC (w : World) : (Rtype.directlyAssignable 56 56).run Tryd.prog w = .ok true w := by kernel_rfl
theorem setC (ta b : Addr) (k : Int) (old : Value) (W : World) (hb : W.cell? b = some (.int .i64 k)) (ht : W.cell? ta = some old) (hf : W.frozen? ta = false) :
    (ReflectliteValue.set #[.agg #[.pointer (some ⟨1, 56, none⟩), .pointer (some ta), .int .u64 386], .agg #[.pointer (some ⟨1, 56, none⟩), .pointer (some b), .int .u64 130]]).run Tryd.prog W
      = .ok (.tuple #[]) (W.setCell ta (.int .i64 k)) := by
  obtain ⟨s1, s2, s3, s4, s5, e⟩ := rls (.agg #[.pointer (some ⟨1, 56, none⟩), .pointer (some ta), .int .u64 386]) (.agg #[.pointer (some ⟨1, 56, none⟩), .pointer (some b), .int .u64 130])
  rw [e]
  simp only [Sem.run_bind, partsA, partsB, Result.andThen]
  simp [ReflectliteValue.flagAddr, loadVar, isAgg, underlying, Tryd.underlying56, hb, Result.andThen, directC, storeVar, Value.cells, storeCells, Addr.add]
  rw [run_store Tryd.prog W ta _ _ (by rfl)]
  simp [ht, hf]

end Go.Proofs.YtfihfjbakfadkaaDoor

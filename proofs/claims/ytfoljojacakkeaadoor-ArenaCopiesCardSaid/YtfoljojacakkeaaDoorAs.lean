/- errors.As at *api.Code, and fault.Code, by contracts, at errors that are nil or one of api's codes. (Turned from the guide's worked text ToyasAs.) -/
import Derived.Test.YtfoljojacakkeaaDoorErr
import Derived.LaidEql
import Derived.Stop.Asserts
import Derived.RowKitTokens
namespace Go.Proofs.YtfoljojacakkeaaDoor
open Go.RowKit Go.Extern.Stop Go.Stop Go.Extern
set_option linter.unusedVariables false

def hdl (t : Nat) : Value := .pointer (some ⟨1, t, none⟩)
theorem as_nil (t : Value) (w : World) : Calls Tryd.prog 72 #[.nilIface, t] w fun e w' => e = .returned (.bool false) ∧ w = w' := by
  go_enter Tryd.func72, Tryd.ntmps72
  go_wp2
  go_ret
  exact ⟨rfl, rfl⟩

theorem valueOfT (t : Addr) (w : World) : (ReflectliteValue.unpack (.iface 155 (.pointer (some t)))).run Tryd.prog w
    = .ok (.agg #[.pointer (some ⟨1, 155, none⟩), .pointer (some ⟨w.heap.size, 0, none⟩), .int .u64 150]) (w.alloc (.cells #[.pointer (some t)] 155)) := by kernel_rfl
theorem typeT (a : Addr) (w : World) : (ReflectliteValue.methodAny (ReflectliteValue.valueError "reflectlite.Value.Type" 0) (fun t _ _ _ => ReflectliteType.toType t) #[.agg #[.pointer (some ⟨1, 155, none⟩), .pointer (some a), .int .u64 150]]).run Tryd.prog w
    = .ok (.iface 239 (.agg #[.pointer (some ⟨1, 155, none⟩)])) w := by kernel_rfl
theorem methodKind (h : Value) (w : World) : (Go.method 405 239 (.agg #[h]) "Kind").run Tryd.prog w = .ok (154, h) w := by kernel_rfl
theorem kindT (w : World) : ((ReflectliteType.abiMethod fun t => (fun a : Nat => Value.int IntKind.u8 (a : Int)) <$> Rtype.kind t) #[.pointer (some ⟨1, 155, none⟩)]).run Tryd.prog w = .ok (.int .u8 22) w := by kernel_rfl
theorem kindC (w : World) : ((ReflectliteType.abiMethod fun t => (fun a : Nat => Value.int IntKind.u8 (a : Int)) <$> Rtype.kind t) #[.pointer (some ⟨1, 65, none⟩)]).run Tryd.prog w = .ok (.int .u8 2) w := by kernel_rfl
theorem rlm (z : Sem Value) (f : TypeId → Addr → Nat → Nat → Sem Value) (v : Value) :
    ReflectliteValue.method z f #[v] = (do match ← ReflectliteValue.parts v with | none => z | some (t, a, fl) => f t a fl (fl % 32)) := rfl
theorem partsT (a : Addr) (w : World) : (ReflectliteValue.parts (.agg #[.pointer (some ⟨1, 155, none⟩), .pointer (some a), .int .u64 150])).run Tryd.prog w = .ok (some (155, a, 150)) w := by kernel_rfl
theorem isNilT (a p : Addr) (W : World) (ha : W.cell? a = some (.pointer (some p))) :
    (ReflectliteValue.method (ReflectliteValue.valueError "reflectlite.Value.IsNil" 0) ReflectliteValue.isNil #[.agg #[.pointer (some ⟨1, 155, none⟩), .pointer (some a), .int .u64 150]]).run Tryd.prog W = .ok (.bool false) W := by
  rw [rlm]
  simp only [Sem.run_bind, partsT, Result.andThen]
  simp [ReflectliteValue.isNil, loadVar, isAgg, underlying, Tryd.underlying155, ha, Result.andThen]
theorem methodElem (h : Value) (w : World) : (Go.method 405 239 (.agg #[h]) "Elem").run Tryd.prog w = .ok (170, .agg #[h]) w := by kernel_rfl
theorem methodImplements (h : Value) (w : World) : (Go.method 405 239 (.agg #[h]) "Implements").run Tryd.prog w = .ok (171, .agg #[h]) w := by kernel_rfl
theorem methodAssignableTo (h : Value) (w : World) : (Go.method 405 239 (.agg #[h]) "AssignableTo").run Tryd.prog w = .ok (168, .agg #[h]) w := by kernel_rfl
theorem elemT (w : World) : (ReflectliteType.method ReflectliteType.elem #[.agg #[.pointer (some ⟨1, 155, none⟩)]]).run Tryd.prog w = .ok (.iface 239 (.agg #[.pointer (some ⟨1, 65, none⟩)])) w := by kernel_rfl
theorem implementsC (w : World) : (ReflectliteType.relation "Implements" ReflectliteType.implements_ #[.agg #[.pointer (some ⟨1, 65, none⟩)], .iface 239 (.agg #[.pointer (some ⟨1, 62, none⟩)])]).run Tryd.prog w = .ok (.bool true) w := by kernel_rfl
theorem typeOfC (v : Value) (w : World) : (ReflectliteType.typeOf #[.iface 65 v]).run Tryd.prog w = .ok (.iface 239 (.agg #[.pointer (some ⟨1, 65, none⟩)])) w := by kernel_rfl
theorem assignableC (w : World) : (ReflectliteType.relation "AssignableTo" ReflectliteType.assignableTo #[.agg #[.pointer (some ⟨1, 65, none⟩)], .iface 239 (.agg #[.pointer (some ⟨1, 65, none⟩)])]).run Tryd.prog w = .ok (.bool true) w := by kernel_rfl
theorem valueOfC (k : Int) (w : World) : (ReflectliteValue.unpack (.iface 65 (.int .i64 k))).run Tryd.prog w
    = .ok (.agg #[.pointer (some ⟨1, 65, none⟩), .pointer (some ⟨w.heap.size, 0, none⟩), .int .u64 130]) (w.alloc (.cells #[.int .i64 k] 65)) := by kernel_rfl
theorem elemOfT (w : World) : (Rtype.elem? 155).run Tryd.prog w = .ok (some 65) w := by kernel_rfl
theorem mkC (p : Addr) (w : World) : (ReflectliteValue.mk 65 p ReflectliteValue.flagAddr).run Tryd.prog w = .ok (.agg #[.pointer (some ⟨1, 65, none⟩), .pointer (some p), .int .u64 386]) w := by kernel_rfl
theorem elemV (a p : Addr) (W : World) (ha : W.cell? a = some (.pointer (some p))) :
    (ReflectliteValue.method (ReflectliteValue.valueError "reflectlite.Value.Elem" 0) ReflectliteValue.elem #[.agg #[.pointer (some ⟨1, 155, none⟩), .pointer (some a), .int .u64 150]]).run Tryd.prog W
      = .ok (.agg #[.pointer (some ⟨1, 65, none⟩), .pointer (some p), .int .u64 386]) W := by
  rw [rlm]
  simp only [Sem.run_bind, partsT, Result.andThen]
  simp [ReflectliteValue.elem, loadVar, isAgg, underlying, Tryd.underlying155, ha, Result.andThen, elemOfT, mkC]
theorem rls (v x : Value) : ∃ s1 s2 s3 s4 s5 : String, ReflectliteValue.set #[v, x] = (do
    let (some (dst, a, fl), some (src, b, _)) := (← ReflectliteValue.parts v, ← ReflectliteValue.parts x)
      | unsupported (.noEntry s1)
    if fl / ReflectliteValue.flagAddr % 2 == 0 then unsupported (.noEntry s2)
    let val ← loadVar src b
    if ← Rtype.directlyAssignable dst src then storeVar dst a val
    else if ← Rtype.implements dst src then
      if (← Rtype.kind src) == 20 then
        match val with
        | .nilIface => unsupported (.noEntry s3)
        | _ => storeVar dst a val
      else storeVar dst a (.iface src val)
    else panicString (s4 ++ (← Rtype.spelt src) ++ s5 ++ (← Rtype.spelt dst))
    pure (.tuple #[])) := ⟨_, _, _, _, _, rfl⟩
theorem partsA (a : Addr) (w : World) : (ReflectliteValue.parts (.agg #[.pointer (some ⟨1, 65, none⟩), .pointer (some a), .int .u64 386])).run Tryd.prog w = .ok (some (65, a, 386)) w := by kernel_rfl
theorem partsB (a : Addr) (w : World) : (ReflectliteValue.parts (.agg #[.pointer (some ⟨1, 65, none⟩), .pointer (some a), .int .u64 130])).run Tryd.prog w = .ok (some (65, a, 130)) w := by kernel_rfl
theorem directC (w : World) : (Rtype.directlyAssignable 65 65).run Tryd.prog w = .ok true w := by kernel_rfl
theorem sizeC (w : World) : (sizeOf 65).run Tryd.prog w = .ok 1 w := by kernel_rfl
theorem setC (ta b : Addr) (k : Int) (old : Value) (W : World) (hb : W.cell? b = some (.int .i64 k)) (ht : W.cell? ta = some old) (hf : W.frozen? ta = false) :
    (ReflectliteValue.set #[.agg #[.pointer (some ⟨1, 65, none⟩), .pointer (some ta), .int .u64 386], .agg #[.pointer (some ⟨1, 65, none⟩), .pointer (some b), .int .u64 130]]).run Tryd.prog W
      = .ok (.tuple #[]) (W.setCell ta (.int .i64 k)) := by
  obtain ⟨s1, s2, s3, s4, s5, e⟩ := rls (.agg #[.pointer (some ⟨1, 65, none⟩), .pointer (some ta), .int .u64 386]) (.agg #[.pointer (some ⟨1, 65, none⟩), .pointer (some b), .int .u64 130])
  rw [e]
  simp only [Sem.run_bind, partsA, partsB, Result.andThen]
  simp [ReflectliteValue.flagAddr, loadVar, isAgg, underlying, Tryd.underlying65, hb, Result.andThen, directC, storeVar, Value.cells, storeCells, Addr.add]
  rw [run_store Tryd.prog W ta _ _ (by rfl)]
  simp [ht, hf]

set_option maxHeartbeats 4000000 in
/-- errors.As(a code, the address of a code): true; the code is laid there. -/
theorem as_hit (k old : Int) (t : Nat) (w : World) (hg : w.cell? ⟨0, 0, none⟩ = some (.iface 239 (.agg #[.pointer (some ⟨1, 62, none⟩)]))) (hT : Blk w t 65 #[.int .i64 old]) :
    Calls Tryd.prog 72 #[.iface 65 (.int .i64 k), .iface 155 (.pointer (some ⟨t, 0, none⟩))] w fun ev w' => ev = .returned (.bool true) ∧ Blk w' t 65 #[.int .i64 k] ∧ Fr (only t) w w' := by
  have h6 := @run_callFunc_extern Tryd.prog 109 _ (fun args => ReflectliteValue.unpack (args.getD 0 (.tuple #[]))) Tryd.func109 (by kernel_rfl) (by kernel_rfl) (by kernel_rfl) (by kernel_rfl)
  have h7 := @run_callFunc_extern Tryd.prog 110 _ (ReflectliteValue.methodAny (ReflectliteValue.valueError "reflectlite.Value.Type" 0) (fun t _ _ _ => ReflectliteType.toType t)) Tryd.func110 (by kernel_rfl) (by kernel_rfl) (by kernel_rfl) (by kernel_rfl)
  have h8 := @run_callFunc_extern Tryd.prog 111 _ (ReflectliteValue.method (ReflectliteValue.valueError "reflectlite.Value.IsNil" 0) ReflectliteValue.isNil) Tryd.func111 (by kernel_rfl) (by kernel_rfl) (by kernel_rfl) (by kernel_rfl)
  have h27 := @run_callFunc_extern Tryd.prog 154 _ (ReflectliteType.abiMethod fun t => do pure (.int .u8 (← Rtype.kind t))) Tryd.func154 (by kernel_rfl) (by kernel_rfl) (by kernel_rfl) (by kernel_rfl)
  have h37 := @run_callFunc_extern Tryd.prog 170 _ (ReflectliteType.method ReflectliteType.elem) Tryd.func170 (by kernel_rfl) (by kernel_rfl) (by kernel_rfl) (by kernel_rfl)
  have h38 := @run_callFunc_extern Tryd.prog 171 _ (ReflectliteType.relation "Implements" ReflectliteType.implements_) Tryd.func171 (by kernel_rfl) (by kernel_rfl) (by kernel_rfl) (by kernel_rfl)
  have h10 := @run_callFunc_extern Tryd.prog 118 _ ReflectliteType.typeOf Tryd.func118 (by kernel_rfl) (by kernel_rfl) (by kernel_rfl) (by kernel_rfl)
  have h35 := @run_callFunc_extern Tryd.prog 168 _ (ReflectliteType.relation "AssignableTo" ReflectliteType.assignableTo) Tryd.func168 (by kernel_rfl) (by kernel_rfl) (by kernel_rfl) (by kernel_rfl)
  have h11 := @run_callFunc_extern Tryd.prog 121 _ (ReflectliteValue.method (ReflectliteValue.valueError "reflectlite.Value.Elem" 0) ReflectliteValue.elem) Tryd.func121 (by kernel_rfl) (by kernel_rfl) (by kernel_rfl) (by kernel_rfl)
  have h12 := @run_callFunc_extern Tryd.prog 122 _ ReflectliteValue.set Tryd.func122 (by kernel_rfl) (by kernel_rfl) (by kernel_rfl) (by kernel_rfl)
  have tO := typeOfC
  have mA := methodAssignableTo
  have a25 := assignableC
  have v25 := valueOfC
  have f6 := valueOfT
  have f7 := typeT
  have mK := methodKind
  have mE := methodElem
  have mI := methodImplements
  have k27 := kindT
  have k25 := kindC
  have e27 := elemT
  have i25 := implementsC
  obtain ⟨w1, hw1⟩ : ∃ w1, w1 = w.alloc (.cells #[.pointer (some ⟨t, 0, none⟩)] 155) := ⟨_, rfl⟩
  obtain ⟨w2, hw2⟩ : ∃ w2, w2 = w1.alloc (.cells #[.pointer (some ⟨1, 155, none⟩), .pointer (some ⟨w.heap.size, 0, none⟩), .int .u64 150] 206) := ⟨_, rfl⟩
  obtain ⟨w3, hw3⟩ : ∃ w3, w3 = w2.alloc (.cells #[.pointer (some ⟨1, 155, none⟩), .pointer (some ⟨w.heap.size, 0, none⟩), .int .u64 150] 206) := ⟨_, rfl⟩
  obtain ⟨w4, hw4⟩ : ∃ w4, w4 = w3.alloc (.cells #[.int .i64 k] 65) := ⟨_, rfl⟩
  have B1 : Blk w1 w.heap.size 155 #[.pointer (some ⟨t, 0, none⟩)] := by rw [hw1]; exact Blk.new _ _ _
  have s1 : w1.heap.size = w.heap.size + 1 := by rw [hw1]; simp
  have s2 : w2.heap.size = w.heap.size + 1 + 1 := by rw [hw2]; simp [s1]
  have s3 : w3.heap.size = w.heap.size + 1 + 1 + 1 := by rw [hw3]; simp [s2]
  have B2 : Blk w2 w.heap.size 155 #[.pointer (some ⟨t, 0, none⟩)] := by rw [hw2]; exact B1.alloc _
  have B3 : Blk w3 w.heap.size 155 #[.pointer (some ⟨t, 0, none⟩)] := by rw [hw3]; exact B2.alloc _
  have B4 : Blk w4 (w.heap.size + 1 + 1 + 1) 65 #[.int .i64 k] := by rw [hw4, ← s3]; exact Blk.new _ _ _
  have T4 : Blk w4 t 65 #[.int .i64 old] := by rw [hw4, hw3, hw2, hw1]; exact (((hT.alloc _).alloc _).alloc _).alloc _
  have F4 : Fr (only t) w w4 := by rw [hw4, hw3, hw2, hw1]; exact ((((Fr.refl _ _).alloc _).alloc _).alloc _).alloc _
  have hlt : 0 < w.heap.size := World.block_lt_of_cell? w _ hg
  have hg2 : w2.cell? ⟨0, 0, none⟩ = some (.iface 239 (.agg #[.pointer (some ⟨1, 62, none⟩)])) := by
    rw [hw2, hw1, World.cell?_alloc_lt _ _ ⟨0, 0, none⟩ (by simp), World.cell?_alloc_lt _ _ ⟨0, 0, none⟩ hlt]; exact hg
  have n8 := isNilT ⟨w.heap.size, 0, none⟩ ⟨t, 0, none⟩ w2 (B2.cell' rfl)
  have el := elemV ⟨w.heap.size, 0, none⟩ ⟨t, 0, none⟩ w3 (B3.cell' rfl)
  have st := setC ⟨t, 0, none⟩ ⟨w.heap.size + 1 + 1 + 1, 0, none⟩ k (.int .i64 old) w4 (B4.cell' rfl) (T4.cell' rfl) (T4.frozen 0)
  have fin : Hid (Blk (w4.setCell ⟨t, 0, none⟩ (.int .i64 k)) t 65 #[.int .i64 k] ∧ Fr (only t) w (w4.setCell ⟨t, 0, none⟩ (.int .i64 k))) := hid_ ⟨T4.set_ 0 (.int .i64 k), F4.setCell (p := ⟨t, 0, none⟩) (.inl (Eq.refl t)) _⟩
  clear B1 B2 B3 B4 T4 F4 s1 s2 s3 hT
  subst hw4
  subst hw3
  subst hw2
  subst hw1
  go_enter Tryd.func72, Tryd.ntmps72
  go_wp2
  refine wp_loop_rounds 1 ?_
  rw [rounds_succ]
  go_wp2
  go_ret
  exact ⟨rfl, fin.out⟩
end Go.Proofs.YtfoljojacakkeaaDoor

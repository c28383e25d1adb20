/- Texts of one proof, merged: As. -/
import Derived.LaidEql
import Derived.Stop.Asserts
import Derived.RowKitTokens
import Derived.Test.YthcpccddcgbanaaGreatDoorPiA
namespace Go.Proofs.YthcpccddcgbanaaGreatDoor
open Go.RowKit Go.Extern.Stop Go.Stop Go.Extern
set_option linter.unusedVariables false

def hdl (t:Nat):Value:=.pointer (some ⟨1,t,none⟩)
theorem as_nil (t:Value) (w:World):Calls Tryz.prog 57 #[.nilIface,t] w fun e w'=>e=.returned (.bool false)∧w=w':=by
  go_enter Tryz.func57,Tryz.ntmps57
  go_wp2
  go_ret
  exact ⟨rfl,rfl⟩

theorem valueOfT (t:Addr) (w:World):(ReflectliteValue.unpack (.iface 131 (.pointer (some t)))).run Tryz.prog w
    = .ok (.agg #[.pointer (some ⟨1,131,none⟩),.pointer (some ⟨w.heap.size,0,none⟩),.int .u64 150]) (w.alloc (.cells #[.pointer (some t)] 131)):=by kernel_rfl
theorem typeT (a : Addr) (w : World) : (ReflectliteValue.methodAny (ReflectliteValue.valueError "reflectlite.Value.Type" 0) (fun t _ _ _ => ReflectliteType.toType t) #[.agg #[.pointer (some ⟨1, 131, none⟩), .pointer (some a), .int .u64 150]]).run Tryz.prog w
    = .ok (.iface 194 (.agg #[.pointer (some ⟨1,131,none⟩)])) w:=by kernel_rfl
theorem methodKind (h : Value) (w : World) : (Go.method 338 194 (.agg #[h]) "Kind").run Tryz.prog w = .ok (103, h) w := by kernel_rfl
theorem kindT (w:World):((ReflectliteType.abiMethod fun t=>(fun a:Nat=>Value.int IntKind.u8 (a:Int)) <$> Rtype.kind t) #[.pointer (some ⟨1,131,none⟩)]).run Tryz.prog w=.ok (.int .u8 22) w:=by kernel_rfl
theorem kindC (w:World):((ReflectliteType.abiMethod fun t=>(fun a:Nat=>Value.int IntKind.u8 (a:Int)) <$> Rtype.kind t) #[.pointer (some ⟨1,65,none⟩)]).run Tryz.prog w=.ok (.int .u8 2) w:=by kernel_rfl
theorem rlm (z:Sem Value) (f:TypeId→Addr→Nat→Nat→Sem Value) (v:Value) :
    ReflectliteValue.method z f #[v]=(do match ← ReflectliteValue.parts v with | none=>z | some (t,a,fl)=>f t a fl (fl % 32)):=rfl
theorem partsT (a:Addr) (w:World):(ReflectliteValue.parts (.agg #[.pointer (some ⟨1,131,none⟩),.pointer (some a),.int .u64 150])).run Tryz.prog w=.ok (some (131,a,150)) w:=by kernel_rfl
theorem isNilT (a p:Addr) (W:World) (ha:W.cell? a=some (.pointer (some p))) :
    (ReflectliteValue.method (ReflectliteValue.valueError "reflectlite.Value.IsNil" 0) ReflectliteValue.isNil #[.agg #[.pointer (some ⟨1, 131, none⟩), .pointer (some a), .int .u64 150]]).run Tryz.prog W = .ok (.bool false) W := by
  rw [rlm]
  simp only [Sem.run_bind,partsT,Result.andThen]
  simp [ReflectliteValue.isNil,loadVar,isAgg,underlying,Tryz.underlying131,ha,Result.andThen]
theorem methodElem (h : Value) (w : World) : (Go.method 338 194 (.agg #[h]) "Elem").run Tryz.prog w = .ok (120, .agg #[h]) w := by kernel_rfl
theorem methodImplements (h : Value) (w : World) : (Go.method 338 194 (.agg #[h]) "Implements").run Tryz.prog w = .ok (121, .agg #[h]) w := by kernel_rfl
theorem methodAssignableTo (h : Value) (w : World) : (Go.method 338 194 (.agg #[h]) "AssignableTo").run Tryz.prog w = .ok (118, .agg #[h]) w := by kernel_rfl
theorem elemT (w:World):(ReflectliteType.method ReflectliteType.elem #[.agg #[.pointer (some ⟨1,131,none⟩)]]).run Tryz.prog w=.ok (.iface 194 (.agg #[.pointer (some ⟨1,65,none⟩)])) w:=by kernel_rfl
theorem implementsC (w : World) : (ReflectliteType.relation "Implements" ReflectliteType.implements_ #[.agg #[.pointer (some ⟨1, 65, none⟩)], .iface 194 (.agg #[.pointer (some ⟨1, 30, none⟩)])]).run Tryz.prog w = .ok (.bool true) w := by kernel_rfl
theorem valueOfC (k:Int) (w:World):(ReflectliteValue.unpack (.iface 65 (.int .i64 k))).run Tryz.prog w
    = .ok (.agg #[.pointer (some ⟨1,65,none⟩),.pointer (some ⟨w.heap.size,0,none⟩),.int .u64 130]) (w.alloc (.cells #[.int .i64 k] 65)):=by kernel_rfl
theorem elemOfT (w:World):(Rtype.elem? 131).run Tryz.prog w=.ok (some 65) w:=by kernel_rfl
theorem mkC (p:Addr) (w:World):(ReflectliteValue.mk 65 p ReflectliteValue.flagAddr).run Tryz.prog w=.ok (.agg #[.pointer (some ⟨1,65,none⟩),.pointer (some p),.int .u64 386]) w:=by kernel_rfl
theorem elemV (a p:Addr) (W:World) (ha:W.cell? a=some (.pointer (some p))) :
    (ReflectliteValue.method (ReflectliteValue.valueError "reflectlite.Value.Elem" 0) ReflectliteValue.elem #[.agg #[.pointer (some ⟨1, 131, none⟩), .pointer (some a), .int .u64 150]]).run Tryz.prog W
      = .ok (.agg #[.pointer (some ⟨1,65,none⟩),.pointer (some p),.int .u64 386]) W:=by
  rw [rlm]
  simp only [Sem.run_bind,partsT,Result.andThen]
  simp [ReflectliteValue.elem,loadVar,isAgg,underlying,Tryz.underlying131,ha,Result.andThen,elemOfT,mkC]
theorem rls (v x:Value):∃ s1 s2 s3 s4 s5:String,ReflectliteValue.set #[v,x]=(do
    let (some (dst,a,fl),some (src,b,_)):=(← ReflectliteValue.parts v,← ReflectliteValue.parts x)
      | unsupported (.noEntry s1)
    if fl / ReflectliteValue.flagAddr % 2==0 then unsupported (.noEntry s2)
    let val ← loadVar src b
    if ← Rtype.directlyAssignable dst src then storeVar dst a val
    else if ← Rtype.implements dst src then
      if (← Rtype.kind src)==20 then
        match val with
        | .nilIface=>unsupported (.noEntry s3)
        | _=>storeVar dst a val
      else storeVar dst a (.iface src val)
    else panicString (s4 ++ (← Rtype.spelt src) ++ s5 ++ (← Rtype.spelt dst))
    pure (.tuple #[])):=⟨_,_,_,_,_,rfl⟩
theorem partsA (a:Addr) (w:World):(ReflectliteValue.parts (.agg #[.pointer (some ⟨1,65,none⟩),.pointer (some a),.int .u64 386])).run Tryz.prog w=.ok (some (65,a,386)) w:=by kernel_rfl
theorem partsB (a:Addr) (w:World):(ReflectliteValue.parts (.agg #[.pointer (some ⟨1,65,none⟩),.pointer (some a),.int .u64 130])).run Tryz.prog w=.ok (some (65,a,130)) w:=by kernel_rfl
theorem directC (w:World):(Rtype.directlyAssignable 65 65).run Tryz.prog w=.ok true w:=by kernel_rfl
theorem setC (ta b:Addr) (k:Int) (old:Value) (W:World) (hb:W.cell? b=some (.int .i64 k)) (ht:W.cell? ta=some old) (hf:W.frozen? ta=false) :
    (ReflectliteValue.set #[.agg #[.pointer (some ⟨1,65,none⟩),.pointer (some ta),.int .u64 386],.agg #[.pointer (some ⟨1,65,none⟩),.pointer (some b),.int .u64 130]]).run Tryz.prog W
      = .ok (.tuple #[]) (W.setCell ta (.int .i64 k)):=by
  obtain ⟨s1,s2,s3,s4,s5,e⟩:=rls (.agg #[.pointer (some ⟨1,65,none⟩),.pointer (some ta),.int .u64 386]) (.agg #[.pointer (some ⟨1,65,none⟩),.pointer (some b),.int .u64 130])
  rw [e]
  simp only [Sem.run_bind,partsA,partsB,Result.andThen]
  simp [ReflectliteValue.flagAddr,loadVar,isAgg,underlying,Tryz.underlying65,hb,Result.andThen,directC,storeVar,Value.cells,storeCells,Addr.add]
  rw [run_store Tryz.prog W ta _ _ (by rfl)]
  simp [ht,hf]

end Go.Proofs.YthcpccddcgbanaaGreatDoor

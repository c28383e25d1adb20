/- errors.as and errors.As by contracts, at errors that are trees. Written by gen_as1.py. -/
import Derived.Test.YtcfddlfeldidjaaDoorEr1
import Derived.Deep.LoopGhost
namespace Go.Proofs.YtcfddlfeldidjaaDoor
open Go.RowKit Go.Extern.Stop Go.Stop Go.Extern
set_option maxRecDepth 100000
set_option linter.unusedVariables false

theorem ErAt.iface {w : World} : ∀ {E : Er} {v : Value}, ErAt w E v → ∃ t x, v = .iface t x
  | .code k, v, h => ⟨_, _, h⟩
  | .at_ p s e, v, h => by
    obtain ⟨b, ve, h1, _⟩ := h
    exact ⟨_, _, h1⟩
  | .join x y, v, h => by
    obtain ⟨b, g, c, vx, vy, h1, _⟩ := h
    exact ⟨_, _, h1⟩
theorem unwrapF {p : ByteArray} {s : Int} {ve : Value} (b : Nat) (w : World) (h : Blk w b 52 #[.string p, .int .i64 s, ve]) : Calls Tryd.prog 51 #[.pointer (some ⟨b, 0, none⟩)] w fun e w' => e = .returned ve ∧ w = w' := by
  have c2 : w.cell? ⟨b, 2, none⟩ = some ve := h.cell' rfl
  clear h
  go_enter Tryd.func51, Tryd.ntmps51
  go_wp2
  go_ret
  exact ⟨rfl, rfl⟩
theorem unwrapJ {g c : Nat} (b : Nat) (w : World) (h : Blk w b 60 #[.slice (some ⟨g, 0, none⟩) 2 c]) : Calls Tryd.prog 53 #[.pointer (some ⟨b, 0, none⟩)] w fun e w' => e = .returned (.slice (some ⟨g, 0, none⟩) 2 c) ∧ w = w' := by
  have c2 : w.cell? ⟨b, 0, none⟩ = some (.slice (some ⟨g, 0, none⟩) 2 c) := h.cell' rfl
  clear h
  go_enter Tryd.func53, Tryd.ntmps53
  go_wp2
  go_ret
  exact ⟨rfl, rfl⟩
theorem tyOC (v : Value) (w : World) : (ReflectliteType.typeOf #[.iface 22 v]).run Tryd.prog w = .ok (.iface 77 (.agg #[.pointer (some ⟨1, 22, none⟩)])) w := by kernel_rfl
theorem noAsC (v : Value) (xT : TypeId) (w : World) : (Instr.typeAssert (.iface 22 v) xT 81 true).run Tryd.prog w = .ok (.tuple #[.nilIface, .bool false]) w := run_typeAssert_lacksB Tryd.underlying81 (by kernel_rfl) (by kernel_rfl) v xT w
theorem tyOF (v : Value) (w : World) : (ReflectliteType.typeOf #[.iface 50 v]).run Tryd.prog w = .ok (.iface 77 (.agg #[.pointer (some ⟨1, 50, none⟩)])) w := by kernel_rfl
theorem noAsF (v : Value) (xT : TypeId) (w : World) : (Instr.typeAssert (.iface 50 v) xT 81 true).run Tryd.prog w = .ok (.tuple #[.nilIface, .bool false]) w := run_typeAssert_lacksB Tryd.underlying81 (by kernel_rfl) (by kernel_rfl) v xT w
theorem tyOJ (v : Value) (w : World) : (ReflectliteType.typeOf #[.iface 58 v]).run Tryd.prog w = .ok (.iface 77 (.agg #[.pointer (some ⟨1, 58, none⟩)])) w := by kernel_rfl
theorem noAsJ (v : Value) (xT : TypeId) (w : World) : (Instr.typeAssert (.iface 58 v) xT 81 true).run Tryd.prog w = .ok (.tuple #[.nilIface, .bool false]) w := run_typeAssert_lacksB Tryd.underlying81 (by kernel_rfl) (by kernel_rfl) v xT w
theorem unC (v : Value) (xT : TypeId) (w : World) : (Instr.typeAssert (.iface 22 v) xT 84 true).run Tryd.prog w = .ok (.tuple #[.nilIface, .bool false]) w := run_typeAssert_lacksB Tryd.underlying84 (by kernel_rfl) (by kernel_rfl) v xT w
theorem unF (v : Value) (xT : TypeId) (w : World) : (Instr.typeAssert (.iface 50 v) xT 84 true).run Tryd.prog w = .ok (.tuple #[.iface 50 v, .bool true]) w := run_typeAssert_hasB Tryd.underlying84 (by kernel_rfl) v xT w
theorem unJ (v : Value) (xT : TypeId) (w : World) : (Instr.typeAssert (.iface 58 v) xT 84 true).run Tryd.prog w = .ok (.tuple #[.nilIface, .bool false]) w := run_typeAssert_lacksB Tryd.underlying84 (by kernel_rfl) (by kernel_rfl) v xT w
theorem usC (v : Value) (xT : TypeId) (w : World) : (Instr.typeAssert (.iface 22 v) xT 86 true).run Tryd.prog w = .ok (.tuple #[.nilIface, .bool false]) w := run_typeAssert_lacksB Tryd.underlying86 (by kernel_rfl) (by kernel_rfl) v xT w
theorem usJ (v : Value) (xT : TypeId) (w : World) : (Instr.typeAssert (.iface 58 v) xT 86 true).run Tryd.prog w = .ok (.tuple #[.iface 58 v, .bool true]) w := run_typeAssert_hasB Tryd.underlying86 (by kernel_rfl) v xT w
theorem meUF (v : Value) (w : World) : (Go.method 220 50 v "Unwrap").run Tryd.prog w = .ok (51, v) w := by kernel_rfl
theorem meUJ (v : Value) (w : World) : (Go.method 220 58 v "Unwrap").run Tryd.prog w = .ok (53, v) w := by kernel_rfl
theorem asgCC (w : World) : (ReflectliteType.relation "AssignableTo" ReflectliteType.assignableTo #[.agg #[.pointer (some ⟨1, 22, none⟩)], .iface 77 (.agg #[.pointer (some ⟨1, 22, none⟩)])]).run Tryd.prog w = .ok (.bool true) w := by kernel_rfl
theorem asgCF (w : World) : (ReflectliteType.relation "AssignableTo" ReflectliteType.assignableTo #[.agg #[.pointer (some ⟨1, 22, none⟩)], .iface 77 (.agg #[.pointer (some ⟨1, 50, none⟩)])]).run Tryd.prog w = .ok (.bool false) w := by kernel_rfl
theorem asgFC (w : World) : (ReflectliteType.relation "AssignableTo" ReflectliteType.assignableTo #[.agg #[.pointer (some ⟨1, 50, none⟩)], .iface 77 (.agg #[.pointer (some ⟨1, 22, none⟩)])]).run Tryd.prog w = .ok (.bool false) w := by kernel_rfl
theorem asgFF (w : World) : (ReflectliteType.relation "AssignableTo" ReflectliteType.assignableTo #[.agg #[.pointer (some ⟨1, 50, none⟩)], .iface 77 (.agg #[.pointer (some ⟨1, 50, none⟩)])]).run Tryd.prog w = .ok (.bool true) w := by kernel_rfl
theorem asgJC (w : World) : (ReflectliteType.relation "AssignableTo" ReflectliteType.assignableTo #[.agg #[.pointer (some ⟨1, 58, none⟩)], .iface 77 (.agg #[.pointer (some ⟨1, 22, none⟩)])]).run Tryd.prog w = .ok (.bool false) w := by kernel_rfl
theorem asgJF (w : World) : (ReflectliteType.relation "AssignableTo" ReflectliteType.assignableTo #[.agg #[.pointer (some ⟨1, 58, none⟩)], .iface 77 (.agg #[.pointer (some ⟨1, 50, none⟩)])]).run Tryd.prog w = .ok (.bool false) w := by kernel_rfl
theorem valueOfTF (t : Addr) (w : World) : (ReflectliteValue.unpack (.iface 54 (.pointer (some t)))).run Tryd.prog w
    = .ok (.agg #[.pointer (some ⟨1, 54, none⟩), .pointer (some ⟨w.heap.size, 0, none⟩), .int .u64 150]) (w.alloc (.cells #[.pointer (some t)] 54)) := by kernel_rfl
theorem typeTF (a : Addr) (w : World) : (ReflectliteValue.methodAny (ReflectliteValue.valueError "reflectlite.Value.Type" 0) (fun t _ _ _ => ReflectliteType.toType t) #[.agg #[.pointer (some ⟨1, 54, none⟩), .pointer (some a), .int .u64 150]]).run Tryd.prog w
    = .ok (.iface 77 (.agg #[.pointer (some ⟨1, 54, none⟩)])) w := by kernel_rfl
theorem kindTF (w : World) : ((ReflectliteType.abiMethod fun t => (fun a : Nat => Value.int IntKind.u8 (a : Int)) <$> Rtype.kind t) #[.pointer (some ⟨1, 54, none⟩)]).run Tryd.prog w = .ok (.int .u8 22) w := by kernel_rfl
theorem kindF (w : World) : ((ReflectliteType.abiMethod fun t => (fun a : Nat => Value.int IntKind.u8 (a : Int)) <$> Rtype.kind t) #[.pointer (some ⟨1, 50, none⟩)]).run Tryd.prog w = .ok (.int .u8 22) w := by kernel_rfl
theorem partsTF (a : Addr) (w : World) : (ReflectliteValue.parts (.agg #[.pointer (some ⟨1, 54, none⟩), .pointer (some a), .int .u64 150])).run Tryd.prog w = .ok (some (54, a, 150)) w := by kernel_rfl
theorem isNilTF (a p : Addr) (W : World) (ha : W.cell? a = some (.pointer (some p))) :
    (ReflectliteValue.method (ReflectliteValue.valueError "reflectlite.Value.IsNil" 0) ReflectliteValue.isNil #[.agg #[.pointer (some ⟨1, 54, none⟩), .pointer (some a), .int .u64 150]]).run Tryd.prog W = .ok (.bool false) W := by
  rw [rlm]
  simp only [Sem.run_bind, partsTF, Result.andThen]
  simp [ReflectliteValue.isNil, loadVar, isAgg, underlying, Tryd.underlying54, ha, Result.andThen]
theorem elemTF (w : World) : (ReflectliteType.method ReflectliteType.elem #[.agg #[.pointer (some ⟨1, 54, none⟩)]]).run Tryd.prog w = .ok (.iface 77 (.agg #[.pointer (some ⟨1, 50, none⟩)])) w := by kernel_rfl
theorem implementsF (w : World) : (ReflectliteType.relation "Implements" ReflectliteType.implements_ #[.agg #[.pointer (some ⟨1, 50, none⟩)], .iface 77 (.agg #[.pointer (some ⟨1, 31, none⟩)])]).run Tryd.prog w = .ok (.bool true) w := by kernel_rfl
theorem valueOfF (p : Addr) (w : World) : (ReflectliteValue.unpack (.iface 50 (.pointer (some p)))).run Tryd.prog w
    = .ok (.agg #[.pointer (some ⟨1, 50, none⟩), .pointer (some ⟨w.heap.size, 0, none⟩), .int .u64 150]) (w.alloc (.cells #[.pointer (some p)] 50)) := by kernel_rfl
theorem elemOfTF (w : World) : (Rtype.elem? 54).run Tryd.prog w = .ok (some 50) w := by kernel_rfl
theorem mkF (p : Addr) (w : World) : (ReflectliteValue.mk 50 p ReflectliteValue.flagAddr).run Tryd.prog w = .ok (.agg #[.pointer (some ⟨1, 50, none⟩), .pointer (some p), .int .u64 406]) w := by kernel_rfl
theorem elemVF (a p : Addr) (W : World) (ha : W.cell? a = some (.pointer (some p))) :
    (ReflectliteValue.method (ReflectliteValue.valueError "reflectlite.Value.Elem" 0) ReflectliteValue.elem #[.agg #[.pointer (some ⟨1, 54, none⟩), .pointer (some a), .int .u64 150]]).run Tryd.prog W
      = .ok (.agg #[.pointer (some ⟨1, 50, none⟩), .pointer (some p), .int .u64 406]) W := by
  rw [rlm]
  simp only [Sem.run_bind, partsTF, Result.andThen]
  simp [ReflectliteValue.elem, loadVar, isAgg, underlying, Tryd.underlying54, ha, Result.andThen, elemOfTF, mkF]
theorem partsAF (a : Addr) (w : World) : (ReflectliteValue.parts (.agg #[.pointer (some ⟨1, 50, none⟩), .pointer (some a), .int .u64 406])).run Tryd.prog w = .ok (some (50, a, 406)) w := by kernel_rfl
theorem partsBF (a : Addr) (w : World) : (ReflectliteValue.parts (.agg #[.pointer (some ⟨1, 50, none⟩), .pointer (some a), .int .u64 150])).run Tryd.prog w = .ok (some (50, a, 150)) w := by kernel_rfl
theorem directF (w : World) : (Rtype.directlyAssignable 50 50).run Tryd.prog w = .ok true w := by kernel_rfl
theorem setF (ta b : Addr) (p : Addr) (old : Value) (W : World) (hb : W.cell? b = some (.pointer (some p))) (ht : W.cell? ta = some old) (hf : W.frozen? ta = false) :
    (ReflectliteValue.set #[.agg #[.pointer (some ⟨1, 50, none⟩), .pointer (some ta), .int .u64 406], .agg #[.pointer (some ⟨1, 50, none⟩), .pointer (some b), .int .u64 150]]).run Tryd.prog W
      = .ok (.tuple #[]) (W.setCell ta (.pointer (some p))) := by
  obtain ⟨s1, s2, s3, s4, s5, e⟩ := rls (.agg #[.pointer (some ⟨1, 50, none⟩), .pointer (some ta), .int .u64 406]) (.agg #[.pointer (some ⟨1, 50, none⟩), .pointer (some b), .int .u64 150])
  rw [e]
  simp only [Sem.run_bind, partsAF, partsBF, Result.andThen]
  simp [ReflectliteValue.flagAddr, loadVar, isAgg, underlying, Tryd.underlying50, hb, Result.andThen, directF, storeVar, Value.cells, storeCells, Addr.add]
  rw [run_store Tryd.prog W ta _ _ (by rfl)]
  simp [ht, hf]
set_option maxHeartbeats 4000000 in
theorem asC (n : Nat) : ∀ (E : Er) (v : Value) (old : Int) (t a : Nat) (w : World), E.depth < n → ErAt w E v → Blk w t 22 #[.int .i64 old] → Blk w a 55 #[.pointer (some ⟨t, 0, none⟩)] →
    Calls Tryd.prog 28 #[v, .iface 55 (.pointer (some ⟨t, 0, none⟩)), .agg #[.pointer (some ⟨1, 55, none⟩), .pointer (some ⟨a, 0, none⟩), .int .u64 150], .iface 77 (.agg #[.pointer (some ⟨1, 22, none⟩)])] w fun ev w' => ev = .returned (.bool true) ∧ Blk w' t 22 #[.int .i64 E.first] ∧ Fr (only t) w w' := by
  induction n with
  | zero => intro E v old t a w hd; omega
  | succ n ih =>
    intro E v old t a w hd hE hT hA
    have IH := hid_ ih
    clear ih
    have h6 := @run_callFunc_extern Tryd.prog 25 _ (fun args => ReflectliteValue.unpack (args.getD 0 (.tuple #[]))) Tryd.func25 (by kernel_rfl) (by kernel_rfl) (by kernel_rfl) (by kernel_rfl)
    have h10 := @run_callFunc_extern Tryd.prog 29 _ ReflectliteType.typeOf Tryd.func29 (by kernel_rfl) (by kernel_rfl) (by kernel_rfl) (by kernel_rfl)
    have h35 := @run_callFunc_extern Tryd.prog 58 _ (ReflectliteType.relation "AssignableTo" ReflectliteType.assignableTo) Tryd.func58 (by kernel_rfl) (by kernel_rfl) (by kernel_rfl) (by kernel_rfl)
    have h11 := @run_callFunc_extern Tryd.prog 31 _ (ReflectliteValue.method (ReflectliteValue.valueError "reflectlite.Value.Elem" 0) ReflectliteValue.elem) Tryd.func31 (by kernel_rfl) (by kernel_rfl) (by kernel_rfl) (by kernel_rfl)
    have h12 := @run_callFunc_extern Tryd.prog 32 _ ReflectliteValue.set Tryd.func32 (by kernel_rfl) (by kernel_rfl) (by kernel_rfl) (by kernel_rfl)
    have x_tyOC := tyOC
    have x_tyOF := tyOF
    have x_tyOJ := tyOJ
    have x_noAsC := noAsC
    have x_noAsF := noAsF
    have x_noAsJ := noAsJ
    have x_unC := unC
    have x_unF := unF
    have x_unJ := unJ
    have x_usC := usC
    have x_usJ := usJ
    have x_meUF := meUF
    have x_meUJ := meUJ
    have x_asgCC := asgCC
    have x_asgFC := asgFC
    have x_asgJC := asgJC
    have x_methodAssignableTo := methodAssignableTo
    have x_valueOfC := valueOfC
    obtain ⟨w0, hw0⟩ : ∃ w0, w0 = w.alloc (.cells #[.pointer (some ⟨1, 55, none⟩), .pointer (some ⟨a, 0, none⟩), .int .u64 150] 65) := ⟨_, rfl⟩
    have f0 : Fr none_ w w0 := by rw [hw0]; exact (Fr.refl none_ w).alloc _
    have BX : Hid (Blk w0 w.heap.size 65 #[.pointer (some ⟨1, 55, none⟩), .pointer (some ⟨a, 0, none⟩), .int .u64 150]) := hid_ (by rw [hw0]; exact Blk.new w _ _)
    have F0 := hid_ f0
    have HE0 := hid_ (hE.keep f0)
    have T0 := hid_ (hT.fr f0 id)
    have A0 := hid_ (hA.fr f0 id)
    clear f0 hE hT hA
    go_enter Tryd.func28, Tryd.ntmps28
    go_wp2_with fail
    change Code.wp _ _ _ _ (w.alloc (.cells #[.pointer (some ⟨1, 55, none⟩), .pointer (some ⟨a, 0, none⟩), .int .u64 150] 65))
    rw [← hw0]
    clear hw0
    go_loopg [0] (E.depth + 1) (fun k v wr => ∃ E', E'.depth < k ∧ E'.depth ≤ E.depth ∧ E'.first = E.first ∧ ErAt wr E' v ∧ Fr none_ w0 wr)
    case atStart => exact ⟨E, by omega, by omega, rfl, HE0.out, Fr.refl _ _⟩
    case round =>
      obtain ⟨E', hk, hd', hrel, hE, hF⟩ := hrel
      have F := hid_ (F0.out.then_none hF)
      have bx := BX.out.fr hF id
      have g0 : wr.cell? ⟨w.heap.size, 0, none⟩ = some (.pointer (some ⟨1, 55, none⟩)) := bx.cell' rfl
      have g1 : wr.cell? ⟨w.heap.size, 1, none⟩ = some (.pointer (some ⟨a, 0, none⟩)) := bx.cell' rfl
      have g2 : wr.cell? ⟨w.heap.size, 2, none⟩ = some (.int .u64 150) := bx.cell' rfl
      have BXr := hid_ bx
      have Tr := hid_ (T0.out.fr hF id)
      have Ar := hid_ (A0.out.fr hF id)
      have HR := hid_ hrel
      have HF := hid_ hF
      clear bx hrel hF BX T0 A0 HE0
      match E', hk, hd', HR, hE with
      | .code k, hk, hd', HR, hE =>
        obtain rfl := hE
        have el := elemV ⟨a, 0, none⟩ ⟨t, 0, none⟩ wr (Ar.out.cell' rfl)
        obtain ⟨w1, hw1⟩ : ∃ w1, w1 = wr.alloc (.cells #[.int .i64 k] 22) := ⟨_, rfl⟩
        have f1 : Fr none_ wr w1 := by rw [hw1]; exact (Fr.refl none_ wr).alloc _
        have B1 : Blk w1 wr.heap.size 22 #[.int .i64 k] := by rw [hw1]; exact Blk.new wr _ _
        have T1 := Tr.out.fr f1 id
        have st := setC ⟨t, 0, none⟩ ⟨wr.heap.size, 0, none⟩ k (.int .i64 old) w1 (B1.cell' rfl) (T1.cell' rfl) (T1.frozen 0)
        have fin : Hid (Blk (w1.setCell ⟨t, 0, none⟩ (.int .i64 k)) t 22 #[.int .i64 k] ∧ Fr (only t) w (w1.setCell ⟨t, 0, none⟩ (.int .i64 k))) := hid_ ⟨T1.set_ 0 _, (F.out.then_none f1).toOnly (p := ⟨t, 0, none⟩) _⟩
        clear B1 T1 f1
        subst hw1
        go_wp2_with fail
        go_ret
        exact ⟨rfl, by rw [← HR.out]; exact fin.out.1, fin.out.2⟩
      | .at_ p s e, hk, hd', HR, hE =>
        obtain ⟨b, ve, rfl, hb, he⟩ := hE
        obtain ⟨et, ex, rfl⟩ := he.iface
        have HB := hid_ hb
        have HE := hid_ he
        have hde : e.depth + 1 = (Er.at_ p s e).depth := rfl
        clear hb he
        go_wp2_with fail
        refine (unwrapF b _ HB.out).mono ?_
        rintro ev w1 ⟨rfl, rfl⟩
        go_wp2_with fail
        go_roundg (gk - 1)
        case rel => exact ⟨e, by omega, by omega, HR.out, HE.out, HF.out⟩
        case measure => omega
      | .join x y, hk, hd', HR, hE =>
        obtain ⟨b, g, c, vx, vy, rfl, hb, hg, hx, hy⟩ := hE
        obtain ⟨et, ex, rfl⟩ := hx.iface
        have HB := hid_ hb
        have HX := hid_ hx
        have hdx : x.depth < n := by
          have : (Er.join x y).depth = max x.depth y.depth + 1 := rfl
          omega
        have i0 : wr.cell? ⟨g, 0, none⟩ = some (.iface et ex) := hg.cell' rfl
        clear hb hg hx hy
        go_wp2_with fail
        refine (unwrapJ b _ HB.out).mono ?_
        rintro ev w1 ⟨rfl, rfl⟩
        go_wp2_with fail
        refine wp_loop_rounds 1 ?_
        rw [rounds_succ]
        go_wp2_with fail
        refine (IH.out x _ old t a _ hdx HX.out Tr.out Ar.out).mono ?_
        rintro ev w1 ⟨rfl, hb1, hf1⟩
        have FIN := hid_ (And.intro hb1 hf1)
        clear hb1 hf1
        go_wp2_with fail
        go_ret
        exact ⟨rfl, by rw [← HR.out]; exact FIN.out.1, F.out.trans FIN.out.2 (fun _ _ h => h.elim) (fun _ _ h => h)⟩
def AsF (E : Er) (t : Nat) (w : World) (ev : Ending) (w' : World) : Prop :=
  (E.fault = none ∧ ev = .returned (.bool false) ∧ Fr none_ w w') ∨
  (∃ (p : ByteArray) (s : Int) (b : Nat) (ve : Value), E.fault = some (p, s) ∧ ev = .returned (.bool true) ∧ Blk w' t 50 #[.pointer (some ⟨b, 0, none⟩)] ∧ Blk w' b 52 #[.string p, .int .i64 s, ve] ∧ Fr (only t) w w')
set_option maxHeartbeats 4000000 in
theorem asF (n : Nat) : ∀ (E : Er) (v : Value) (old : Value) (t a : Nat) (w : World), E.depth < n → ErAt w E v → Blk w t 50 #[old] → Blk w a 54 #[.pointer (some ⟨t, 0, none⟩)] →
    Calls Tryd.prog 28 #[v, .iface 54 (.pointer (some ⟨t, 0, none⟩)), .agg #[.pointer (some ⟨1, 54, none⟩), .pointer (some ⟨a, 0, none⟩), .int .u64 150], .iface 77 (.agg #[.pointer (some ⟨1, 50, none⟩)])] w (AsF E t w) := by
  induction n with
  | zero => intro E v old t a w hd; omega
  | succ n ih =>
    intro E v old t a w hd hE hT hA
    have IH := hid_ ih
    clear ih
    have h6 := @run_callFunc_extern Tryd.prog 25 _ (fun args => ReflectliteValue.unpack (args.getD 0 (.tuple #[]))) Tryd.func25 (by kernel_rfl) (by kernel_rfl) (by kernel_rfl) (by kernel_rfl)
    have h10 := @run_callFunc_extern Tryd.prog 29 _ ReflectliteType.typeOf Tryd.func29 (by kernel_rfl) (by kernel_rfl) (by kernel_rfl) (by kernel_rfl)
    have h35 := @run_callFunc_extern Tryd.prog 58 _ (ReflectliteType.relation "AssignableTo" ReflectliteType.assignableTo) Tryd.func58 (by kernel_rfl) (by kernel_rfl) (by kernel_rfl) (by kernel_rfl)
    have h11 := @run_callFunc_extern Tryd.prog 31 _ (ReflectliteValue.method (ReflectliteValue.valueError "reflectlite.Value.Elem" 0) ReflectliteValue.elem) Tryd.func31 (by kernel_rfl) (by kernel_rfl) (by kernel_rfl) (by kernel_rfl)
    have h12 := @run_callFunc_extern Tryd.prog 32 _ ReflectliteValue.set Tryd.func32 (by kernel_rfl) (by kernel_rfl) (by kernel_rfl) (by kernel_rfl)
    have x_tyOC := tyOC
    have x_tyOF := tyOF
    have x_tyOJ := tyOJ
    have x_noAsC := noAsC
    have x_noAsF := noAsF
    have x_noAsJ := noAsJ
    have x_unC := unC
    have x_unF := unF
    have x_unJ := unJ
    have x_usC := usC
    have x_usJ := usJ
    have x_meUF := meUF
    have x_meUJ := meUJ
    have x_asgCF := asgCF
    have x_asgFF := asgFF
    have x_asgJF := asgJF
    have x_methodAssignableTo := methodAssignableTo
    have x_valueOfF := valueOfF
    obtain ⟨w0, hw0⟩ : ∃ w0, w0 = w.alloc (.cells #[.pointer (some ⟨1, 54, none⟩), .pointer (some ⟨a, 0, none⟩), .int .u64 150] 65) := ⟨_, rfl⟩
    have f0 : Fr none_ w w0 := by rw [hw0]; exact (Fr.refl none_ w).alloc _
    have BX : Hid (Blk w0 w.heap.size 65 #[.pointer (some ⟨1, 54, none⟩), .pointer (some ⟨a, 0, none⟩), .int .u64 150]) := hid_ (by rw [hw0]; exact Blk.new w _ _)
    have F0 := hid_ f0
    have HE0 := hid_ (hE.keep f0)
    have T0 := hid_ (hT.fr f0 id)
    have A0 := hid_ (hA.fr f0 id)
    clear f0 hE hT hA
    go_enter Tryd.func28, Tryd.ntmps28
    go_wp2_with fail
    change Code.wp _ _ _ _ (w.alloc (.cells #[.pointer (some ⟨1, 54, none⟩), .pointer (some ⟨a, 0, none⟩), .int .u64 150] 65))
    rw [← hw0]
    clear hw0
    go_loopg [0] (E.depth + 1) (fun k v wr => ∃ E', E'.depth < k ∧ E'.depth ≤ E.depth ∧ E'.fault = E.fault ∧ ErAt wr E' v ∧ Fr none_ w0 wr)
    case atStart => exact ⟨E, by omega, by omega, rfl, HE0.out, Fr.refl _ _⟩
    case round =>
      obtain ⟨E', hk, hd', hrel, hE, hF⟩ := hrel
      have F := hid_ (F0.out.then_none hF)
      have bx := BX.out.fr hF id
      have g0 : wr.cell? ⟨w.heap.size, 0, none⟩ = some (.pointer (some ⟨1, 54, none⟩)) := bx.cell' rfl
      have g1 : wr.cell? ⟨w.heap.size, 1, none⟩ = some (.pointer (some ⟨a, 0, none⟩)) := bx.cell' rfl
      have g2 : wr.cell? ⟨w.heap.size, 2, none⟩ = some (.int .u64 150) := bx.cell' rfl
      have BXr := hid_ bx
      have Tr := hid_ (T0.out.fr hF id)
      have Ar := hid_ (A0.out.fr hF id)
      have HR := hid_ hrel
      have HF := hid_ hF
      clear bx hrel hF BX T0 A0 HE0
      match E', hk, hd', HR, hE with
      | .code k, hk, hd', HR, hE =>
        obtain rfl := hE
        go_wp2_with fail
        go_ret
        exact .inl ⟨HR.out.symm, rfl, F.out⟩
      | .at_ p s e, hk, hd', HR, hE =>
        obtain ⟨b, ve, rfl, hb, he⟩ := hE
        have el := elemVF ⟨a, 0, none⟩ ⟨t, 0, none⟩ wr (Ar.out.cell' rfl)
        obtain ⟨w1, hw1⟩ : ∃ w1, w1 = wr.alloc (.cells #[.pointer (some ⟨b, 0, none⟩)] 50) := ⟨_, rfl⟩
        have f1 : Fr none_ wr w1 := by rw [hw1]; exact (Fr.refl none_ wr).alloc _
        have B1 : Blk w1 wr.heap.size 50 #[.pointer (some ⟨b, 0, none⟩)] := by rw [hw1]; exact Blk.new wr _ _
        have T1 := Tr.out.fr f1 id
        have st := setF ⟨t, 0, none⟩ ⟨wr.heap.size, 0, none⟩ ⟨b, 0, none⟩ (old) w1 (B1.cell' rfl) (T1.cell' rfl) (T1.frozen 0)
        have fin : Hid (Blk (w1.setCell ⟨t, 0, none⟩ (.pointer (some ⟨b, 0, none⟩))) t 50 #[.pointer (some ⟨b, 0, none⟩)] ∧ Fr (only t) w (w1.setCell ⟨t, 0, none⟩ (.pointer (some ⟨b, 0, none⟩)))) := hid_ ⟨T1.set_ 0 _, (F.out.then_none f1).toOnly (p := ⟨t, 0, none⟩) _⟩
        have fin2 : Hid (Blk (w1.setCell ⟨t, 0, none⟩ (.pointer (some ⟨b, 0, none⟩))) b 52 #[.string p, .int .i64 s, ve]) := hid_ ((hb.fr f1 id).far (p := ⟨t, 0, none⟩) (hb.ne_ Tr.out (by decide)) _)
        clear hb he
        clear B1 T1 f1
        subst hw1
        go_wp2_with fail
        go_ret
        exact .inr ⟨p, s, b, ve, HR.out.symm, rfl, fin.out.1, fin2.out, fin.out.2⟩
      | .join x y, hk, hd', HR, hE =>
        obtain ⟨b, g, c, vx, vy, rfl, hb, hg, hx, hy⟩ := hE
        obtain ⟨et, ex, rfl⟩ := hx.iface
        obtain ⟨et', ex', rfl⟩ := hy.iface
        have HB := hid_ hb
        have HX := hid_ hx
        have HY := hid_ hy
        have HG := hid_ hg
        have hdx : x.depth < n ∧ y.depth < n := by
          have : (Er.join x y).depth = max x.depth y.depth + 1 := rfl
          omega
        clear hb hg hx hy
        go_wp2_with fail
        refine (unwrapJ b _ HB.out).mono ?_
        rintro ev w1 ⟨rfl, rfl⟩
        obtain ⟨wx, hwx⟩ : ∃ wx : World, wx = wr := ⟨_, rfl⟩
        rw [← hwx] at BXr Tr Ar HF F HX HY HG g0 g1 g2 ⊢
        clear hwx HB
        go_wp2_with fail
        go_loopw [50] (fun i w2 => ∃ j : Nat, j ≤ 2 ∧ i = .int .i64 j ∧ (1 ≤ j → x.fault = none) ∧ (2 ≤ j → y.fault = none) ∧ Fr none_ wx w2) (fun i _ => 2 - (intOf i).toNat)
        case atStart => exact ⟨0, by omega, rfl, fun h => by omega, fun h => by omega, Fr.refl _ _⟩
        case round =>
          obtain ⟨j, hj, rfl, hj1, hj2, hF2⟩ := hrel
          have HJ := hid_ (And.intro hj1 hj2)
          have F2 := hid_ hF2
          have g0' : wr.cell? ⟨w.heap.size, 0, none⟩ = some (.pointer (some ⟨1, 54, none⟩)) := (BXr.out.fr hF2 id).cell' rfl
          have g1' : wr.cell? ⟨w.heap.size, 1, none⟩ = some (.pointer (some ⟨a, 0, none⟩)) := (BXr.out.fr hF2 id).cell' rfl
          have g2' : wr.cell? ⟨w.heap.size, 2, none⟩ = some (.int .u64 150) := (BXr.out.fr hF2 id).cell' rfl
          have hG := HG.out.fr hF2 id
          clear hj1 hj2 hF2 g0 g1 g2
          match j, hj, HJ with
          | 0, hj, HJ =>
            have i0 : wr.cell? ⟨g, 0, none⟩ = some (.iface et ex) := hG.cell' rfl
            clear hG
            go_wp2_with fail
            refine (IH.out x _ old t a _ hdx.1 (HX.out.keep F2.out) (Tr.out.fr F2.out id) (Ar.out.fr F2.out id)).mono ?_
            rintro ev w1 (⟨hn, rfl, hf⟩ | ⟨p, s, b', ve, hs, rfl, hb1, hb2, hf⟩)
            · have HN := hid_ (And.intro hn hf)
              clear hn hf
              go_wp2_with fail
              go_roundw
              case rel => exact ⟨1, by omega, rfl, fun _ => HN.out.1, fun h => by omega, F2.out.then_none HN.out.2⟩
              case measure => simp [intOf]
            · have HS := hid_ (And.intro hs (And.intro hb1 (And.intro hb2 hf)))
              clear hs hb1 hb2 hf
              go_wp2_with fail
              go_ret
              exact .inr ⟨p, s, b', ve, by rw [← HR.out]; simp [Er.fault, HS.out.1], rfl, HS.out.2.1, HS.out.2.2.1, (F.out.then_none F2.out).trans HS.out.2.2.2 (fun _ _ h => h.elim) (fun _ _ h => h)⟩
          | 1, hj, HJ =>
            have i0 : wr.cell? ⟨g, 1, none⟩ = some (.iface et' ex') := hG.cell' rfl
            clear hG
            go_wp2_with fail
            refine (IH.out y _ old t a _ hdx.2 (HY.out.keep F2.out) (Tr.out.fr F2.out id) (Ar.out.fr F2.out id)).mono ?_
            rintro ev w1 (⟨hn, rfl, hf⟩ | ⟨p, s, b', ve, hs, rfl, hb1, hb2, hf⟩)
            · have HN := hid_ (And.intro hn hf)
              clear hn hf
              go_wp2_with fail
              go_roundw
              case rel => exact ⟨2, by omega, rfl, fun _ => HJ.out.1 (by omega), fun _ => HN.out.1, F2.out.then_none HN.out.2⟩
              case measure => simp [intOf]
            · have HS := hid_ (And.intro hs (And.intro hb1 (And.intro hb2 hf)))
              clear hs hb1 hb2 hf
              go_wp2_with fail
              go_ret
              exact .inr ⟨p, s, b', ve, by rw [← HR.out]; simp [Er.fault, HS.out.1, HJ.out.1 (by omega)], rfl, HS.out.2.1, HS.out.2.2.1, (F.out.then_none F2.out).trans HS.out.2.2.2 (fun _ _ h => h.elim) (fun _ _ h => h)⟩
          | 2, hj, HJ =>
            clear hG
            go_wp2_with fail
            go_ret
            exact .inl ⟨by rw [← HR.out]; simp [Er.fault, HJ.out.1 (by omega), HJ.out.2 (by omega)], rfl, F.out.then_none F2.out⟩
          | j + 3, hj, HJ => omega
set_option maxHeartbeats 4000000 in
theorem asTopC (E : Er) (v : Value) (old : Int) (t : Nat) (w : World) (hE : ErAt w E v) (hL : Laid w) (hT : Blk w t 22 #[.int .i64 old]) :
    Calls Tryd.prog 23 #[v, .iface 55 (.pointer (some ⟨t, 0, none⟩))] w fun ev w' => ev = .returned (.bool true) ∧ Blk w' t 22 #[.int .i64 E.first] ∧ Fr (only t) w w' := by
  have h6 := @run_callFunc_extern Tryd.prog 25 _ (fun args => ReflectliteValue.unpack (args.getD 0 (.tuple #[]))) Tryd.func25 (by kernel_rfl) (by kernel_rfl) (by kernel_rfl) (by kernel_rfl)
  have h7 := @run_callFunc_extern Tryd.prog 26 _ (ReflectliteValue.methodAny (ReflectliteValue.valueError "reflectlite.Value.Type" 0) (fun t _ _ _ => ReflectliteType.toType t)) Tryd.func26 (by kernel_rfl) (by kernel_rfl) (by kernel_rfl) (by kernel_rfl)
  have h8 := @run_callFunc_extern Tryd.prog 27 _ (ReflectliteValue.method (ReflectliteValue.valueError "reflectlite.Value.IsNil" 0) ReflectliteValue.isNil) Tryd.func27 (by kernel_rfl) (by kernel_rfl) (by kernel_rfl) (by kernel_rfl)
  have h27 := @run_callFunc_extern Tryd.prog 47 _ (ReflectliteType.abiMethod fun t => do pure (.int .u8 (← Rtype.kind t))) Tryd.func47 (by kernel_rfl) (by kernel_rfl) (by kernel_rfl) (by kernel_rfl)
  have h37 := @run_callFunc_extern Tryd.prog 60 _ (ReflectliteType.method ReflectliteType.elem) Tryd.func60 (by kernel_rfl) (by kernel_rfl) (by kernel_rfl) (by kernel_rfl)
  have h38 := @run_callFunc_extern Tryd.prog 61 _ (ReflectliteType.relation "Implements" ReflectliteType.implements_) Tryd.func61 (by kernel_rfl) (by kernel_rfl) (by kernel_rfl) (by kernel_rfl)
  have x_valueOfT := valueOfT
  have x_typeT := typeT
  have x_methodKind := methodKind
  have x_methodElem := methodElem
  have x_methodImplements := methodImplements
  have x_kindT := kindT
  have x_kindC := kindC
  have x_elemT := elemT
  have x_implementsC := implementsC
  obtain ⟨w1, hw1⟩ : ∃ w1, w1 = w.alloc (.cells #[.pointer (some ⟨t, 0, none⟩)] 55) := ⟨_, rfl⟩
  obtain ⟨w2, hw2⟩ : ∃ w2, w2 = w1.alloc (.cells #[.pointer (some ⟨1, 55, none⟩), .pointer (some ⟨w.heap.size, 0, none⟩), .int .u64 150] 65) := ⟨_, rfl⟩
  have f2 : Fr none_ w w2 := by rw [hw2, hw1]; exact ((Fr.refl none_ w).alloc _).alloc _
  have B2 : Blk w2 w.heap.size 55 #[.pointer (some ⟨t, 0, none⟩)] := by rw [hw2, hw1]; exact (Blk.new w _ _).alloc _
  have L2 : Laid w2 := hL.fr f2 id
  have hg2 : w2.cell? ⟨0, 0, none⟩ = some (.iface 77 (.agg #[.pointer (some ⟨1, 31, none⟩)])) := L2
  have n8 := isNilT ⟨w.heap.size, 0, none⟩ ⟨t, 0, none⟩ w2 (B2.cell' rfl)
  have H2 := hid_ (And.intro (hE.keep f2) (And.intro (hT.fr f2 id) (And.intro B2 f2)))
  obtain ⟨et, ex, rfl⟩ := hE.iface
  clear hE hL hT f2 B2 L2
  have K2 := hw2
  rw [hw1] at K2
  have HK2 := hid_ K2
  clear K2
  subst hw2
  subst hw1
  go_enter Tryd.func23, Tryd.ntmps23
  go_wp2_with fail
  refine (asC (E.depth + 1) E _ old t w.heap.size _ (by omega) H2.out.1 H2.out.2.1 H2.out.2.2.1).mono ?_
  rintro ev w3 hp
  have HP := hid_ hp
  clear hp
  obtain ⟨rfl, hb, hf⟩ := HP.out
  have FN := hid_ (And.intro hb (H2.out.2.2.2.trans hf (fun _ _ h => h.elim) (fun _ _ h => h) : Fr (only t) w w3))
  clear hb hf HP
  go_wp2_with fail
  go_ret
  exact ⟨rfl, FN.out⟩
set_option maxHeartbeats 4000000 in
theorem asTopF (E : Er) (v : Value) (old : Value) (t : Nat) (w : World) (hE : ErAt w E v) (hL : Laid w) (hT : Blk w t 50 #[old]) :
    Calls Tryd.prog 23 #[v, .iface 54 (.pointer (some ⟨t, 0, none⟩))] w (AsF E t w) := by
  have h6 := @run_callFunc_extern Tryd.prog 25 _ (fun args => ReflectliteValue.unpack (args.getD 0 (.tuple #[]))) Tryd.func25 (by kernel_rfl) (by kernel_rfl) (by kernel_rfl) (by kernel_rfl)
  have h7 := @run_callFunc_extern Tryd.prog 26 _ (ReflectliteValue.methodAny (ReflectliteValue.valueError "reflectlite.Value.Type" 0) (fun t _ _ _ => ReflectliteType.toType t)) Tryd.func26 (by kernel_rfl) (by kernel_rfl) (by kernel_rfl) (by kernel_rfl)
  have h8 := @run_callFunc_extern Tryd.prog 27 _ (ReflectliteValue.method (ReflectliteValue.valueError "reflectlite.Value.IsNil" 0) ReflectliteValue.isNil) Tryd.func27 (by kernel_rfl) (by kernel_rfl) (by kernel_rfl) (by kernel_rfl)
  have h27 := @run_callFunc_extern Tryd.prog 47 _ (ReflectliteType.abiMethod fun t => do pure (.int .u8 (← Rtype.kind t))) Tryd.func47 (by kernel_rfl) (by kernel_rfl) (by kernel_rfl) (by kernel_rfl)
  have h37 := @run_callFunc_extern Tryd.prog 60 _ (ReflectliteType.method ReflectliteType.elem) Tryd.func60 (by kernel_rfl) (by kernel_rfl) (by kernel_rfl) (by kernel_rfl)
  have h38 := @run_callFunc_extern Tryd.prog 61 _ (ReflectliteType.relation "Implements" ReflectliteType.implements_) Tryd.func61 (by kernel_rfl) (by kernel_rfl) (by kernel_rfl) (by kernel_rfl)
  have x_valueOfTF := valueOfTF
  have x_typeTF := typeTF
  have x_methodKind := methodKind
  have x_methodElem := methodElem
  have x_methodImplements := methodImplements
  have x_kindTF := kindTF
  have x_kindF := kindF
  have x_elemTF := elemTF
  have x_implementsF := implementsF
  obtain ⟨w1, hw1⟩ : ∃ w1, w1 = w.alloc (.cells #[.pointer (some ⟨t, 0, none⟩)] 54) := ⟨_, rfl⟩
  obtain ⟨w2, hw2⟩ : ∃ w2, w2 = w1.alloc (.cells #[.pointer (some ⟨1, 54, none⟩), .pointer (some ⟨w.heap.size, 0, none⟩), .int .u64 150] 65) := ⟨_, rfl⟩
  have f2 : Fr none_ w w2 := by rw [hw2, hw1]; exact ((Fr.refl none_ w).alloc _).alloc _
  have B2 : Blk w2 w.heap.size 54 #[.pointer (some ⟨t, 0, none⟩)] := by rw [hw2, hw1]; exact (Blk.new w _ _).alloc _
  have L2 : Laid w2 := hL.fr f2 id
  have hg2 : w2.cell? ⟨0, 0, none⟩ = some (.iface 77 (.agg #[.pointer (some ⟨1, 31, none⟩)])) := L2
  have n8 := isNilTF ⟨w.heap.size, 0, none⟩ ⟨t, 0, none⟩ w2 (B2.cell' rfl)
  have H2 := hid_ (And.intro (hE.keep f2) (And.intro (hT.fr f2 id) (And.intro B2 f2)))
  obtain ⟨et, ex, rfl⟩ := hE.iface
  clear hE hL hT f2 B2 L2
  have K2 := hw2
  rw [hw1] at K2
  have HK2 := hid_ K2
  clear K2
  subst hw2
  subst hw1
  go_enter Tryd.func23, Tryd.ntmps23
  go_wp2_with fail
  refine (asF (E.depth + 1) E _ old t w.heap.size _ (by omega) H2.out.1 H2.out.2.1 H2.out.2.2.1).mono ?_
  rintro ev w3 hp
  have HP := hid_ hp
  clear hp
  obtain ⟨b, rfl, hq⟩ : ∃ b, ev = .returned (.bool b) ∧ AsF E t w (.returned (.bool b)) w3 := by
    rcases HP.out with ⟨hn, rfl, hf⟩ | ⟨p, s, b', ve, hs, rfl, hb1, hb2, hf⟩
    · exact ⟨false, rfl, .inl ⟨hn, rfl, H2.out.2.2.2.then_none hf⟩⟩
    · exact ⟨true, rfl, .inr ⟨p, s, b', ve, hs, rfl, hb1, hb2, H2.out.2.2.2.trans hf (fun _ _ h => h.elim) (fun _ _ h => h)⟩⟩
  have HQ := hid_ hq
  clear hq HP
  go_wp2_with fail
  go_ret
  exact HQ.out
end Go.Proofs.YtcfddlfeldidjaaDoor

/- Texts of one proof, merged: As2. -/
import Derived.Deep.LoopGhost
import Derived.Deep.QuietTactic
import Derived.BigQuiet
import Derived.Test.YtfihfjbakfadkaaDoorMcA
import Derived.Test.YtfihfjbakfadkaaDoorMcE
namespace Go.Proofs.YtfihfjbakfadkaaDoor
open Go.RowKit Go.Extern.Stop Go.Stop Go.Extern
set_option maxRecDepth 100000
set_option linter.unusedVariables false

inductive Er where
  | code (k : Int)
  | at_ (p : ByteArray) (s : Int) (e : Er)
def Er.depth : Er → Nat
  | .code _ => 0
  | .at_ _ _ e => e.depth + 1
def Er.first : Er → Int
  | .code k => k
  | .at_ _ _ e => e.first
def ErAt (w : World) : Er → Value → Prop
  | .code k, v => v = errV k
  | .at_ p s e, v => ∃ b ve, v = .iface 159 (.pointer (some ⟨b, 0, none⟩)) ∧ Blk w b 161 #[.string p, .int .i64 s, ve] ∧ ErAt w e ve
theorem ErAt.keep {w w' : World} (hf : Fr none_ w w') : ∀ {E : Er} {v : Value}, ErAt w E v → ErAt w' E v
  | .code k, v, h => h
  | .at_ p s e, v, h => by
    obtain ⟨b, ve, h1, h2, h3⟩ := h
    exact ⟨b, ve, h1, h2.fr hf id, h3.keep hf⟩
theorem ErAt.iface {w : World} : ∀ {E : Er} {v : Value}, ErAt w E v → ∃ t x, v = .iface t x
  | .code _, _, rfl => ⟨_, _, rfl⟩
  | .at_ _ _ _, _, ⟨_, _, rfl, _⟩ => ⟨_, _, rfl⟩
theorem unwrapF {p : ByteArray} {s : Int} {ve : Value} (b : Nat) (w : World) (h : Blk w b 161 #[.string p, .int .i64 s, ve]) : Calls Tryd.prog 124 #[.pointer (some ⟨b, 0, none⟩)] w fun e w' => e = .returned ve ∧ w = w' := by
  have c2 : w.cell? ⟨b, 2, none⟩ = some ve := h.cell' rfl
  clear h
  go_enter Tryd.func124, Tryd.ntmps124
  go_wp2
  go_ret
  exact ⟨rfl, rfl⟩
theorem tyOC (v : Value) (w : World) : (ReflectliteType.typeOf #[.iface 56 v]).run Tryd.prog w = .ok (.iface 185 (.agg #[.pointer (some ⟨1, 56, none⟩)])) w := by kernel_rfl
theorem noAsC (v : Value) (xT : TypeId) (w : World) : (Instr.typeAssert (.iface 56 v) xT 190 true).run Tryd.prog w = .ok (.tuple #[.nilIface, .bool false]) w := run_typeAssert_lacksB Tryd.underlying190 (by kernel_rfl) (by kernel_rfl) v xT w
theorem tyOF (v : Value) (w : World) : (ReflectliteType.typeOf #[.iface 159 v]).run Tryd.prog w = .ok (.iface 185 (.agg #[.pointer (some ⟨1, 159, none⟩)])) w := by kernel_rfl
theorem noAsF (v : Value) (xT : TypeId) (w : World) : (Instr.typeAssert (.iface 159 v) xT 190 true).run Tryd.prog w = .ok (.tuple #[.nilIface, .bool false]) w := run_typeAssert_lacksB Tryd.underlying190 (by kernel_rfl) (by kernel_rfl) v xT w
theorem unC (v : Value) (xT : TypeId) (w : World) : (Instr.typeAssert (.iface 56 v) xT 193 true).run Tryd.prog w = .ok (.tuple #[.nilIface, .bool false]) w := run_typeAssert_lacksB Tryd.underlying193 (by kernel_rfl) (by kernel_rfl) v xT w
theorem unF (v : Value) (xT : TypeId) (w : World) : (Instr.typeAssert (.iface 159 v) xT 193 true).run Tryd.prog w = .ok (.tuple #[.iface 159 v, .bool true]) w := run_typeAssert_hasB Tryd.underlying193 (by kernel_rfl) v xT w
theorem usC (v : Value) (xT : TypeId) (w : World) : (Instr.typeAssert (.iface 56 v) xT 195 true).run Tryd.prog w = .ok (.tuple #[.nilIface, .bool false]) w := run_typeAssert_lacksB Tryd.underlying195 (by kernel_rfl) (by kernel_rfl) v xT w
theorem meUF (v : Value) (w : World) : (Go.method 356 159 v "Unwrap").run Tryd.prog w = .ok (124, v) w := by kernel_rfl
theorem asgCC (w : World) : (ReflectliteType.relation "AssignableTo" ReflectliteType.assignableTo #[.agg #[.pointer (some ⟨1, 56, none⟩)], .iface 185 (.agg #[.pointer (some ⟨1, 56, none⟩)])]).run Tryd.prog w = .ok (.bool true) w := by kernel_rfl
theorem asgFC (w : World) : (ReflectliteType.relation "AssignableTo" ReflectliteType.assignableTo #[.agg #[.pointer (some ⟨1, 159, none⟩)], .iface 185 (.agg #[.pointer (some ⟨1, 56, none⟩)])]).run Tryd.prog w = .ok (.bool false) w := by kernel_rfl
set_option maxHeartbeats 4000000 in
theorem asC (n : Nat) : ∀ (E : Er) (v : Value) (old : Int) (t a : Nat) (w : World), E.depth < n → ErAt w E v → Blk w t 56 #[.int .i64 old] → Blk w a 129 #[.pointer (some ⟨t, 0, none⟩)] →
    Calls Tryd.prog 68 #[v, .iface 129 (.pointer (some ⟨t, 0, none⟩)), .agg #[.pointer (some ⟨1, 129, none⟩), .pointer (some ⟨a, 0, none⟩), .int .u64 150], .iface 185 (.agg #[.pointer (some ⟨1, 56, none⟩)])] w fun ev w' => ev = .returned (.bool true) ∧ Blk w' t 56 #[.int .i64 E.first] ∧ Fr (only t) w w' := by
  induction n with
  | zero => intro E v old t a w hd; omega
  | succ n ih =>
    intro E v old t a w hd hE hT hA
    clear ih
    have h6 := @run_callFunc_extern Tryd.prog 65 _ (fun args => ReflectliteValue.unpack (args.getD 0 (.tuple #[]))) Tryd.func65 (by kernel_rfl) (by kernel_rfl) (by kernel_rfl) (by kernel_rfl)
    have h10 := @run_callFunc_extern Tryd.prog 73 _ ReflectliteType.typeOf Tryd.func73 (by kernel_rfl) (by kernel_rfl) (by kernel_rfl) (by kernel_rfl)
    have h35 := @run_callFunc_extern Tryd.prog 129 _ (ReflectliteType.relation "AssignableTo" ReflectliteType.assignableTo) Tryd.func129 (by kernel_rfl) (by kernel_rfl) (by kernel_rfl) (by kernel_rfl)
    have h11 := @run_callFunc_extern Tryd.prog 74 _ (ReflectliteValue.method (ReflectliteValue.valueError "reflectlite.Value.Elem" 0) ReflectliteValue.elem) Tryd.func74 (by kernel_rfl) (by kernel_rfl) (by kernel_rfl) (by kernel_rfl)
    have h12 := @run_callFunc_extern Tryd.prog 75 _ ReflectliteValue.set Tryd.func75 (by kernel_rfl) (by kernel_rfl) (by kernel_rfl) (by kernel_rfl)
    have x_tyOC := tyOC
    have x_tyOF := tyOF
    have x_noAsC := noAsC
    have x_noAsF := noAsF
    have x_unC := unC
    have x_unF := unF
    have x_usC := usC
    have x_meUF := meUF
    have x_asgCC := asgCC
    have x_asgFC := asgFC
    have x_methodAssignableTo := methodAssignableTo
    have x_valueOfC := valueOfC
    obtain ⟨w0, hw0⟩ : ∃ w0, w0 = w.alloc (.cells #[.pointer (some ⟨1, 129, none⟩), .pointer (some ⟨a, 0, none⟩), .int .u64 150] 168) := ⟨_, rfl⟩
    have f0 : Fr none_ w w0 := by rw [hw0]; exact (Fr.refl none_ w).alloc _
    have BX : Hid (Blk w0 w.heap.size 168 #[.pointer (some ⟨1, 129, none⟩), .pointer (some ⟨a, 0, none⟩), .int .u64 150]) := hid_ (by rw [hw0]; exact Blk.new w _ _)
    have F0 := hid_ f0
    have HE0 := hid_ (hE.keep f0)
    have T0 := hid_ (hT.fr f0 id)
    have A0 := hid_ (hA.fr f0 id)
    clear f0 hE hT hA
    go_enter Tryd.func68, Tryd.ntmps68
    go_wp2_with fail
    change Code.wp _ _ _ _ (w.alloc (.cells #[.pointer (some ⟨1, 129, none⟩), .pointer (some ⟨a, 0, none⟩), .int .u64 150] 168))
    rw [← hw0]
    clear hw0
    go_loopg [0] (E.depth + 1) (fun k v wr => ∃ E', E'.depth < k ∧ E'.depth ≤ E.depth ∧ E'.first = E.first ∧ ErAt wr E' v ∧ Fr none_ w0 wr)
    case atStart => exact ⟨E, by omega, by omega, rfl, HE0.out, Fr.refl _ _⟩
    case round =>
      obtain ⟨E', hk, hd', hrel, hE, hF⟩ := hrel
      have F := hid_ (F0.out.then_none hF)
      have bx := BX.out.fr hF id
      have g0 : wr.cell? ⟨w.heap.size, 0, none⟩ = some (.pointer (some ⟨1, 129, none⟩)) := bx.cell' rfl
      have g1 : wr.cell? ⟨w.heap.size, 1, none⟩ = some (.pointer (some ⟨a, 0, none⟩)) := bx.cell' rfl
      have g2 : wr.cell? ⟨w.heap.size, 2, none⟩ = some (.int .u64 150) := bx.cell' rfl
      have BXr := hid_ bx
      have Tr := hid_ (T0.out.fr hF id)
      have Ar := hid_ (A0.out.fr hF id)
      have HR := hid_ hrel
      have HF := hid_ hF
      clear bx hrel hF BX T0 A0 HE0
      match E', hk, hd', HR, hE with
      | .code k, hk, hd', HR, hE =>
        obtain rfl := hE
        have el := elemV ⟨a, 0, none⟩ ⟨t, 0, none⟩ wr (Ar.out.cell' rfl)
        obtain ⟨w1, hw1⟩ : ∃ w1, w1 = wr.alloc (.cells #[.int .i64 k] 56) := ⟨_, rfl⟩
        have f1 : Fr none_ wr w1 := by rw [hw1]; exact (Fr.refl none_ wr).alloc _
        have B1 : Blk w1 wr.heap.size 56 #[.int .i64 k] := by rw [hw1]; exact Blk.new wr _ _
        have T1 := Tr.out.fr f1 id
        have st := setC ⟨t, 0, none⟩ ⟨wr.heap.size, 0, none⟩ k (.int .i64 old) w1 (B1.cell' rfl) (T1.cell' rfl) (T1.frozen 0)
        have fin : Hid (Blk (w1.setCell ⟨t, 0, none⟩ (.int .i64 k)) t 56 #[.int .i64 k] ∧ Fr (only t) w (w1.setCell ⟨t, 0, none⟩ (.int .i64 k))) := hid_ ⟨T1.set_ 0 _, (F.out.then_none f1).toOnly (p := ⟨t, 0, none⟩) _⟩
        clear B1 T1 f1
        subst hw1
        go_wp2_with fail
        go_ret
        exact ⟨rfl, by rw [← HR.out]; exact fin.out.1, fin.out.2⟩
      | .at_ p s e, hk, hd', HR, hE =>
        obtain ⟨b, ve, rfl, hb, he⟩ := hE
        obtain ⟨et, ex, rfl⟩ := he.iface
        have HB := hid_ hb
        have HE := hid_ he
        have hde : e.depth + 1 = (Er.at_ p s e).depth := rfl
        clear hb he
        go_wp2_with fail
        refine (unwrapF b _ HB.out).mono ?_
        rintro ev w1 ⟨rfl, rfl⟩
        go_wp2_with fail
        go_roundg (gk - 1)
        case rel => exact ⟨e, by omega, by omega, HR.out, HE.out, HF.out⟩
        case measure => omega
set_option maxHeartbeats 4000000 in
theorem asTopC (E : Er) (v : Value) (old : Int) (t : Nat) (w : World) (hE : ErAt w E v) (hL : Laid w) (hT : Blk w t 56 #[.int .i64 old]) :
    Calls Tryd.prog 48 #[v, .iface 129 (.pointer (some ⟨t, 0, none⟩))] w fun ev w' => ev = .returned (.bool true) ∧ Blk w' t 56 #[.int .i64 E.first] ∧ Fr (only t) w w' := by
  have h6 := @run_callFunc_extern Tryd.prog 65 _ (fun args => ReflectliteValue.unpack (args.getD 0 (.tuple #[]))) Tryd.func65 (by kernel_rfl) (by kernel_rfl) (by kernel_rfl) (by kernel_rfl)
  have h7 := @run_callFunc_extern Tryd.prog 66 _ (ReflectliteValue.methodAny (ReflectliteValue.valueError "reflectlite.Value.Type" 0) (fun t _ _ _ => ReflectliteType.toType t)) Tryd.func66 (by kernel_rfl) (by kernel_rfl) (by kernel_rfl) (by kernel_rfl)
  have h8 := @run_callFunc_extern Tryd.prog 67 _ (ReflectliteValue.method (ReflectliteValue.valueError "reflectlite.Value.IsNil" 0) ReflectliteValue.isNil) Tryd.func67 (by kernel_rfl) (by kernel_rfl) (by kernel_rfl) (by kernel_rfl)
  have h27 := @run_callFunc_extern Tryd.prog 114 _ (ReflectliteType.abiMethod fun t => do pure (.int .u8 (← Rtype.kind t))) Tryd.func114 (by kernel_rfl) (by kernel_rfl) (by kernel_rfl) (by kernel_rfl)
  have h37 := @run_callFunc_extern Tryd.prog 131 _ (ReflectliteType.method ReflectliteType.elem) Tryd.func131 (by kernel_rfl) (by kernel_rfl) (by kernel_rfl) (by kernel_rfl)
  have h38 := @run_callFunc_extern Tryd.prog 132 _ (ReflectliteType.relation "Implements" ReflectliteType.implements_) Tryd.func132 (by kernel_rfl) (by kernel_rfl) (by kernel_rfl) (by kernel_rfl)
  have x_valueOfT := valueOfT
  have x_typeT := typeT
  have x_methodKind := methodKind
  have x_methodElem := methodElem
  have x_methodImplements := methodImplements
  have x_kindT := kindT
  have x_kindC := kindC
  have x_elemT := elemT
  have x_implementsC := implementsC
  obtain ⟨w1, hw1⟩ : ∃ w1, w1 = w.alloc (.cells #[.pointer (some ⟨t, 0, none⟩)] 129) := ⟨_, rfl⟩
  obtain ⟨w2, hw2⟩ : ∃ w2, w2 = w1.alloc (.cells #[.pointer (some ⟨1, 129, none⟩), .pointer (some ⟨w.heap.size, 0, none⟩), .int .u64 150] 168) := ⟨_, rfl⟩
  have f2 : Fr none_ w w2 := by rw [hw2, hw1]; exact ((Fr.refl none_ w).alloc _).alloc _
  have B2 : Blk w2 w.heap.size 129 #[.pointer (some ⟨t, 0, none⟩)] := by rw [hw2, hw1]; exact (Blk.new w _ _).alloc _
  have L2 : Laid w2 := hL.fr f2 id
  have hg2 : w2.cell? ⟨0, 0, none⟩ = some (.iface 185 (.agg #[.pointer (some ⟨1, 31, none⟩)])) := L2
  have n8 := isNilT ⟨w.heap.size, 0, none⟩ ⟨t, 0, none⟩ w2 (B2.cell' rfl)
  have H2 := hid_ (And.intro (hE.keep f2) (And.intro (hT.fr f2 id) (And.intro B2 f2)))
  obtain ⟨et, ex, rfl⟩ := hE.iface
  clear hE hL hT f2 B2 L2
  have K2 := hw2
  rw [hw1] at K2
  have HK2 := hid_ K2
  clear K2
  subst hw2
  subst hw1
  go_enter Tryd.func48, Tryd.ntmps48
  go_wp2_with fail
  refine (asC (E.depth + 1) E _ old t w.heap.size _ (by omega) H2.out.1 H2.out.2.1 H2.out.2.2.1).mono ?_
  rintro ev w3 hp
  have HP := hid_ hp
  clear hp
  obtain ⟨rfl, hb, hf⟩ := HP.out
  have FN := hid_ (And.intro hb (H2.out.2.2.2.trans hf (fun _ _ h => h.elim) (fun _ _ h => h) : Fr (only t) w w3))
  clear hb hf HP
  go_wp2_with fail
  go_ret
  exact ⟨rfl, FN.out⟩
theorem codeE (E : Er) (v : Value) (w : World) (hE : ErAt w E v) (hL : Laid w) : Calls Tryd.prog 17 #[v] w fun e w' => e = .returned (.int .i64 E.first) ∧ Fr none_ w w' := by
  have HE := hid_ hE
  have HL := hid_ hL
  clear hL hE
  go_enter Tryd.func17, Tryd.ntmps17
  go_wp2_with fail
  refine (asTopC E v 0 w.heap.size _ (HE.out.keep ((Fr.refl none_ w).alloc _)) (HL.out.alloc _) (Blk.new w _ _)).mono ?_
  rintro e w1 ⟨rfl, hb, hf⟩
  have c0 : w1.cell? ⟨w.heap.size, 0, none⟩ = some (.int .i64 E.first) := hb.cell' rfl
  have F1 := hid_ (((Fr.refl none_ w).alloc (.cells #[.int .i64 0] 56)).then_only hf (.inr (Nat.le_refl _)))
  clear hb hf
  go_wp2_with fail
  go_ret
  exact ⟨rfl, F1.out⟩
end Go.Proofs.YtfihfjbakfadkaaDoor

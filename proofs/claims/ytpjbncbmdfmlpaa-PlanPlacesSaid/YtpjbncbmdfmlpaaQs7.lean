/- A region that draws, whose operations only read (its callees may make memory): one walk in the text's order, a law for each operation. -/
import Derived.Test.YtpjbncbmdfmlpaaMd11
import Derived.Deep.QuietTactic
namespace Go.Proofs.Ytpjbncbmdfmlpaa
open Go.RowKit Go.BigFrame
set_option linter.unusedVariables false
section
/-- wpQuiet, closed to the unifier. -/
structure Qw7 (P : Program) (ops : Array Oper) (C : World → Prop) (Q : Act → Prop) (l : List Oper) (a : Act) : Prop where
  h : wpQuiet P ops C Q l a
variable {P : Program} {ops : Array Oper} {C : World → Prop} {Q : Act → Prop} {a : Act} {o : Oper} {rest : List Oper}
theorem q_skip7 (d : Option Tmp) (hd : o.dst = d) (hw : Region.wanted o (yielded ops a.tmps) = false) (h : Qw7 P ops C Q rest (a.put d undef)) : Qw7 P ops C Q (o :: rest) a := by
  subst hd
  exact ⟨wpQuiet_skip hw h.h⟩
theorem q_val7 (d : Option Tmp) (v : Value) (hd : o.dst = d) (hw : Region.wanted o (yielded ops a.tmps) = true) (hx : ∀ w, C w → (execOp a.eval o).run P w = .ok (.value v) w) (h : Qw7 P ops C Q rest (a.put d v)) : Qw7 P ops C Q (o :: rest) a := by
  subst hd
  refine ⟨wpQuiet_want hw fun K hK => ⟨v, fun w hC => ?_, hK _ h.h⟩⟩
  unfold Oper.quietAt
  rw [hx w hC]
  exact ⟨rfl, rfl⟩
theorem q_call7 (d : Option Tmp) (v : Value) (f : FuncId) (vs : Array Value) (hd : o.dst = d) (hw : Region.wanted o (yielded ops a.tmps) = true) (hx : ∀ w, C w → (execOp a.eval o).run P w = .ok (.enter f vs) w) (hc : ∀ w, C w → Calls P f vs w fun e w' => e = .returned v ∧ C w') (h : Qw7 P ops C Q rest (a.put d v)) : Qw7 P ops C Q (o :: rest) a := by
  subst hd
  refine ⟨wpQuiet_want hw fun K hK => ⟨v, fun w hC => ?_, hK _ h.h⟩⟩
  unfold Oper.quietAt
  rw [hx w hC]
  exact ⟨rfl, hc w hC⟩
theorem run_loadAt_cell7 (w : World) (ad : Addr) (ty : TypeId) (v : Value) (d : TypeDesc) (hc : w.cell? ad = some v) (hu : P.underlying ty = some d) (hd : d.isRow = false) :
    (Instr.loadAt ty (.pointer (some ad))).run P w = .ok v w := by
  have hagg : (isAgg ty).run P w = .ok false w := by
    unfold isAgg
    rw [Sem.run_bind, run_underlying hu w]
    cases d <;> simp_all
  have hl : (load ad).run P w = .ok v w := by
    rw [run_load, hc]
  simp only [Instr.loadAt, Instr.sureAddr, loadVar, Sem.run_bind, Sem.run_pure, Result.andThen_ok, hagg, Bool.false_eq_true, if_false, hl]
theorem q_cell7 (d : Option Tmp) (v : Value) (ty : TypeId) (x : Operand) (ad : Addr) (td : TypeDesc) (hd : o.dst = d) (hw : Region.wanted o (yielded ops a.tmps) = true) (ho : o.op = .load ty x) (hx : a.eval x = .pointer (some ad)) (hc : ∀ w, C w → w.cell? ad = some v) (hu : P.underlying ty = some td) (hr : td.isRow = false) (h : Qw7 P ops C Q rest (a.put d v)) : Qw7 P ops C Q (o :: rest) a :=
  q_val7 d v hd hw (fun w hC => by
    unfold execOp
    simp only [ho, hx, Sem.run_bind, Sem.run_pure, Result.andThen_ok, run_loadAt_cell7 w ad ty v td (hc w hC) hu hr]) h
theorem q_mid7 (d : Option Tmp) (cs : List Value) (ty : TypeId) (x : Operand) (b off : Nat) (td : TypeDesc) (hd : o.dst = d) (hw : Region.wanted o (yielded ops a.tmps) = true) (ho : o.op = .load ty x) (hx : a.eval x = .pointer (some ⟨b, off, none⟩)) (hc : ∀ w, C w → w.rangeAt b off cs) (hu : P.underlying ty = some td) (hr : td.isRow = true) (hi : (P.info? ty).map (·.size) = some cs.length) (h : Qw7 P ops C Q rest (a.put d (.agg cs.toArray))) : Qw7 P ops C Q (o :: rest) a :=
  q_val7 d _ hd hw (fun w hC => by
    unfold execOp
    simp only [ho, hx, Sem.run_bind, Sem.run_pure, Result.andThen_ok, run_loadAt_mid w b off ty cs td (hc w hC) hu hr hi]) h
theorem q_name7 {l : List Oper} {a0 : Act} (h : ∀ a, a = a0 → Qw7 P ops C Q l a) : Qw7 P ops C Q l a0 := h a0 rfl
theorem q_done7 (h : Q a) : Qw7 P ops C Q [] a := ⟨h⟩
theorem wp_region_q7 (C : World → Prop) {id : Nat} {K : Exit → Act → World → Prop} {l : List Oper} {w : World} (hm : P.follows .mixedOrders = true) (hB : Region.lexB .any l.toArray = true) (h0 : C w.drew)
    (h : Qw7 P l.toArray C (fun a' => ∀ w', C w' → K .normal a' w') l a) : (Code.region id l.toArray true).wp P K a w :=
  wp_region_quiet (C := C) hm hB h0 (by simpa using h.h)
/-- An operation whose value is a function's of the model. -/
theorem q_op7 (d : Option Tmp) (v : Value) (m : Sem Value) (hd : o.dst = d) (hw : Region.wanted o (yielded ops a.tmps) = true) (he : execOp a.eval o = (do pure (.value (← m)))) (hx : ∀ w, C w → m.run P w = .ok v w) (h : Qw7 P ops C Q rest (a.put d v)) : Qw7 P ops C Q (o :: rest) a :=
  q_val7 d v hd hw (fun w hC => by rw [he]; simp only [Sem.run_bind, Sem.run_pure, Result.andThen_ok, hx w hC]) h
theorem q_bool7 (d : Option Tmp) (b c : Bool) (hbc : b = c) (hd : o.dst = d) (hw : Region.wanted o (yielded ops a.tmps) = true) (hx : ∀ w, C w → (execOp a.eval o).run P w = .ok (.value (.bool b)) w) (h : Qw7 P ops C Q rest (a.put d (.bool c))) : Qw7 P ops C Q (o :: rest) a :=
  q_val7 d (.bool c) hd hw (fun w hC => by rw [← hbc]; exact hx w hC) h
end
end Go.Proofs.Ytpjbncbmdfmlpaa

/- wpAnyU (a region that draws, reads taken first), closed to the unifier; a law for each kind of operation. -/
import Derived.Test.YtfoljojacakkeaaDoorHeldU
import Derived.Deep.MidRow
namespace Go.Proofs.YtfoljojacakkeaaDoor
open Go.RowKit
set_option linter.unusedVariables false
/-- wpAnyU, closed to the unifier. -/
structure UwA (P : Program) (md : Region.Mode) (ops : Array Oper) (Q : Exit → Act → World → Prop) (S : World → Prop) (m fuel : Nat) (listed : Array Bool) (a : Act) (w : World) : Prop where
  h : wpAnyU P md ops Q S m fuel listed a w
section
variable {P : Program} {md : Region.Mode} {ops : Array Oper} {Q : Exit → Act → World → Prop} {S : World → Prop} {m fuel : Nat} {listed : Array Bool} {a : Act} {w : World} {oi : Oper}
theorem u_take (i : Nat) (d : Option Tmp) (v : Value) (hi : ops[i]? = some oi) (hd : oi.dst = d) (hs : Region.noSelect ops = true) (hf : Region.free md ops listed i = true) (hr : (Region.ready md ops listed).contains i = true)
    (hm : ((List.range ops.size).all (fun j => !decide (m ≤ j) || decide (j = i) || waitsB md ops ops.size j i) && closedB md ops listed) = true)
    (hQ : ∀ c a w, Q (.panic c) (a.put oi.dst v) w → Q (.panic c) a w) (hy : YieldsIf P ops S oi v a) (hS : S w)
    (h : UwA P md ops Q S m fuel (listed.setIfInBounds i true) (a.put d v) w) : UwA P md ops Q S m (fuel + 1) listed a w := by
  subst hd
  exact ⟨wpAnyU_take2 hi hs hf hr hm hQ hy hS h.h⟩
theorem y_val {v : Value} (hw : Region.wanted oi (yielded ops a.tmps) = true) (hx : ∀ w, S w → (execOp a.eval oi).run P w = .ok (.value v) w) : YieldsIf P ops S oi v a := .inl ⟨hw, hx⟩
theorem y_skip (hw : Region.wanted oi (yielded ops a.tmps) = false) : YieldsIf P ops S oi undef a := .inr ⟨hw, rfl⟩
theorem y_op {v : Value} (k : Sem Value) (hw : Region.wanted oi (yielded ops a.tmps) = true) (he : execOp a.eval oi = (do pure (.value (← k)))) (hx : ∀ w, S w → k.run P w = .ok v w) : YieldsIf P ops S oi v a :=
  .inl ⟨hw, fun w hS => by rw [he]; simp only [Sem.run_bind, Sem.run_pure, Result.andThen_ok, hx w hS]⟩
theorem y_bool {b c : Bool} (hbc : b = c) (hw : Region.wanted oi (yielded ops a.tmps) = true) (hx : ∀ w, S w → (execOp a.eval oi).run P w = .ok (.value (.bool b)) w) : YieldsIf P ops S oi (.bool c) a := .inl ⟨hw, fun w hS => by rw [← hbc]; exact hx w hS⟩
theorem run_loadAt_cellU (w : World) (ad : Addr) (ty : TypeId) (v : Value) (d : TypeDesc) (hc : w.cell? ad = some v) (hu : P.underlying ty = some d) (hd : d.isRow = false) :
    (Instr.loadAt ty (.pointer (some ad))).run P w = .ok v w := by
  have hagg : (isAgg ty).run P w = .ok false w := by
    unfold isAgg
    rw [Sem.run_bind, run_underlying hu w]
    cases d <;> simp_all
  have hl : (load ad).run P w = .ok v w := by
    rw [run_load, hc]
  simp only [Instr.loadAt, Instr.sureAddr, loadVar, Sem.run_bind, Sem.run_pure, Result.andThen_ok, hagg, Bool.false_eq_true, if_false, hl]
theorem y_cell {v : Value} (ty : TypeId) (x : Operand) (ad : Addr) (td : TypeDesc) (hw : Region.wanted oi (yielded ops a.tmps) = true) (ho : oi.op = .load ty x) (hx : a.eval x = .pointer (some ad)) (hc : ∀ w, S w → w.cell? ad = some v) (hu : P.underlying ty = some td) (hr : td.isRow = false) : YieldsIf P ops S oi v a :=
  .inl ⟨hw, fun w hS => by
    unfold execOp
    simp only [ho, hx, Sem.run_bind, Sem.run_pure, Result.andThen_ok, run_loadAt_cellU w ad ty v td (hc w hS) hu hr]⟩
theorem u_one (i : Nat) (hi : ops[i]? = some oi) (hw : Region.wanted oi (yielded ops a.tmps) = true) (hr : Region.ready md ops listed = [i])
    (h : Oper.wp P oi a w (fun a' w' => (m ≤ i ∨ S w') ∧ UwA P md ops Q S m fuel (listed.setIfInBounds i true) a' w') Q) : UwA P md ops Q S m (fuel + 1) listed a w := by
  refine ⟨wpAnyU_all hr (by simp) (fun j hj => ?_)⟩
  obtain rfl : j = i := by simpa using hj
  refine wpOp_mono (K := fun a' w' => (m ≤ j ∨ S w') ∧ UwA P md ops Q S m fuel (listed.setIfInBounds j true) a' w') (fun a' w' h' => ⟨h'.1, h'.2.h⟩) ?_
  unfold wpOp
  simp only [hi, hw, if_true]
  exact .inl h
/-- The one operation that is ready calls a function, whose value is known. -/
theorem u_call (i : Nat) (d : Option Tmp) (f : FuncId) (vs : Array Value) (v : Value) (F : World → Prop) (hi : ops[i]? = some oi) (hd : oi.dst = d) (hw : Region.wanted oi (yielded ops a.tmps) = true) (hr : Region.ready md ops listed = [i])
    (hx : (execOp a.eval oi).run P w = .ok (.enter f vs) w) (hc : Calls P f vs w (fun e w' => e = .returned v ∧ F w'))
    (h : ∀ w', F w' → S w' ∧ UwA P md ops Q S m fuel (listed.setIfInBounds i true) (a.put d v) w') : UwA P md ops Q S m (fuel + 1) listed a w := by
  subst hd
  refine u_one i hi hw hr ?_
  unfold Oper.wp
  rw [hx, Oper.upon_enter]
  refine hc.mono ?_
  rintro e w' ⟨rfl, hF⟩
  exact ⟨.inr (h w' hF).1, (h w' hF).2⟩
/-- .. whose value the call tells. -/
theorem u_callE (i : Nat) (d : Option Tmp) (f : FuncId) (vs : Array Value) (F : Value → World → Prop) (hi : ops[i]? = some oi) (hd : oi.dst = d) (hw : Region.wanted oi (yielded ops a.tmps) = true) (hr : Region.ready md ops listed = [i])
    (hx : (execOp a.eval oi).run P w = .ok (.enter f vs) w) (hc : Calls P f vs w (fun e w' => ∃ v, e = .returned v ∧ F v w'))
    (h : ∀ v w', F v w' → S w' ∧ UwA P md ops Q S m fuel (listed.setIfInBounds i true) (a.put d v) w') : UwA P md ops Q S m (fuel + 1) listed a w := by
  subst hd
  refine u_one i hi hw hr ?_
  unfold Oper.wp
  rw [hx, Oper.upon_enter]
  refine hc.mono ?_
  rintro e w' ⟨v, rfl, hF⟩
  exact ⟨.inr (h v w' hF).1, (h v w' hF).2⟩
/-- The one operation that is ready stores a whole struct. -/
theorem u_store (i : Nat) (ty : TypeId) (x y : Operand) (b o : Nat) (cells : Array Value) (hi : ops[i]? = some oi) (hd : oi.dst = none) (hw : Region.wanted oi (yielded ops a.tmps) = true) (hr : Region.ready md ops listed = [i])
    (ho : oi.op = .store ty x y) (hx : a.eval x = .pointer (some ⟨b, o, none⟩)) (hy : a.eval y = .agg cells) (ht : w.there b o cells.size) (hz : (P.info? ty).map (·.size) = some cells.size) (h1 : cells.all (·.oneCell') = true)
    (h : ∀ w', w' = w.setCells b o cells.toList → S w' ∧ UwA P md ops Q S m fuel (listed.setIfInBounds i true) a w') : UwA P md ops Q S m (fuel + 1) listed a w := by
  refine u_one i hi hw hr ?_
  refine wp_store_mid ty x y ho b o cells hx hy ht hz h1 ?_
  rw [hd]
  exact ⟨.inr (h _ rfl).1, (h _ rfl).2⟩
theorem u_done (hr : Region.ready md ops listed = []) (h : Q .normal a w) : UwA P md ops Q S m fuel listed a w := ⟨wpAnyU_done hr h fuel⟩
theorem wp_region_u (m : Nat) (S : World → Prop) {id : Nat} (hm : P.follows .mixedOrders = true)
    (h : UwA P .any ops Q S m ops.size (Array.replicate ops.size false) a w.drew) : (Code.region id ops true).wp P Q a w := wp_region_U hm h.h
end
end Go.Proofs.YtfoljojacakkeaaDoor

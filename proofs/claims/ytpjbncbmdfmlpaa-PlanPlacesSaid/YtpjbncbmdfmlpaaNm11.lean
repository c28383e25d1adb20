/- plan.Name by contract, and PlanNames. -/
import Derived.Test.YtpjbncbmdfmlpaaDcd7
namespace Go.Proofs.Ytpjbncbmdfmlpaa
open Go.RowKit Go.BigFrame
set_option maxRecDepth 100000
set_option linter.unusedVariables false

/-- A guarded load of a whole struct. -/
theorem wpList_load_midG {P : Program} {ops : Array Oper} {rest : List Oper} {op : Oper} {a : Act} {w : World} {Q : Exit → Act → World → Prop} (hw : Region.wanted op (yielded ops a.tmps) = true) (ty : TypeId) (x : Operand) (ho : op.op = .load ty x)
    (b o : Nat) (hx : a.eval x = .pointer (some ⟨b, o, none⟩)) (cs : List Value) (d : TypeDesc) (hc : w.rangeAt b o cs)
    (hu : P.underlying ty = some d) (hd : d.isRow = true) (hi : (P.info? ty).map (·.size) = some cs.length)
    (h : wpList P ops Q rest (a.put op.dst (.agg cs.toArray)) w) : wpList P ops Q (op :: rest) a w := by
  unfold wpList
  rw [if_pos hw]
  exact .inl (wp_load_mid ty x ho b o hx cs d hc hu hd hi h)
def nmL : List ByteArray := [⟨#[]⟩, ⟨#[100, 111, 119, 110]⟩, ⟨#[97, 99, 114, 111, 115, 115]⟩, ⟨#[97, 103, 97, 105, 110]⟩, ⟨#[112, 111, 115, 116]⟩, ⟨#[104, 101, 108, 112]⟩, ⟨#[116, 105, 100, 121]⟩, ⟨#[115, 112, 108, 105, 116]⟩, ⟨#[103, 114, 111, 119]⟩, ⟨#[104, 111, 108, 100]⟩, ⟨#[97, 99, 116]⟩]
def nameM (k : Int) : ByteArray := if 1 ≤ k ∧ k ≤ 10 then (nmL[k.toNat]?).getD nilS else nilS
theorem ten {k : Int} (h : 1 ≤ k ∧ k ≤ 10) : k = 1 ∨ k = 2 ∨ k = 3 ∨ k = 4 ∨ k = 5 ∨ k = 6 ∨ k = 7 ∨ k = 8 ∨ k = 9 ∨ k = 10 := by omega
set_option maxHeartbeats 4000000 in
theorem name_ok (k : Int) (w : World) : Calls Try.prog 27 #[.int .i64 k] w (RetQ (.string (nameM k)) w) := by
  by_cases h : 1 ≤ k ∧ k ≤ 10
  · rcases ten h with rfl | rfl | rfl | rfl | rfl | rfl | rfl | rfl | rfl | rfl
    · clear h
      go_enter Try.func27, Try.ntmps27
      go_wp2
      go_ret
      exact ⟨rfl, Fr.refl _ _⟩
    · clear h
      go_enter Try.func27, Try.ntmps27
      go_wp2
      go_ret
      exact ⟨rfl, Fr.refl _ _⟩
    · clear h
      go_enter Try.func27, Try.ntmps27
      go_wp2
      go_ret
      exact ⟨rfl, Fr.refl _ _⟩
    · clear h
      go_enter Try.func27, Try.ntmps27
      go_wp2
      go_ret
      exact ⟨rfl, Fr.refl _ _⟩
    · clear h
      go_enter Try.func27, Try.ntmps27
      go_wp2
      go_ret
      exact ⟨rfl, Fr.refl _ _⟩
    · clear h
      go_enter Try.func27, Try.ntmps27
      go_wp2
      go_ret
      exact ⟨rfl, Fr.refl _ _⟩
    · clear h
      go_enter Try.func27, Try.ntmps27
      go_wp2
      go_ret
      exact ⟨rfl, Fr.refl _ _⟩
    · clear h
      go_enter Try.func27, Try.ntmps27
      go_wp2
      go_ret
      exact ⟨rfl, Fr.refl _ _⟩
    · clear h
      go_enter Try.func27, Try.ntmps27
      go_wp2
      go_ret
      exact ⟨rfl, Fr.refl _ _⟩
    · clear h
      go_enter Try.func27, Try.ntmps27
      go_wp2
      go_ret
      exact ⟨rfl, Fr.refl _ _⟩
  · have hn : nameM k = nilS := if_neg h
    have HN := hid_ hn
    have e1 : (k == 1) = false := beq_eq_false_iff_ne.2 (by omega)
    have e2 : (k == 2) = false := beq_eq_false_iff_ne.2 (by omega)
    have e3 : (k == 3) = false := beq_eq_false_iff_ne.2 (by omega)
    have e4 : (k == 4) = false := beq_eq_false_iff_ne.2 (by omega)
    have e5 : (k == 5) = false := beq_eq_false_iff_ne.2 (by omega)
    have e6 : (k == 6) = false := beq_eq_false_iff_ne.2 (by omega)
    have e7 : (k == 7) = false := beq_eq_false_iff_ne.2 (by omega)
    have e8 : (k == 8) = false := beq_eq_false_iff_ne.2 (by omega)
    have e9 : (k == 9) = false := beq_eq_false_iff_ne.2 (by omega)
    have e10 : (k == 10) = false := beq_eq_false_iff_ne.2 (by omega)
    clear h hn
    go_enter Try.func27, Try.ntmps27
    go_wp2
    go_ret
    exact ⟨by rw [HN.out]; rfl, Fr.refl _ _⟩
end Go.Proofs.Ytpjbncbmdfmlpaa

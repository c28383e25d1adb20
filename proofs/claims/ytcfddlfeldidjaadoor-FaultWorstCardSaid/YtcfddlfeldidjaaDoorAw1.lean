/- said at the awake error, awake of layer 1, and Trail. -/
import Derived.Test.YtcfddlfeldidjaaDoorWt1
import Derived.Outline
namespace Go.Proofs.YtcfddlfeldidjaaDoor
open Go.RowKit
set_option maxRecDepth 100000
set_option linter.unusedVariables false

theorem taFF (v : Value) (xT : TypeId) (w : World) : (Instr.typeAssert (.iface 50 v) xT 50 true).run Tryd.prog w = .ok (.tuple #[v, .bool true]) w := by kernel_rfl
theorem taCF (v : Value) (xT : TypeId) (w : World) : (Instr.typeAssert (.iface 22 v) xT 50 true).run Tryd.prog w = .ok (.tuple #[.pointer none, .bool false]) w := by kernel_rfl
theorem taJF (v : Value) (xT : TypeId) (w : World) : (Instr.typeAssert (.iface 58 v) xT 50 true).run Tryd.prog w = .ok (.tuple #[.pointer none, .bool false]) w := by kernel_rfl
theorem taNF (xT : TypeId) (w : World) : (Instr.typeAssert .nilIface xT 50 true).run Tryd.prog w = .ok (.tuple #[.pointer none, .bool false]) w := by kernel_rfl
theorem taCC (v : Value) (xT : TypeId) (w : World) : (Instr.typeAssert (.iface 22 v) xT 22 true).run Tryd.prog w = .ok (.tuple #[v, .bool true]) w := by kernel_rfl
abbrev sTree : ByteArray := ⟨#[116, 114, 101, 101]⟩
abbrev sArena : ByteArray := ⟨#[97, 114, 101, 110, 97]⟩
abbrev sAw : ByteArray := ⟨#[116, 114, 101, 101, 58, 32, 97, 114, 101, 110, 97, 58, 32, 102, 117, 108, 108]⟩
def awE : Er := .at_ sTree 3 (.at_ sArena 7 (.code 3))
set_option maxHeartbeats 4000000 in
theorem said_aw (v : Value) (w : World) (h : ErAt w awE v) : Calls Tryd.prog 22 #[v] w fun e w' => e = .returned (.string sAw) ∧ Fr none_ w w' := by
  obtain ⟨b1, v1, rfl, h1, b2, v2, rfl, h2, rfl⟩ := h
  have c0 : w.cell? ⟨b1, 0, none⟩ = some (.string sTree) := h1.cell' rfl
  have c2 : w.cell? ⟨b1, 2, none⟩ = some (fltV b2) := h1.cell' rfl
  have d0 : w.cell? ⟨b2, 0, none⟩ = some (.string sArena) := h2.cell' rfl
  have d2 : w.cell? ⟨b2, 2, none⟩ = some (errV 3) := h2.cell' rfl
  have x1 := taFF
  have x2 := taCF
  have x3 := taCC
  clear h1 h2
  go_enter Tryd.func22, Tryd.ntmps22
  go_wp2_with fail
  refine wp_loop_rounds 3 ?_
  rw [rounds_succ]
  go_wp2_with fail
  rw [rounds_succ]
  go_wp2_with fail
  rw [rounds_succ]
  go_wp2_with fail
  refine (error_ok 3 _).mono ?_
  rintro e w1 ⟨rfl, hf⟩
  have HF := hid_ hf
  clear hf
  go_wp2_with fail
  go_ret
  exact ⟨by kernel_rfl, HF.out⟩
set_option maxHeartbeats 4000000 in
theorem awake1 (w : World) (hL : Laid w) : Calls Tryd.prog 11 #[] w fun e w' => e = .returned (.bool true) ∧ Fr none_ w w' := by
  have HL := hid_ hL
  clear hL
  go_enter Tryd.func11, Tryd.ntmps11
  go_wp2_with fail
  refine (at_any sArena 7 _ _ _).mono ?_
  rintro e w1 ha
  have HA := hid_ ha
  obtain ⟨rfl, -, -⟩ := ha
  go_wp2_with fail
  refine (at_any sTree 3 _ _ _).mono ?_
  rintro e w2 hb
  have HB := hid_ hb
  obtain ⟨rfl, -, -⟩ := hb
  have E2 : Hid (ErAt w2 awE (fltV w1.heap.size) ∧ Fr none_ w w2) := hid_ ⟨HB.out.er (HA.out.er (show ErAt w (.code 3) (errV 3) from rfl)), HA.out.2.2.then_none HB.out.2.2⟩
  clear HA HB
  go_wp2_with fail
  refine (said_aw _ _ E2.out.1).mono ?_
  rintro e w3 ⟨rfl, hf3⟩
  have F3 := hid_ hf3
  clear hf3
  go_wp2_with fail
  refine (codeE awE _ _ (E2.out.1.keep F3.out) (HL.out.fr (E2.out.2.then_none F3.out) id)).mono ?_
  rintro e w4 ⟨rfl, hf4⟩
  have F4 := hid_ hf4
  have e3 : awE.first = 3 := rfl
  rw [e3]
  clear hf4 e3
  go_wp2_with fail
  refine (weight_ok 4 _).mono ?_
  rintro e w5 ⟨rfl, hf5⟩
  have F5 := hid_ hf5
  have e3 : wtM 4 = 5 := rfl
  rw [e3]
  clear hf5 e3
  go_wp2_with fail
  go_ret
  exact ⟨rfl, ((E2.out.2.then_none F3.out).then_none F4.out).then_none F5.out⟩

/-- FaultWeights' walk. -/
theorem weights_walk (c : Int) (w : World) (hL : Laid w) : Calls Tryd.prog 3 #[.int .i64 c] w fun e w' => e = .returned (.bool true) ∧ Fr none_ w w' := by
  have HL := hid_ hL
  clear hL
  go_enter Tryd.func3, Tryd.ntmps3
  go_wp2_with fail
  refine (weight_ok c _).mono ?_
  rintro e w1 ⟨rfl, hf1⟩
  have F1 := hid_ hf1
  clear hf1
  go_wp2_with fail
  refine (rweight_ok c _).mono ?_
  rintro e w2 ⟨rfl, hf2⟩
  have F2 := hid_ hf2
  clear hf2
  go_wp2_with fail
  refine (error_ok c _).mono ?_
  rintro e w3 ⟨rfl, hf3⟩
  have F3 := hid_ hf3
  clear hf3
  go_wp2_with fail
  refine (rtext_ok c _).mono ?_
  rintro e w4 ⟨rfl, hf4⟩
  have F4 := hid_ hf4
  clear hf4
  go_wp2_with fail
  have FA := ((F1.out.then_none F2.out).then_none F3.out).then_none F4.out
  have HFA := hid_ FA
  clear FA
  refine (awake1 _ (HL.out.fr HFA.out id)).mono ?_
  rintro e w5 ⟨rfl, hf5⟩
  have F5 := hid_ hf5
  clear hf5
  go_wp2_with fail
  go_ret
  exact ⟨rfl, HFA.out.then_none F5.out⟩
end Go.Proofs.YtcfddlfeldidjaaDoor

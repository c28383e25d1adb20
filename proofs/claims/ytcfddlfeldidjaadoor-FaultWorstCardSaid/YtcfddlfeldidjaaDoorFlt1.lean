/- Package fault by contracts: At, Code, Place, Trail; weights and texts. Written by gen_flt1.py. -/
import Derived.Test.YtcfddlfeldidjaaDoorAs1
import Derived.Deep.QuietTactic
import Derived.BigQuiet
namespace Go.Proofs.YtcfddlfeldidjaaDoor
open Go.RowKit
set_option maxRecDepth 100000
set_option linter.unusedVariables false

theorem at_nil (p : ByteArray) (s : Int) (w : World) : Calls Tryd.prog 12 #[.string p, .int .i64 s, .nilIface] w fun e w' => e = .returned .nilIface ∧ w = w' := by
  go_enter Tryd.func12, Tryd.ntmps12
  go_wp2
  go_ret
  exact ⟨rfl, rfl⟩
def AtPost (p : ByteArray) (s : Int) (v : Value) (w : World) (e : Ending) (w' : World) : Prop := e = .returned (fltV w.heap.size) ∧ Blk w' w.heap.size 52 #[.string p, .int .i64 s, v] ∧ Fr none_ w w'
theorem at_any (p : ByteArray) (s : Int) (t : TypeId) (x : Value) (w : World) : Calls Tryd.prog 12 #[.string p, .int .i64 s, .iface t x] w (AtPost p s (.iface t x) w) := by
  go_enter Tryd.func12, Tryd.ntmps12
  go_wp2
  go_ret
  exact ⟨rfl, Blk.new w _ _, (Fr.refl none_ w).alloc _⟩
/-- An error that came by a place. -/
theorem AtPost.er {p : ByteArray} {s : Int} {v : Value} {w w' : World} {e : Ending} (h : AtPost p s v w e w') {E : Er} (hE : ErAt w E v) : ErAt w' (.at_ p s E) (fltV w.heap.size) := ⟨_, _, rfl, h.2.1, hE.keep h.2.2⟩

theorem codeE (E : Er) (v : Value) (w : World) (hE : ErAt w E v) (hL : Laid w) : Calls Tryd.prog 16 #[v] w fun e w' => e = .returned (.int .i64 E.first) ∧ Fr none_ w w' := by
  have HE := hid_ hE
  have HL := hid_ hL
  clear hL hE
  go_enter Tryd.func16, Tryd.ntmps16
  go_wp2_with fail
  refine (asTopC E v 0 w.heap.size _ (HE.out.keep ((Fr.refl none_ w).alloc _)) (HL.out.alloc _) (Blk.new w _ _)).mono ?_
  rintro e w1 ⟨rfl, hb, hf⟩
  have c0 : w1.cell? ⟨w.heap.size, 0, none⟩ = some (.int .i64 E.first) := hb.cell' rfl
  have F1 := hid_ (((Fr.refl none_ w).alloc (.cells #[.int .i64 0] 22)).then_only hf (.inr (Nat.le_refl _)))
  clear hb hf
  go_wp2_with fail
  go_ret
  exact ⟨rfl, F1.out⟩
abbrev noS : ByteArray := ⟨#[]⟩
def placeV : Option (ByteArray × Int) → Value
  | some x => .tuple #[.string x.1, .int .i64 x.2, .bool true]
  | none => .tuple #[.string noS, .int .i64 0, .bool false]
theorem place_nil (w : World) : Calls Tryd.prog 15 #[.nilIface] w fun e w' => e = .returned (placeV none) ∧ Fr none_ w w' := by
  go_enter Tryd.func15, Tryd.ntmps15
  go_wp2_with (go_at_call 23; refine (as_nil _ _).mono ?_; rintro e w' ⟨rfl, rfl⟩)
  go_ret3
  exact ⟨rfl, by repeat (first | exact Fr.refl _ _ | apply Fr.drew | apply Fr.alloc)⟩
set_option maxHeartbeats 4000000 in
theorem placeE (E : Er) (v : Value) (w : World) (hE : ErAt w E v) (hL : Laid w) : Calls Tryd.prog 15 #[v] w fun e w' => e = .returned (placeV E.fault) ∧ Fr none_ w w' := by
  have HE := hid_ hE
  have HL := hid_ hL
  clear hL hE
  go_enter Tryd.func15, Tryd.ntmps15
  go_wp2_with fail
  refine (asTopF E v (.pointer none) w.heap.size _ (HE.out.keep ((Fr.refl none_ w).alloc _)) (HL.out.alloc _) (Blk.new w _ _)).mono ?_
  rintro e w1 (⟨hn, rfl, hf⟩ | ⟨p, s, b, ve, hs, rfl, hb1, hb2, hf⟩)
  · have HF := hid_ (And.intro hn (((Fr.refl none_ w).alloc (.cells #[.pointer none] 50)).then_none hf))
    clear hn hf
    go_wp2_with fail
    go_ret3
    exact ⟨by rw [HF.out.1]; rfl, HF.out.2⟩
  · have c0 : w1.cell? ⟨w.heap.size, 0, none⟩ = some (.pointer (some ⟨b, 0, none⟩)) := hb1.cell' rfl
    have c1 : w1.cell? ⟨b, 0, none⟩ = some (.string p) := hb2.cell' rfl
    have c2 : w1.cell? ⟨b, 1, none⟩ = some (.int .i64 s) := hb2.cell' rfl
    have F1 := hid_ (And.intro hs (((Fr.refl none_ w).alloc (.cells #[.pointer none] 50)).then_only hf (.inr (Nat.le_refl _))))
    clear hb1 hb2 hf hs
    go_wp2_with fail
    go_quiet (fail)
    go_wp2_with fail
    go_ret3
    exact ⟨by rw [F1.out.1]; rfl, by repeat (first | exact F1.out.2 | apply Fr.drewN | apply Fr.drew)⟩
end Go.Proofs.YtcfddlfeldidjaaDoor

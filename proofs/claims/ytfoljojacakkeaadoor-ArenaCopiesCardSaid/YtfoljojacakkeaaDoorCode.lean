/- fault.Code by contracts, at errors that are nil or one of api's codes. -/
import Derived.Test.YtfoljojacakkeaaDoorAs
import Derived.Test.YtfoljojacakkeaaDoorErrOf
namespace Go.Proofs.YtfoljojacakkeaaDoor
open Go.RowKit
set_option linter.unusedVariables false

/-- The variable errors.errorType holds the handle of the type error. -/
def Laid (w : World) : Prop := w.cell? ⟨0, 0, none⟩ = some (.iface 239 (.agg #[.pointer (some ⟨1, 62, none⟩)]))
theorem Laid.lt {w : World} (h : Laid w) : 0 < w.heap.size := World.block_lt_of_cell? w _ h
theorem Laid.fr {w w' : World} {S : Nat → Prop} (h : Laid w) (hf : Fr S w w') (hS : ¬ S 0) : Laid w' :=
  (World.cell?_of_block (hf.block 0 h.lt hS)).trans h
theorem Laid.alloc {w : World} (h : Laid w) (o : Obj) : Laid (w.alloc o) := h.fr ((Fr.refl none_ w).alloc o) id

theorem code_nil (w : World) : Calls Tryd.prog 29 #[.nilIface] w fun e w' => e = .returned (.int .i64 0) ∧ Fr none_ w w' := by
  go_enter Tryd.func29, Tryd.ntmps29
  go_wp2_with (go_at_call 72; refine (as_nil _ _).mono ?_; rintro e w' ⟨rfl, rfl⟩)
  go_ret
  exact ⟨rfl, by repeat (first | exact Fr.refl _ _ | apply Fr.drew | apply Fr.alloc)⟩

theorem code_hit (k : Int) (w : World) (hL : Laid w) : Calls Tryd.prog 29 #[errV k] w fun e w' => e = .returned (.int .i64 k) ∧ Fr none_ w w' := by
  have HL := hid_ hL
  clear hL
  go_enter Tryd.func29, Tryd.ntmps29
  go_wp2_with fail
  refine (as_hit k 0 _ _ (HL.out.alloc _) (Blk.new w _ _)).mono ?_
  rintro e w1 ⟨rfl, hb, hf⟩
  have c0 : w1.cell? ⟨w.heap.size, 0, none⟩ = some (.int .i64 k) := hb.cell' rfl
  have F1 := hid_ (((Fr.refl none_ w).alloc (.cells #[.int .i64 0] 65)).then_only hf (.inr (Nat.le_refl _)))
  clear hb hf
  go_wp2
  go_ret
  exact ⟨rfl, F1.out⟩

/-- An error as its number: 0 is nil. -/
theorem code_any (k : Int) (w : World) (hL : Laid w) : Calls Tryd.prog 29 #[errOf k] w fun e w' => e = .returned (.int .i64 k) ∧ Fr none_ w w' := by
  by_cases h : k = 0
  · subst h; exact code_nil w
  · rw [errOf_pos h]; exact code_hit k w hL
end Go.Proofs.YtfoljojacakkeaaDoor

/- Texts of one proof, merged: ChainC9. -/
import Derived.Test.YtfihfjbakfadkaaDoorMcS
namespace Go.Proofs.YtfihfjbakfadkaaDoor
open Go.RowKit
set_option maxRecDepth 100000
set_option linter.unusedVariables false

set_option maxHeartbeats 2000000 in
theorem chain_bad {m : Nat} {k : Int} {l : Lm} {x : St} (w : World) (h : Mm w m k l x) (n : Int) (hb : pgC x.ps n ≠ 0) :
    Calls Tryd.prog 14 #[.pointer (some ⟨m, 0, none⟩), .int .i64 n] w fun e w' => (∃ b, e = .returned (.tuple #[.slice none 0 0, .slice none 0 0, .iface 159 (.pointer (some ⟨b, 0, none⟩))]) ∧ Blk w' b 161 #[.string sTable9, .int .i64 n, errV (pgC x.ps n)]) ∧ Fr none_ w w' := by
  have H := hid_ h
  have HB := hid_ hb
  have m8 : w.cell? ⟨m, 8, none⟩ = some (.pointer (some ⟨x.T, 0, none⟩)) := h.b.cell' rfl
  clear h hb
  go_enter Tryd.func14, Tryd.ntmps14
  go_wp2_with fail
  refine (head_bad n _ H.out.tb HB.out).mono ?_
  rintro e w1 ⟨rfl, hf1⟩
  have F1 := hid_ hf1
  clear hf1 m8
  go_wp2_with fail
  refine (fat_err sTable9 n _ _).mono ?_
  rintro e w3 ⟨rfl, hbb, hf3⟩
  rw [World.size_alloc] at hbb
  have B3 := hid_ (And.intro hbb ((F1.out.alloc _).then_none hf3))
  clear hbb hf3
  go_wp2_with fail
  go_ret3
  exact ⟨⟨_, rfl, B3.out.1⟩, B3.out.2⟩
end Go.Proofs.YtfihfjbakfadkaaDoor

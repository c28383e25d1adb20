/- Layer 5's awake returns true. -/
import Derived.Test.YtnlpnbllnddaaaaDoorMap3
namespace Go.Proofs.YtnlpnbllnddaaaaDoor
open Go.RowKit

theorem awake5 (w : World) : Calls Tryd.prog 7 #[] w fun e w' => e = .returned (.bool true) ∧ Fr none_ w w' := by
  go_enter Tryd.func7, Tryd.ntmps7
  go_wp2_with fail
  refine (mapNew_ok 2 _ (by omega) (by omega)).mono ?_
  rintro e w1 ⟨rfl, ht1, hf1, hs1⟩
  have H1 := hid_ ht1
  have F1 := hid_ hf1
  clear ht1 hf1
  go_wp2_with fail
  refine (take_ok _ _ _ 0 0 0 w1 H1.out rfl (fun j p hj => by omega)).mono ?_
  rintro e w2 ⟨rfl, hw2⟩
  have H2 : Hid (Tbl w2 (w.heap.size + 1) w.heap.size [(true, 0, 0), (false, 0, 0)]) := by
    rw [hw2]; exact H1.out.set_ (i := 0) (by decide) (true, 0, 0)
  have F2 : Hid (Fr none_ w w2) := by
    rw [hw2]; exact F1.out.then_only (setPg_only _ _ _ _) (.inr (Nat.le_refl _))
  clear hw2
  go_wp2_with fail
  refine (swap_ok _ _ _ 0 0 0 0 0 1 1 w2 H2.out rfl).mono ?_
  rintro e w3 ⟨rfl, ht3, hf3⟩
  have H3 : Hid (Tbl w3 (w.heap.size + 1) w.heap.size [(true, 1, 1), (false, 0, 0)]) := hid_ (by simpa using ht3)
  have F3 : Hid (Fr none_ w w3) := F2.out.then_only hf3 (.inr (Nat.le_refl _))
  clear ht3 hf3
  go_wp2_with fail
  refine (swap_ok _ _ _ 0 1 1 0 0 2 1 w3 H3.out rfl).mono ?_
  rintro e w4 ⟨rfl, ht4, hf4⟩
  have H4 : Hid (Tbl w4 (w.heap.size + 1) w.heap.size [(true, 1, 1), (false, 0, 0)]) := hid_ (by simpa using ht4)
  have F4 : Hid (Fr none_ w w4) := F3.out.then_only hf4 (.inr (Nat.le_refl _))
  clear ht4 hf4
  go_wp2_with fail
  refine (pages_ok _ _ _ w4 H4.out).mono ?_
  rintro e w5 ⟨A, c, rfl, _, hf5⟩
  have F5 : Hid (Fr none_ w w5) := F4.out.then_none hf5
  clear hf5
  rw [show (usedTo [(true, 1, 1), (false, 0, 0)] [((true, 1, 1) : Pg), (false, 0, 0)].length).length = 1 from rfl]
  go_wp2_with fail
  go_ret
  exact ⟨rfl, F5.out⟩
end Go.Proofs.YtnlpnbllnddaaaaDoor

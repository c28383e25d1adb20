/- Layer 4's awake. -/
import Derived.Test.YtfoljojacakkeaaDoorArFirst
import Derived.Test.YtfoljojacakkeaaDoorSame4
namespace Go.Proofs.YtfoljojacakkeaaDoor
open Go.RowKit
set_option maxRecDepth 100000
set_option linter.unusedVariables false

set_option maxHeartbeats 2000000 in
theorem awake4 (w : World) : Calls Tryd.prog 10 #[] w fun e w' => e = .returned (.bool true) ∧ Fr none_ w w' := by
  go_enter Tryd.func10, Tryd.ntmps10
  go_wp2_with fail
  refine (arNew_ok 2 9 w (by omega) (by omega) (by omega) (by omega)).mono ?_
  rintro e w1 ⟨a, G, rfl, h1, hf1, ha, hG⟩
  have K1 : Hid (Ar w1 a G 9 [Sl.zero, Sl.zero]) := hid_ h1
  have F1 := hid_ hf1
  clear h1 hf1
  go_wp2_with fail
  refine (alloc_ok (kindR 1) none 0 none 0 _ a G 9 _ K1.out (reads_nilR _ 1) ⟨by decide, by decide⟩).mono ?_
  rintro e w2 h2
  obtain ⟨vr2, ve2, rfl, hA2, -, hf2⟩ := h2.first (i := 0) (s := Sl.zero) rfl rfl (by decide) (fun j t hj => by omega)
  have K2 : Hid (Ar w2 a G 9 [⟨1, true, kindR 1, vr2, ve2⟩, Sl.zero]) := hid_ hA2
  have F2 := hid_ (F1.out.then_only hf2 (.inr hG))
  clear h2 hA2 hf2
  have g2 := K2.out.ltG
  have a2 := K2.out.ltA
  go_wp2_with fail
  refine (free_ok 1 1 (i := 0) (s := ⟨1, true, kindR 1, vr2, ve2⟩) (K2.out.keep ((Fr.refl none_ w2).alloc _)) rfl rfl rfl rfl).mono ?_
  rintro e w3 ⟨rfl, h3, hf3⟩
  have K3 : Hid (Ar w3 a G 9 [⟨1, false, Rc.zero, .slice none 0 0, .slice none 0 0⟩, Sl.zero]) := hid_ h3
  have X3 := hid_ ((Blk.new w2 38 #[.int .i64 1, .int .i64 1]).fr hf3 (only_ne (by omega)))
  have F3 := hid_ ((F2.out.alloc (.cells #[.int .i64 1, .int .i64 1] 38)).then_only hf3 (.inr hG))
  clear h3 hf3
  go_wp2_with fail
  refine (alloc_ok (kindR 2) none 0 none 0 _ a G 9 _ K3.out (reads_nilR _ 2) ⟨by decide, by decide⟩).mono ?_
  rintro e w4 h4
  obtain ⟨vr4, ve4, rfl, hA4, -, hf4⟩ := h4.first (i := 0) (s := ⟨1, false, Rc.zero, .slice none 0 0, .slice none 0 0⟩) rfl rfl (by decide) (fun j t hj => by omega)
  have K4 : Hid (Ar w4 a G 9 [⟨2, true, kindR 2, vr4, ve4⟩, Sl.zero]) := hid_ hA4
  have X4 := hid_ (X3.out.fr hf4 (only_ne (by omega)))
  have F4 := hid_ (F3.out.then_only hf4 (.inr hG))
  clear h4 hA4 hf4
  have x0 : w4.cell? ⟨w2.heap.size, 0, none⟩ = some (.int .i64 1) := X4.out.cell' rfl
  have x1 : w4.cell? ⟨w2.heap.size, 1, none⟩ = some (.int .i64 1) := X4.out.cell' rfl
  have xl := X4.out.lt
  go_wp2_with fail
  have e4 : atC [⟨2, true, kindR 2, vr4, ve4⟩, Sl.zero] 1 1 = 4 := by simp [atC]
  refine (load_bad 1 1 (K4.out.keep ((Fr.refl none_ w4).alloc _)) (by rw [e4]; omega)).mono ?_
  rintro e w5 ⟨rfl, hf5⟩
  rw [e4]
  have X5 := hid_ ((X4.out.alloc (.cells #[.int .i64 1, .int .i64 2] 38)).fr hf5 id)
  have Y5 := hid_ ((Blk.new w4 38 #[.int .i64 1, .int .i64 2]).fr hf5 id)
  have F5 := hid_ ((F4.out.alloc (.cells #[.int .i64 1, .int .i64 2] 38)).then_none hf5)
  clear hf5 x0 x1 xl e4
  have x0 : w5.cell? ⟨w2.heap.size, 0, none⟩ = some (.int .i64 1) := X5.out.cell' rfl
  have x1 : w5.cell? ⟨w2.heap.size, 1, none⟩ = some (.int .i64 1) := X5.out.cell' rfl
  have y0 : w5.cell? ⟨w4.heap.size, 0, none⟩ = some (.int .i64 1) := Y5.out.cell' rfl
  have y1 : w5.cell? ⟨w4.heap.size, 1, none⟩ = some (.int .i64 2) := Y5.out.cell' rfl
  have xl := X5.out.lt
  have yl := Y5.out.lt
  go_wp2_with fail
  refine (isF 4 4 _).mono ?_
  rintro e w6 ⟨rfl, rfl⟩
  go_wp2
  go_ret
  exact ⟨rfl, F5.out.alloc _⟩
end Go.Proofs.YtfoljojacakkeaaDoor

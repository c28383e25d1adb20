/- A memory that is not there: each function's answer. Written by gen_nob9.py. -/
import Derived.Test.YtobmkolgjdgeiaaMem9
import Derived.Deep.Cut
namespace Go.Proofs.Ytobmkolgjdgeiaa
open Go.RowKit
set_option maxRecDepth 100000
set_option linter.unusedVariables false

set_option maxHeartbeats 2000000 in
theorem memFree_nil (sl gn : Int) (w : World) : Calls Try.prog 24 #[.pointer none, .agg #[.int .i64 sl, .int .i64 gn]] w fun e w' => e = .returned (errV 1) ∧ Fr none_ w w' := by
  go_enter Try.func24, Try.ntmps24
  go_wp2_with fail
  first
  | (go_ret; exact ⟨rfl, by repeat (first | exact Fr.refl _ _ | apply Fr.drew | apply Fr.alloc)⟩)
  | (go_ret2; exact ⟨rfl, by repeat (first | exact Fr.refl _ _ | apply Fr.drew | apply Fr.alloc)⟩)
  | (go_ret3; exact ⟨rfl, by repeat (first | exact Fr.refl _ _ | apply Fr.drew | apply Fr.alloc)⟩)
set_option maxHeartbeats 2000000 in
theorem memHead_nil (n : Int) (w : World) : Calls Try.prog 20 #[.pointer none, .int .i64 n] w fun e w' => e = .returned (.tuple #[.agg #[.int .i64 0, .int .i64 0], errV 1]) ∧ Fr none_ w w' := by
  go_enter Try.func20, Try.ntmps20
  go_wp2_with fail
  have K := Blk.new w 39 #[.int .i64 0, .int .i64 0]
  have x0 := K.cell' (i := 0) rfl
  have x1 := K.cell' (i := 1) rfl
  refine bodyPost_ret (v := .tuple #[.agg #[.int .i64 0, .int .i64 0], errV 1]) ?_ rfl ⟨rfl, by repeat (first | exact Fr.refl _ _ | apply Fr.drew | apply Fr.alloc)⟩
  simp [results, Try.results20, go_sem, x0, x1]
set_option maxHeartbeats 2000000 in
theorem memSwap_nil (n a b c d : Int) (w : World) : Calls Try.prog 21 #[.pointer none, .int .i64 n, .agg #[.int .i64 a, .int .i64 b], .agg #[.int .i64 c, .int .i64 d]] w fun e w' => e = .returned (.tuple #[.bool false, errV 1]) ∧ Fr none_ w w' := by
  go_enter Try.func21, Try.ntmps21
  go_wp2_with fail
  first
  | (go_ret; exact ⟨rfl, by repeat (first | exact Fr.refl _ _ | apply Fr.drew | apply Fr.alloc)⟩)
  | (go_ret2; exact ⟨rfl, by repeat (first | exact Fr.refl _ _ | apply Fr.drew | apply Fr.alloc)⟩)
  | (go_ret3; exact ⟨rfl, by repeat (first | exact Fr.refl _ _ | apply Fr.drew | apply Fr.alloc)⟩)
set_option maxHeartbeats 2000000 in
theorem memTake_nil  (w : World) : Calls Try.prog 22 #[.pointer none] w fun e w' => e = .returned (.tuple #[.int .i64 0, errV 1]) ∧ Fr none_ w w' := by
  go_enter Try.func22, Try.ntmps22
  go_wp2_with fail
  first
  | (go_ret; exact ⟨rfl, by repeat (first | exact Fr.refl _ _ | apply Fr.drew | apply Fr.alloc)⟩)
  | (go_ret2; exact ⟨rfl, by repeat (first | exact Fr.refl _ _ | apply Fr.drew | apply Fr.alloc)⟩)
  | (go_ret3; exact ⟨rfl, by repeat (first | exact Fr.refl _ _ | apply Fr.drew | apply Fr.alloc)⟩)
set_option maxHeartbeats 2000000 in
theorem memGive_nil (n : Int) (w : World) : Calls Try.prog 25 #[.pointer none, .int .i64 n] w fun e w' => e = .returned (errV 1) ∧ Fr none_ w w' := by
  go_enter Try.func25, Try.ntmps25
  go_wp2_with fail
  first
  | (go_ret; exact ⟨rfl, by repeat (first | exact Fr.refl _ _ | apply Fr.drew | apply Fr.alloc)⟩)
  | (go_ret2; exact ⟨rfl, by repeat (first | exact Fr.refl _ _ | apply Fr.drew | apply Fr.alloc)⟩)
  | (go_ret3; exact ⟨rfl, by repeat (first | exact Fr.refl _ _ | apply Fr.drew | apply Fr.alloc)⟩)
set_option maxHeartbeats 2000000 in
theorem memNow_nil  (w : World) : Calls Try.prog 17 #[.pointer none] w fun e w' => e = .returned (.int .i64 0) ∧ Fr none_ w w' := by
  go_enter Try.func17, Try.ntmps17
  go_wp2_with fail
  first
  | (go_ret; exact ⟨rfl, by repeat (first | exact Fr.refl _ _ | apply Fr.drew | apply Fr.alloc)⟩)
  | (go_ret2; exact ⟨rfl, by repeat (first | exact Fr.refl _ _ | apply Fr.drew | apply Fr.alloc)⟩)
  | (go_ret3; exact ⟨rfl, by repeat (first | exact Fr.refl _ _ | apply Fr.drew | apply Fr.alloc)⟩)
set_option maxHeartbeats 2000000 in
theorem memBump_nil  (w : World) : Calls Try.prog 10 #[.pointer none] w fun e w' => e = .returned (.tuple #[.int .i64 0, errV 1]) ∧ Fr none_ w w' := by
  go_enter Try.func10, Try.ntmps10
  go_wp2_with fail
  first
  | (go_ret; exact ⟨rfl, by repeat (first | exact Fr.refl _ _ | apply Fr.drew | apply Fr.alloc)⟩)
  | (go_ret2; exact ⟨rfl, by repeat (first | exact Fr.refl _ _ | apply Fr.drew | apply Fr.alloc)⟩)
  | (go_ret3; exact ⟨rfl, by repeat (first | exact Fr.refl _ _ | apply Fr.drew | apply Fr.alloc)⟩)
set_option maxHeartbeats 2000000 in
theorem memEnter_nil (t a : Int) (w : World) : Calls Try.prog 12 #[.pointer none, .int .i64 t, .int .i64 a] w fun e w' => e = .returned (errV 1) ∧ Fr none_ w w' := by
  go_enter Try.func12, Try.ntmps12
  go_wp2_with fail
  first
  | (go_ret; exact ⟨rfl, by repeat (first | exact Fr.refl _ _ | apply Fr.drew | apply Fr.alloc)⟩)
  | (go_ret2; exact ⟨rfl, by repeat (first | exact Fr.refl _ _ | apply Fr.drew | apply Fr.alloc)⟩)
  | (go_ret3; exact ⟨rfl, by repeat (first | exact Fr.refl _ _ | apply Fr.drew | apply Fr.alloc)⟩)
set_option maxHeartbeats 2000000 in
theorem memLeave_nil (t : Int) (w : World) : Calls Try.prog 14 #[.pointer none, .int .i64 t] w fun e w' => e = .returned (errV 1) ∧ Fr none_ w w' := by
  go_enter Try.func14, Try.ntmps14
  go_wp2_with fail
  first
  | (go_ret; exact ⟨rfl, by repeat (first | exact Fr.refl _ _ | apply Fr.drew | apply Fr.alloc)⟩)
  | (go_ret2; exact ⟨rfl, by repeat (first | exact Fr.refl _ _ | apply Fr.drew | apply Fr.alloc)⟩)
  | (go_ret3; exact ⟨rfl, by repeat (first | exact Fr.refl _ _ | apply Fr.drew | apply Fr.alloc)⟩)
set_option maxHeartbeats 2000000 in
theorem memAt_nil (t : Int) (w : World) : Calls Try.prog 16 #[.pointer none, .int .i64 t] w fun e w' => e = .returned (.tuple #[.int .i64 0, .bool false, errV 1]) ∧ Fr none_ w w' := by
  go_enter Try.func16, Try.ntmps16
  go_wp2_with fail
  first
  | (go_ret; exact ⟨rfl, by repeat (first | exact Fr.refl _ _ | apply Fr.drew | apply Fr.alloc)⟩)
  | (go_ret2; exact ⟨rfl, by repeat (first | exact Fr.refl _ _ | apply Fr.drew | apply Fr.alloc)⟩)
  | (go_ret3; exact ⟨rfl, by repeat (first | exact Fr.refl _ _ | apply Fr.drew | apply Fr.alloc)⟩)
set_option maxHeartbeats 2000000 in
theorem memLive_nil  (w : World) : Calls Try.prog 28 #[.pointer none] w fun e w' => e = .returned (.slice none 0 0) ∧ Fr none_ w w' := by
  go_enter Try.func28, Try.ntmps28
  go_wp2_with fail
  first
  | (go_ret; exact ⟨rfl, by repeat (first | exact Fr.refl _ _ | apply Fr.drew | apply Fr.alloc)⟩)
  | (go_ret2; exact ⟨rfl, by repeat (first | exact Fr.refl _ _ | apply Fr.drew | apply Fr.alloc)⟩)
  | (go_ret3; exact ⟨rfl, by repeat (first | exact Fr.refl _ _ | apply Fr.drew | apply Fr.alloc)⟩)
set_option maxHeartbeats 2000000 in
theorem memPages_nil  (w : World) : Calls Try.prog 29 #[.pointer none] w fun e w' => e = .returned (.slice none 0 0) ∧ Fr none_ w w' := by
  go_enter Try.func29, Try.ntmps29
  go_wp2_with fail
  first
  | (go_ret; exact ⟨rfl, by repeat (first | exact Fr.refl _ _ | apply Fr.drew | apply Fr.alloc)⟩)
  | (go_ret2; exact ⟨rfl, by repeat (first | exact Fr.refl _ _ | apply Fr.drew | apply Fr.alloc)⟩)
  | (go_ret3; exact ⟨rfl, by repeat (first | exact Fr.refl _ _ | apply Fr.drew | apply Fr.alloc)⟩)
set_option maxHeartbeats 2000000 in
theorem memChain_nil (n : Int) (w : World) : Calls Try.prog 23 #[.pointer none, .int .i64 n] w fun e w' => e = .returned (.tuple #[.slice none 0 0, .slice none 0 0, errV 1]) ∧ Fr none_ w w' := by
  go_enter Try.func23, Try.ntmps23
  go_wp2_with fail
  first
  | (go_ret; exact ⟨rfl, by repeat (first | exact Fr.refl _ _ | apply Fr.drew | apply Fr.alloc)⟩)
  | (go_ret2; exact ⟨rfl, by repeat (first | exact Fr.refl _ _ | apply Fr.drew | apply Fr.alloc)⟩)
  | (go_ret3; exact ⟨rfl, by repeat (first | exact Fr.refl _ _ | apply Fr.drew | apply Fr.alloc)⟩)
set_option maxHeartbeats 2000000 in
theorem memCopy_nil  (w : World) : Calls Try.prog 30 #[.pointer none] w fun e w' => e = .returned (.pointer none) ∧ Fr none_ w w' := by
  go_enter Try.func30, Try.ntmps30
  go_wp2_with fail
  first
  | (go_ret; exact ⟨rfl, by repeat (first | exact Fr.refl _ _ | apply Fr.drew | apply Fr.alloc)⟩)
  | (go_ret2; exact ⟨rfl, by repeat (first | exact Fr.refl _ _ | apply Fr.drew | apply Fr.alloc)⟩)
  | (go_ret3; exact ⟨rfl, by repeat (first | exact Fr.refl _ _ | apply Fr.drew | apply Fr.alloc)⟩)
set_option maxHeartbeats 2000000 in
theorem memCount_nil  (w : World) : Calls Try.prog 27 #[.pointer none] w fun e w' => e = .returned (.int .i64 0) ∧ Fr none_ w w' := by
  go_enter Try.func27, Try.ntmps27
  go_wp2_with fail
  first
  | (go_ret; exact ⟨rfl, by repeat (first | exact Fr.refl _ _ | apply Fr.drew | apply Fr.alloc)⟩)
  | (go_ret2; exact ⟨rfl, by repeat (first | exact Fr.refl _ _ | apply Fr.drew | apply Fr.alloc)⟩)
  | (go_ret3; exact ⟨rfl, by repeat (first | exact Fr.refl _ _ | apply Fr.drew | apply Fr.alloc)⟩)
set_option maxHeartbeats 2000000 in
theorem memLimits_nil  (w : World) : Calls Try.prog 31 #[.pointer none] w fun e w' => e = .returned (.agg #[.int .i64 0, .int .i64 0, .int .i64 0, .int .i64 0, .int .i64 0, .int .i64 0]) ∧ Fr none_ w w' := by
  go_enter Try.func31, Try.ntmps31
  go_wp2_with fail
  have K := Blk.new w 23 #[.int .i64 0, .int .i64 0, .int .i64 0, .int .i64 0, .int .i64 0, .int .i64 0]
  have x0 := K.cell' (i := 0) rfl
  have x1 := K.cell' (i := 1) rfl
  have x2 := K.cell' (i := 2) rfl
  have x3 := K.cell' (i := 3) rfl
  have x4 := K.cell' (i := 4) rfl
  have x5 := K.cell' (i := 5) rfl
  refine bodyPost_ret (v := .agg #[.int .i64 0, .int .i64 0, .int .i64 0, .int .i64 0, .int .i64 0, .int .i64 0]) ?_ rfl ⟨rfl, by repeat (first | exact Fr.refl _ _ | apply Fr.drew | apply Fr.alloc)⟩
  simp [results, Try.results31, go_sem, x0, x1, x2, x3, x4, x5]
set_option maxHeartbeats 2000000 in
theorem memAlloc_nil (R : Rc) (vr ve : Value) (w : World) : Calls Try.prog 19 #[.pointer none, recV R vr ve] w fun e w' => e = .returned (.tuple #[.agg #[.int .i64 0, .int .i64 0], errV 1]) ∧ Fr none_ w w' := by
  go_enter Try.func19, Try.ntmps19
  go_wp2_with fail
  have K := Blk.new (w.alloc (recB R vr ve)) 39 #[.int .i64 0, .int .i64 0]
  rw [World.size_alloc] at K
  have x0 := K.cell' (i := 0) rfl
  have x1 := K.cell' (i := 1) rfl
  refine bodyPost_ret (v := .tuple #[.agg #[.int .i64 0, .int .i64 0], errV 1]) ?_ rfl ⟨rfl, by repeat (first | exact Fr.refl _ _ | apply Fr.drew | apply Fr.alloc)⟩
  simp [results, Try.results19, go_sem, x0, x1]
set_option maxHeartbeats 2000000 in
theorem memLoad_nil (sl gn : Int) (w : World) : Calls Try.prog 18 #[.pointer none, .agg #[.int .i64 sl, .int .i64 gn]] w fun e w' => e = .returned (.tuple #[recV Rc.zero (.slice none 0 0) (.slice none 0 0), errV 1]) ∧ Fr none_ w w' := by
  have K := Blk.new (w.alloc (.cells #[.int .i64 sl, .int .i64 gn] 39)) 45 recZ
  rw [World.size_alloc] at K
  have Z1 := hid_ K
  have F1 := hid_ (((Fr.refl none_ w).alloc (.cells #[.int .i64 sl, .int .i64 gn] 39)).alloc (.cells recZ 45))
  obtain ⟨w1, hw1⟩ : ∃ z, z = (w.alloc (.cells #[.int .i64 sl, .int .i64 gn] 39)).alloc (.cells recZ 45) := ⟨_, rfl⟩
  rw [← hw1] at Z1 F1
  clear K
  go_enter Try.func18, Try.ntmps18
  go_upto_region 1 with fail
  change Code.wp _ _ _ _ ((w.alloc (.cells #[.int .i64 sl, .int .i64 gn] 39)).alloc (.cells recZ 45))
  rw [← hw1]
  clear hw1
  have z0 : w1.cell? ⟨w.heap.size + 1, 0, none⟩ = some (.int .i64 0) := Z1.out.cell' rfl
  have y0 := Z1.out.frozen 0
  have z1 : w1.cell? ⟨w.heap.size + 1, 1, none⟩ = some (.string nilS) := Z1.out.cell' rfl
  have y1 := Z1.out.frozen 1
  have z2 : w1.cell? ⟨w.heap.size + 1, 2, none⟩ = some (.string nilS) := Z1.out.cell' rfl
  have y2 := Z1.out.frozen 2
  have z3 : w1.cell? ⟨w.heap.size + 1, 3, none⟩ = some (.bool false) := Z1.out.cell' rfl
  have y3 := Z1.out.frozen 3
  have z4 : w1.cell? ⟨w.heap.size + 1, 4, none⟩ = some (.int .i64 0) := Z1.out.cell' rfl
  have y4 := Z1.out.frozen 4
  have z5 : w1.cell? ⟨w.heap.size + 1, 5, none⟩ = some (.slice none 0 0) := Z1.out.cell' rfl
  have y5 := Z1.out.frozen 5
  have z6 : w1.cell? ⟨w.heap.size + 1, 6, none⟩ = some (.slice none 0 0) := Z1.out.cell' rfl
  have y6 := Z1.out.frozen 6
  have z7 : w1.cell? ⟨w.heap.size + 1, 7, none⟩ = some (.string nilS) := Z1.out.cell' rfl
  have y7 := Z1.out.frozen 7
  have z8 : w1.cell? ⟨w.heap.size + 1, 8, none⟩ = some (.string nilS) := Z1.out.cell' rfl
  have y8 := Z1.out.frozen 8
  have z9 : w1.cell? ⟨w.heap.size + 1, 9, none⟩ = some (.int .i64 0) := Z1.out.cell' rfl
  have y9 := Z1.out.frozen 9
  have z10 : w1.cell? ⟨w.heap.size + 1, 10, none⟩ = some (.int .i64 0) := Z1.out.cell' rfl
  have y10 := Z1.out.frozen 10
  have z11 : w1.cell? ⟨w.heap.size + 1, 11, none⟩ = some (.int .i64 0) := Z1.out.cell' rfl
  have y11 := Z1.out.frozen 11
  have z12 : w1.cell? ⟨w.heap.size + 1, 12, none⟩ = some (.string nilS) := Z1.out.cell' rfl
  have y12 := Z1.out.frozen 12
  have z13 : w1.cell? ⟨w.heap.size + 1, 13, none⟩ = some (.int .i64 0) := Z1.out.cell' rfl
  have y13 := Z1.out.frozen 13
  have z14 : w1.cell? ⟨w.heap.size + 1, 14, none⟩ = some (.int .i64 0) := Z1.out.cell' rfl
  have y14 := Z1.out.frozen 14
  go_wp2_with fail
  clear z0 y0 z1 y1 z2 y2 z3 y3 z4 y4 z5 y5 z6 y6 z7 y7 z8 y8 z9 y9 z10 y10 z11 y11 z12 y12 z13 y13 z14 y14
  obtain ⟨qb, qf⟩ := box15 Z1.out (.int .i64 0) (.string nilS) (.string nilS) (.bool false) (.int .i64 0) (.slice none 0 0) (.slice none 0 0) (.string nilS) (.string nilS) (.int .i64 0) (.int .i64 0) (.int .i64 0) (.string nilS) (.int .i64 0) (.int .i64 0)
  have q0 := qb.cell' (i := 0) rfl
  have q1 := qb.cell' (i := 1) rfl
  have q2 := qb.cell' (i := 2) rfl
  have q3 := qb.cell' (i := 3) rfl
  have q4 := qb.cell' (i := 4) rfl
  have q5 := qb.cell' (i := 5) rfl
  have q6 := qb.cell' (i := 6) rfl
  have q7 := qb.cell' (i := 7) rfl
  have q8 := qb.cell' (i := 8) rfl
  have q9 := qb.cell' (i := 9) rfl
  have q10 := qb.cell' (i := 10) rfl
  have q11 := qb.cell' (i := 11) rfl
  have q12 := qb.cell' (i := 12) rfl
  have q13 := qb.cell' (i := 13) rfl
  have q14 := qb.cell' (i := 14) rfl
  refine bodyPost_ret (v := .tuple #[recV Rc.zero (.slice none 0 0) (.slice none 0 0), errV 1]) ?_ rfl ⟨rfl, F1.out.then_only qf (.inr (by omega))⟩
  simp [results, Try.results18, go_sem, Rc.zero, q0, q1, q2, q3, q4, q5, q6, q7, q8, q9, q10, q11, q12, q13, q14]
end Go.Proofs.Ytobmkolgjdgeiaa

/- MemNobody's walk. Written by gen_nobody9.py. -/
import Derived.Test.YtobmkolgjdgeiaaAwake9
namespace Go.Proofs.Ytobmkolgjdgeiaa
open Go.RowKit Go.ChangeShapes Go.WideShapes
set_option maxRecDepth 100000
set_option linter.unusedVariables false

abbrev errs12 : Array Value := #[errV 1, errV 1, errV 1, errV 1, errV 1, errV 1, errV 1, errV 1, errV 1, errV 1, errV 1, errV 1]
theorem errs12_at {w : World} {b : Nat} (h : Blk w b 30 errs12) {k : Nat} (hk : k < 12) : w.cell? ⟨b, k, none⟩ = some (errV 1) := by
  have : k = 0 ∨ k = 1 ∨ k = 2 ∨ k = 3 ∨ k = 4 ∨ k = 5 ∨ k = 6 ∨ k = 7 ∨ k = 8 ∨ k = 9 ∨ k = 10 ∨ k = 11 := by omega
  rcases this with rfl | rfl | rfl | rfl | rfl | rfl | rfl | rfl | rfl | rfl | rfl | rfl <;> exact h.cell' rfl
set_option maxHeartbeats 8000000 in
theorem nobody9_walk (verb n at_ : Int) (rt : Bool) (xs xg ys yg : Int) (R : Rc) (A : Option Addr) (c : Nat) (B : Option Addr) (d : Nat) (w : World) :
    Calls Try.prog 4 #[.agg #[.int .i64 verb, .int .i64 n, .int .i64 at_, .bool rt, .int .i64 xs, .int .i64 xg, .int .i64 ys, .int .i64 yg, .int .i64 R.kind, .string R.low, .string R.high, .bool R.unb, .int .i64 R.right, .slice A R.rows.length c, .slice B R.ents.length d, .string R.key, .string R.val, .int .i64 R.page, .int .i64 R.hpage, .int .i64 R.hleft, .string R.hkey, .int .i64 R.nslot, .int .i64 R.ngen]] w fun e w' => e = .returned (.bool true) ∧ Fr none_ w w' := by
  have F := hid_ (Fr.refl none_ w)
  go_enter Try.func4, Try.ntmps4
  go_upto_region 2 with fail
  obtain ⟨w0, hw0⟩ : ∃ z, z = w.alloc (.cells #[.int .i64 verb, .int .i64 n, .int .i64 at_, .bool rt, .int .i64 xs, .int .i64 xg, .int .i64 ys, .int .i64 yg, .int .i64 R.kind, .string R.low, .string R.high, .bool R.unb, .int .i64 R.right, .slice A R.rows.length c, .slice B R.ents.length d, .string R.key, .string R.val, .int .i64 R.page, .int .i64 R.hpage, .int .i64 R.hleft, .string R.hkey, .int .i64 R.nslot, .int .i64 R.ngen] 47) := ⟨_, rfl⟩
  have fw0 : Fr none_ w w0 := by rw [hw0]; exact (Fr.refl none_ w).alloc _
  have BD : Hid (Blk w0 w.heap.size 47 (#[.int .i64 verb, .int .i64 n, .int .i64 at_, .bool rt, .int .i64 xs, .int .i64 xg, .int .i64 ys, .int .i64 yg, .int .i64 R.kind, .string R.low, .string R.high, .bool R.unb, .int .i64 R.right, .slice A R.rows.length c, .slice B R.ents.length d, .string R.key, .string R.val, .int .i64 R.page, .int .i64 R.hpage, .int .i64 R.hleft, .string R.hkey, .int .i64 R.nslot, .int .i64 R.ngen])) := hid_ (by rw [hw0]; exact Blk.new w _ _)
  replace F := hid_ (F.out.then_none fw0)
  change Code.wp _ _ _ _ (w.alloc (.cells #[.int .i64 verb, .int .i64 n, .int .i64 at_, .bool rt, .int .i64 xs, .int .i64 xg, .int .i64 ys, .int .i64 yg, .int .i64 R.kind, .string R.low, .string R.high, .bool R.unb, .int .i64 R.right, .slice A R.rows.length c, .slice B R.ents.length d, .string R.key, .string R.val, .int .i64 R.page, .int .i64 R.hpage, .int .i64 R.hleft, .string R.hkey, .int .i64 R.nslot, .int .i64 R.ngen] 47))
  rw [← hw0]
  clear hw0 fw0
  have q13 : w0.cell? ⟨w.heap.size, 13, none⟩ = some (.slice A R.rows.length c) := BD.out.cell' rfl
  have q14 : w0.cell? ⟨w.heap.size, 14, none⟩ = some (.slice B R.ents.length d) := BD.out.cell' rfl
  by_cases g1 : (60 : Int) < (R.rows.length : Int)
  · have d1 : decide ((60 : Int) < (R.rows.length : Int)) = true := by simpa using g1
    clear g1
    go_wp2_with fail
    refine (awake9 _).mono ?_
    rintro e w9 ⟨rfl, hf9⟩
    have F9 := hid_ hf9
    clear hf9
    go_wp2_with fail
    go_ret
    exact ⟨rfl, F.out.then_none F9.out⟩
  have d1 : decide ((60 : Int) < (R.rows.length : Int)) = false := by simpa using g1
  clear g1
  by_cases g2 : (60 : Int) < (R.ents.length : Int)
  · have d2 : decide ((60 : Int) < (R.ents.length : Int)) = true := by simpa using g2
    clear g2
    go_wp2_with fail
    refine (awake9 _).mono ?_
    rintro e w9 ⟨rfl, hf9⟩
    have F9 := hid_ hf9
    clear hf9
    go_wp2_with fail
    go_ret
    exact ⟨rfl, F.out.then_none F9.out⟩
  have d2 : decide ((60 : Int) < (R.ents.length : Int)) = false := by simpa using g2
  clear g2
  go_upto_region 4 with fail
  clear d1 d2
  clear q13 q14
  have q4 : w0.cell? ⟨w.heap.size, 4, none⟩ = some (.int .i64 xs) := BD.out.cell' rfl
  have q5 : w0.cell? ⟨w.heap.size, 5, none⟩ = some (.int .i64 xg) := BD.out.cell' rfl
  go_wp2_with fail
  refine (memLoad_nil xs xg _).mono ?_
  rintro e wc1 ⟨rfl, hf1⟩
  replace F := hid_ (F.out.then_none hf1)
  replace BD := hid_ (BD.out.fr hf1 id)
  clear hf1
  clear q4 q5
  go_upto_region 5 with fail
  obtain ⟨wx1, hwx1⟩ : ∃ z, z = wc1.alloc (.cells (recA Rc.zero (.slice none 0 0) (.slice none 0 0)) 45) := ⟨_, rfl⟩
  have fwx1 : Fr none_ wc1 wx1 := by rw [hwx1]; exact (Fr.refl none_ wc1).alloc _
  have BZ1 : Hid (Blk wx1 wc1.heap.size 45 ((recA Rc.zero (.slice none 0 0) (.slice none 0 0)))) := hid_ (by rw [hwx1]; exact Blk.new wc1 _ _)
  replace F := hid_ (F.out.then_none fwx1)
  replace BD := hid_ (BD.out.fr fwx1 id)
  change Code.wp _ _ _ _ (wc1.alloc (.cells (recA Rc.zero (.slice none 0 0) (.slice none 0 0)) 45))
  rw [← hwx1]
  clear hwx1 fwx1
  clear BZ1
  have q8 : wx1.cell? ⟨w.heap.size, 8, none⟩ = some (.int .i64 R.kind) := BD.out.cell' rfl
  have q9 : wx1.cell? ⟨w.heap.size, 9, none⟩ = some (.string R.low) := BD.out.cell' rfl
  have q10 : wx1.cell? ⟨w.heap.size, 10, none⟩ = some (.string R.high) := BD.out.cell' rfl
  have q11 : wx1.cell? ⟨w.heap.size, 11, none⟩ = some (.bool R.unb) := BD.out.cell' rfl
  have q12 : wx1.cell? ⟨w.heap.size, 12, none⟩ = some (.int .i64 R.right) := BD.out.cell' rfl
  have q13 : wx1.cell? ⟨w.heap.size, 13, none⟩ = some (.slice A R.rows.length c) := BD.out.cell' rfl
  have q14 : wx1.cell? ⟨w.heap.size, 14, none⟩ = some (.slice B R.ents.length d) := BD.out.cell' rfl
  have q15 : wx1.cell? ⟨w.heap.size, 15, none⟩ = some (.string R.key) := BD.out.cell' rfl
  have q16 : wx1.cell? ⟨w.heap.size, 16, none⟩ = some (.string R.val) := BD.out.cell' rfl
  have q17 : wx1.cell? ⟨w.heap.size, 17, none⟩ = some (.int .i64 R.page) := BD.out.cell' rfl
  have q18 : wx1.cell? ⟨w.heap.size, 18, none⟩ = some (.int .i64 R.hpage) := BD.out.cell' rfl
  have q19 : wx1.cell? ⟨w.heap.size, 19, none⟩ = some (.int .i64 R.hleft) := BD.out.cell' rfl
  have q20 : wx1.cell? ⟨w.heap.size, 20, none⟩ = some (.string R.hkey) := BD.out.cell' rfl
  have q21 : wx1.cell? ⟨w.heap.size, 21, none⟩ = some (.int .i64 R.nslot) := BD.out.cell' rfl
  have q22 : wx1.cell? ⟨w.heap.size, 22, none⟩ = some (.int .i64 R.ngen) := BD.out.cell' rfl
  go_wp2_with fail
  refine (memAlloc_nil R (.slice A R.rows.length c) (.slice B R.ents.length d) _).mono ?_
  rintro e wc2 ⟨rfl, hf2⟩
  replace F := hid_ (F.out.then_none hf2)
  replace BD := hid_ (BD.out.fr hf2 id)
  clear hf2
  clear q8 q9 q10 q11 q12 q13 q14 q15 q16 q17 q18 q19 q20 q21 q22
  go_upto_region 6 with fail
  obtain ⟨wx2, hwx2⟩ : ∃ z, z = wc2.alloc (.cells #[.int .i64 0, .int .i64 0] 39) := ⟨_, rfl⟩
  have fwx2 : Fr none_ wc2 wx2 := by rw [hwx2]; exact (Fr.refl none_ wc2).alloc _
  have BZ2 : Hid (Blk wx2 wc2.heap.size 39 (#[.int .i64 0, .int .i64 0])) := hid_ (by rw [hwx2]; exact Blk.new wc2 _ _)
  replace F := hid_ (F.out.then_none fwx2)
  replace BD := hid_ (BD.out.fr fwx2 id)
  change Code.wp _ _ _ _ (wc2.alloc (.cells #[.int .i64 0, .int .i64 0] 39))
  rw [← hwx2]
  clear hwx2 fwx2
  clear BZ2
  have q1 : wx2.cell? ⟨w.heap.size, 1, none⟩ = some (.int .i64 n) := BD.out.cell' rfl
  go_wp2_with fail
  refine (memHead_nil n _).mono ?_
  rintro e wc3 ⟨rfl, hf3⟩
  replace F := hid_ (F.out.then_none hf3)
  replace BD := hid_ (BD.out.fr hf3 id)
  clear hf3
  clear q1
  go_upto_region 7 with fail
  obtain ⟨wx3, hwx3⟩ : ∃ z, z = wc3.alloc (.cells #[.int .i64 0, .int .i64 0] 39) := ⟨_, rfl⟩
  have fwx3 : Fr none_ wc3 wx3 := by rw [hwx3]; exact (Fr.refl none_ wc3).alloc _
  have BZ3 : Hid (Blk wx3 wc3.heap.size 39 (#[.int .i64 0, .int .i64 0])) := hid_ (by rw [hwx3]; exact Blk.new wc3 _ _)
  replace F := hid_ (F.out.then_none fwx3)
  replace BD := hid_ (BD.out.fr fwx3 id)
  change Code.wp _ _ _ _ (wc3.alloc (.cells #[.int .i64 0, .int .i64 0] 39))
  rw [← hwx3]
  clear hwx3 fwx3
  clear BZ3
  have q1 : wx3.cell? ⟨w.heap.size, 1, none⟩ = some (.int .i64 n) := BD.out.cell' rfl
  have q4 : wx3.cell? ⟨w.heap.size, 4, none⟩ = some (.int .i64 xs) := BD.out.cell' rfl
  have q5 : wx3.cell? ⟨w.heap.size, 5, none⟩ = some (.int .i64 xg) := BD.out.cell' rfl
  have q6 : wx3.cell? ⟨w.heap.size, 6, none⟩ = some (.int .i64 ys) := BD.out.cell' rfl
  have q7 : wx3.cell? ⟨w.heap.size, 7, none⟩ = some (.int .i64 yg) := BD.out.cell' rfl
  go_wp2_with fail
  refine (memSwap_nil n xs xg ys yg _).mono ?_
  rintro e wc4 ⟨rfl, hf4⟩
  replace F := hid_ (F.out.then_none hf4)
  replace BD := hid_ (BD.out.fr hf4 id)
  clear hf4
  clear q1 q4 q5 q6 q7
  go_upto_region 8 with fail
  go_wp2_with fail
  refine (memTake_nil _).mono ?_
  rintro e wc5 ⟨rfl, hf5⟩
  replace F := hid_ (F.out.then_none hf5)
  replace BD := hid_ (BD.out.fr hf5 id)
  clear hf5
  go_upto_region 9 with fail
  go_wp2_with fail
  refine (memBump_nil _).mono ?_
  rintro e wc6 ⟨rfl, hf6⟩
  replace F := hid_ (F.out.then_none hf6)
  replace BD := hid_ (BD.out.fr hf6 id)
  clear hf6
  go_upto_region 10 with fail
  have q1 : wc6.cell? ⟨w.heap.size, 1, none⟩ = some (.int .i64 n) := BD.out.cell' rfl
  go_wp2_with fail
  refine (memAt_nil n _).mono ?_
  rintro e wc7 ⟨rfl, hf7⟩
  replace F := hid_ (F.out.then_none hf7)
  replace BD := hid_ (BD.out.fr hf7 id)
  clear hf7
  clear q1
  go_upto_region 11 with fail
  have q1 : wc7.cell? ⟨w.heap.size, 1, none⟩ = some (.int .i64 n) := BD.out.cell' rfl
  go_wp2_with fail
  refine (memChain_nil n _).mono ?_
  rintro e wc8 ⟨rfl, hf8⟩
  replace F := hid_ (F.out.then_none hf8)
  replace BD := hid_ (BD.out.fr hf8 id)
  clear hf8
  clear q1
  go_upto_region 12 with fail
  have q1 : wc8.cell? ⟨w.heap.size, 1, none⟩ = some (.int .i64 n) := BD.out.cell' rfl
  have q2 : wc8.cell? ⟨w.heap.size, 2, none⟩ = some (.int .i64 at_) := BD.out.cell' rfl
  have q4 : wc8.cell? ⟨w.heap.size, 4, none⟩ = some (.int .i64 xs) := BD.out.cell' rfl
  have q5 : wc8.cell? ⟨w.heap.size, 5, none⟩ = some (.int .i64 xg) := BD.out.cell' rfl
  have hS1 : (fun w' : World => Fr none_ wc8 w') wc8.drew := (Fr.refl none_ wc8).drew
  refine wp_region_U (m := 29) (S := fun w' : World => Fr none_ wc8 w') (by kernel_rfl) ?_
  refine wpAnyU_take2 (i := 0) (v := _) rfl (by kernel_rfl) (by kernel_rfl) (by kernel_rfl) (by kernel_rfl) (fun _ _ _ h => h) (.inl ⟨by kernel_rfl, fun w' hS => by go_simp; rfl⟩) hS1 ?_
  refine wpAnyU_take2 (i := 1) (v := _) rfl (by kernel_rfl) (by kernel_rfl) (by kernel_rfl) (by kernel_rfl) (fun _ _ _ h => h) (.inl ⟨by kernel_rfl, fun w' hS => by go_simp; rfl⟩) hS1 ?_
  refine wpAnyU_take2 (i := 2) (v := _) rfl (by kernel_rfl) (by kernel_rfl) (by kernel_rfl) (by kernel_rfl) (fun _ _ _ h => h) (.inl ⟨by kernel_rfl, fun w' hS => by go_simp; rfl⟩) hS1 ?_
  refine wpAnyU_take2 (i := 3) (v := _) rfl (by kernel_rfl) (by kernel_rfl) (by kernel_rfl) (by kernel_rfl) (fun _ _ _ h => h) (.inl ⟨by kernel_rfl, fun w' hS => by go_simp; rfl⟩) hS1 ?_
  refine wpAnyU_take2 (i := 4) (v := _) rfl (by kernel_rfl) (by kernel_rfl) (by kernel_rfl) (by kernel_rfl) (fun _ _ _ h => h) (.inl ⟨by kernel_rfl, fun w' hS => by go_simp; rfl⟩) hS1 ?_
  refine wpAnyU_take2 (i := 5) (v := _) rfl (by kernel_rfl) (by kernel_rfl) (by kernel_rfl) (by kernel_rfl) (fun _ _ _ h => h) (.inl ⟨by kernel_rfl, fun w' hS => by go_simp; rfl⟩) hS1 ?_
  refine wpAnyU_take2 (i := 6) (v := _) rfl (by kernel_rfl) (by kernel_rfl) (by kernel_rfl) (by kernel_rfl) (fun _ _ _ h => h) (.inl ⟨by kernel_rfl, fun w' hS => by go_simp; rfl⟩) hS1 ?_
  refine wpAnyU_take2 (i := 7) (v := _) rfl (by kernel_rfl) (by kernel_rfl) (by kernel_rfl) (by kernel_rfl) (fun _ _ _ h => h) (.inl ⟨by kernel_rfl, fun w' hS => by go_simp; rfl⟩) hS1 ?_
  refine wpAnyU_take2 (i := 8) (v := _) rfl (by kernel_rfl) (by kernel_rfl) (by kernel_rfl) (by kernel_rfl) (fun _ _ _ h => h) (.inl ⟨by kernel_rfl, fun w' hS => by go_simp; rfl⟩) hS1 ?_
  refine wpAnyU_take2 (i := 9) (v := _) rfl (by kernel_rfl) (by kernel_rfl) (by kernel_rfl) (by kernel_rfl) (fun _ _ _ h => h) (.inl ⟨by kernel_rfl, fun w' hS => by go_simp; rfl⟩) hS1 ?_
  refine wpAnyU_take2 (i := 10) (v := _) rfl (by kernel_rfl) (by kernel_rfl) (by kernel_rfl) (by kernel_rfl) (fun _ _ _ h => h) (.inl ⟨by kernel_rfl, fun w' hS => by have s_4 := cellFr q4 hS; have s_5 := cellFr q5 hS; go_simp; rfl⟩) hS1 ?_
  refine wpAnyU_take2 (i := 12) (v := _) rfl (by kernel_rfl) (by kernel_rfl) (by kernel_rfl) (by kernel_rfl) (fun _ _ _ h => h) (.inl ⟨by kernel_rfl, fun w' hS => by go_simp; rfl⟩) hS1 ?_
  refine wpAnyU_take2 (i := 13) (v := _) rfl (by kernel_rfl) (by kernel_rfl) (by kernel_rfl) (by kernel_rfl) (fun _ _ _ h => h) (.inl ⟨by kernel_rfl, fun w' hS => by go_simp; rfl⟩) hS1 ?_
  refine wpAnyU_take2 (i := 14) (v := _) rfl (by kernel_rfl) (by kernel_rfl) (by kernel_rfl) (by kernel_rfl) (fun _ _ _ h => h) (.inl ⟨by kernel_rfl, fun w' hS => by have s_1 := cellFr q1 hS; go_simp; rfl⟩) hS1 ?_
  refine wpAnyU_take2 (i := 16) (v := _) rfl (by kernel_rfl) (by kernel_rfl) (by kernel_rfl) (by kernel_rfl) (fun _ _ _ h => h) (.inl ⟨by kernel_rfl, fun w' hS => by go_simp; rfl⟩) hS1 ?_
  refine wpAnyU_take2 (i := 17) (v := _) rfl (by kernel_rfl) (by kernel_rfl) (by kernel_rfl) (by kernel_rfl) (fun _ _ _ h => h) (.inl ⟨by kernel_rfl, fun w' hS => by go_simp; rfl⟩) hS1 ?_
  refine wpAnyU_take2 (i := 18) (v := _) rfl (by kernel_rfl) (by kernel_rfl) (by kernel_rfl) (by kernel_rfl) (fun _ _ _ h => h) (.inl ⟨by kernel_rfl, fun w' hS => by have s_1 := cellFr q1 hS; go_simp; rfl⟩) hS1 ?_
  refine wpAnyU_take2 (i := 19) (v := _) rfl (by kernel_rfl) (by kernel_rfl) (by kernel_rfl) (by kernel_rfl) (fun _ _ _ h => h) (.inl ⟨by kernel_rfl, fun w' hS => by go_simp; rfl⟩) hS1 ?_
  refine wpAnyU_take2 (i := 20) (v := _) rfl (by kernel_rfl) (by kernel_rfl) (by kernel_rfl) (by kernel_rfl) (fun _ _ _ h => h) (.inl ⟨by kernel_rfl, fun w' hS => by have s_2 := cellFr q2 hS; go_simp; rfl⟩) hS1 ?_
  refine wpAnyU_take2 (i := 22) (v := _) rfl (by kernel_rfl) (by kernel_rfl) (by kernel_rfl) (by kernel_rfl) (fun _ _ _ h => h) (.inl ⟨by kernel_rfl, fun w' hS => by go_simp; rfl⟩) hS1 ?_
  refine wpAnyU_take2 (i := 23) (v := _) rfl (by kernel_rfl) (by kernel_rfl) (by kernel_rfl) (by kernel_rfl) (fun _ _ _ h => h) (.inl ⟨by kernel_rfl, fun w' hS => by go_simp; rfl⟩) hS1 ?_
  refine wpAnyU_take2 (i := 24) (v := _) rfl (by kernel_rfl) (by kernel_rfl) (by kernel_rfl) (by kernel_rfl) (fun _ _ _ h => h) (.inl ⟨by kernel_rfl, fun w' hS => by have s_1 := cellFr q1 hS; go_simp; rfl⟩) hS1 ?_
  refine wpAnyU_take2 (i := 28) (v := _) rfl (by kernel_rfl) (by kernel_rfl) (by kernel_rfl) (by kernel_rfl) (fun _ _ _ h => h) (.inl ⟨by kernel_rfl, fun w' hS => by go_simp; rfl⟩) hS1 ?_
  clear q1 q2 q4 q5
  refine wpAnyU_oneW (i := 11) rfl (by kernel_rfl) (by kernel_rfl) ?_
  go_simp
  refine (memFree_nil xs xg _).mono ?_
  rintro e wf1 ⟨rfl, hf⟩
  have fS := (Fr.refl none_ wc8).drew.then_none hf
  refine ⟨fS, ?_⟩
  clear hf
  clear hS1
  refine wpAnyU_oneW (i := 15) rfl (by kernel_rfl) (by kernel_rfl) ?_
  go_simp
  refine (memGive_nil n _).mono ?_
  rintro e wf2 ⟨rfl, hf⟩
  have fS := fS.then_none hf
  refine ⟨fS, ?_⟩
  clear hf
  refine wpAnyU_oneW (i := 21) rfl (by kernel_rfl) (by kernel_rfl) ?_
  go_simp
  refine (memEnter_nil n at_ _).mono ?_
  rintro e wf3 ⟨rfl, hf⟩
  have fS := fS.then_none hf
  refine ⟨fS, ?_⟩
  clear hf
  refine wpAnyU_oneW (i := 25) rfl (by kernel_rfl) (by kernel_rfl) ?_
  go_simp
  refine (memLeave_nil n _).mono ?_
  rintro e wf4 ⟨rfl, hf⟩
  have fS := fS.then_none hf
  refine ⟨fS, ?_⟩
  clear hf
  refine wpAnyU_oneW (i := 26) rfl (by kernel_rfl) (by kernel_rfl) ?_
  go_simp
  refine ⟨fS.alloc _, ?_⟩
  obtain ⟨wg, hwg⟩ : ∃ z, z = wf4.alloc (.cells errs12 30) := ⟨_, rfl⟩
  have fG : Fr none_ wc8 wg := by rw [hwg]; exact fS.alloc _
  have BE : Hid (Blk wg wf4.heap.size 30 errs12) := hid_ (by rw [hwg]; exact Blk.new wf4 _ _)
  change wpAnyU _ _ _ _ _ _ _ _ _ (wf4.alloc (.cells errs12 30))
  rw [← hwg]
  clear hwg fS
  refine wpAnyU_oneW (i := 27) rfl (by kernel_rfl) (by kernel_rfl) ?_
  go_simp
  refine wpAnyU_done (by kernel_rfl) ?_ _
  replace F := hid_ (F.out.then_none fG)
  replace BD := hid_ (BD.out.fr fG id)
  clear fG
  go_wp2_with fail
  go_loopw [123] (fun i wr => ∃ k : Nat, k ≤ 12 ∧ i = .int .i64 k ∧ Fr none_ wg wr) (fun i _ => 12 - (intOf i).toNat)
  case atStart => exact ⟨0, Nat.zero_le _, rfl, Fr.refl _ _⟩
  case round =>
    obtain ⟨k, hk, rfl, hfr⟩ := hrel
    have FR := hid_ hfr
    have hi0 : (0 : Int) ≤ (k : Int) := Int.natCast_nonneg _
    by_cases hlt : k < 12
    · have hi1 : (k : Int) < 12 := by omega
      have e0 : wr.cell? ⟨wf4.heap.size, k, none⟩ = some (errV 1) := errs12_at (BE.out.fr hfr id) hlt
      clear hfr
      go_wp2_with fail
      refine (isF 1 1 _).mono ?_
      rintro e w6 ⟨rfl, rfl⟩
      go_wp2_with fail
      go_roundw
      case rel => exact ⟨k + 1, by omega, by go_num, FR.out⟩
      case measure => simp [intOf]; omega
    · obtain rfl : k = 12 := by omega
      replace F := hid_ (F.out.then_none hfr)
      clear hfr
      go_wp2_with fail
      refine (memNow_nil _).mono ?_
      rintro e wn0 ⟨rfl, hfn⟩
      replace F := hid_ (F.out.then_none hfn)
      clear hfn
      go_wp2_with fail
      refine (memCount_nil _).mono ?_
      rintro e wn1 ⟨rfl, hfn⟩
      replace F := hid_ (F.out.then_none hfn)
      clear hfn
      go_wp2_with fail
      refine (memLive_nil _).mono ?_
      rintro e wn2 ⟨rfl, hfn⟩
      replace F := hid_ (F.out.then_none hfn)
      clear hfn
      go_wp2_with fail
      refine (memPages_nil _).mono ?_
      rintro e wn3 ⟨rfl, hfn⟩
      replace F := hid_ (F.out.then_none hfn)
      clear hfn
      go_wp2_with fail
      refine (memCopy_nil _).mono ?_
      rintro e wn4 ⟨rfl, hfn⟩
      replace F := hid_ (F.out.then_none hfn)
      clear hfn
      go_wp2_with fail
      refine (memLimits_nil _).mono ?_
      rintro e wn5 ⟨rfl, hfn⟩
      replace F := hid_ (F.out.then_none hfn)
      clear hfn
      go_wp2_with fail
      refine (awake9 _).mono ?_
      rintro e w9 ⟨rfl, hf9⟩
      have F9 := hid_ hf9
      clear hf9
      go_wp2_with fail
      go_ret
      exact ⟨rfl, F.out.then_none F9.out⟩
theorem nobody9_walk_i {H : Type} {enc : TypeId × Value → H} (verb n at_ : Int) (rt : Bool) (xs xg ys yg : Int) (x0 : Int) (x1 : ByteArray) (x2 : ByteArray) (x3 : Bool) (x4 : Int) (vr : Value) (ve : Value) (x7 : ByteArray) (x8 : ByteArray) (x9 x10 x11 : Int) (x12 : ByteArray) (x13 x14 : Int) (w : World) (hA : Conf enc Try.prog w (.slice 40) vr) (hB : Conf enc Try.prog w (.slice 41) ve) :
    Calls Try.prog 4 #[.agg #[.int .i64 verb, .int .i64 n, .int .i64 at_, .bool rt, .int .i64 xs, .int .i64 xg, .int .i64 ys, .int .i64 yg, .int .i64 x0, .string x1, .string x2, .bool x3, .int .i64 x4, vr, ve, .string x7, .string x8, .int .i64 x9, .int .i64 x10, .int .i64 x11, .string x12, .int .i64 x13, .int .i64 x14]] w fun e w' => e = .returned (.bool true) ∧ Fr none_ w w' := by
  obtain ⟨A, n1, c, L, rfl, -, -, -, hL⟩ := rows_conf hA
  obtain ⟨B, n2, d, M, rfl, -, -, -, hM⟩ := ents_conf hB
  obtain rfl := hL.1
  obtain rfl := hM.1
  exact nobody9_walk verb n at_ rt xs xg ys yg ⟨x0, x1, x2, x3, x4, L, M, x7, x8, x9, x10, x11, x12, x13, x14⟩ A c B d w
end Go.Proofs.Ytobmkolgjdgeiaa

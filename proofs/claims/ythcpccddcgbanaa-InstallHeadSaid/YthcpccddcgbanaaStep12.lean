/- An installer's Step (but undoing), Done, Head, Pages. -/
import Derived.Test.YthcpccddcgbanaaFwdB
import Derived.BigQuiet
namespace Go.Proofs.Ythcpccddcgbanaa
open Go.RowKit
set_option maxRecDepth 100000
set_option linter.unusedVariables false

theorem step_nil (v : Value) (w : World) : Calls Try.prog 13 #[.pointer none, v] w fun e w' => e = .returned (.bool true) ∧ w = w' := by
  go_enter Try.func13, Try.ntmps13
  go_wp2_with fail
  refine (over_nil _).mono ?_
  rintro e w1 ⟨rfl, rfl⟩
  go_wp2_with fail
  go_ret
  exact ⟨rfl, rfl⟩
theorem step_over {w : World} {B i : Nat} {D : Dt} {a : Ia} (v : Value) (h : Inst w B i D a) (hs : D.stage = 7) : Calls Try.prog 13 #[.pointer (some ⟨i, 0, none⟩), v] w fun e w' => e = .returned (.bool true) ∧ w = w' := by
  have H := hid_ h
  have ho : (D.stage == 7) = true := by simp [hs]
  clear h hs
  go_enter Try.func13, Try.ntmps13
  go_wp2_with fail
  refine (over_ok H.out).mono ?_
  rintro e w1 ⟨rfl, rfl⟩
  go_wp2_with fail
  go_ret
  exact ⟨rfl, rfl⟩
theorem step_fwd {w : World} {B i : Nat} {D : Dt} {a : Ia} {v : Value} {Post : Ending → World → Prop} (h : Inst w B i D a) (h7 : D.stage ≠ 7) (h5 : D.stage ≠ 5) (h6 : D.stage ≠ 6) (hf : Calls Try.prog 44 #[.pointer (some ⟨i, 0, none⟩), v] w Post) (hp : ∀ e w', Post e w' → ∃ b, e = .returned (.bool b)) : Calls Try.prog 13 #[.pointer (some ⟨i, 0, none⟩), v] w Post := by
  have H := hid_ h
  have HF := hid_ hf
  have HP := hid_ hp
  have d7 : (D.stage == 7) = false := by simp [h7]
  have d5 : (D.stage == 5) = false := by simp [h5]
  have d6 : (D.stage == 6) = false := by simp [h6]
  have i5 : w.cell? ⟨i, 5, none⟩ = some (.int .i64 D.stage) := h.b.cell' rfl
  clear h h7 h5 h6 hf hp
  go_enter Try.func13, Try.ntmps13
  go_wp2_with fail
  refine (over_ok H.out).mono ?_
  rintro e w1 ⟨rfl, rfl⟩
  go_wp2_with fail
  refine HF.out.mono ?_
  intro e w2 h2
  obtain ⟨b, rfl⟩ := HP.out e w2 h2
  have H2 := hid_ h2
  clear h2
  go_wp2_with fail
  exact H2.out
theorem done_nil (w : World) : Calls Try.prog 15 #[.pointer none] w fun e w' => e = .returned (.tuple #[.bool false, errV 1]) ∧ w = w' := by
  go_enter Try.func15, Try.ntmps15
  go_wp2_with fail
  go_ret2
  exact ⟨rfl, rfl⟩
theorem done_ok {w : World} {B i : Nat} {D : Dt} {a : Ia} (h : Inst w B i D a) (hs : D.stage = 7) : Calls Try.prog 15 #[.pointer (some ⟨i, 0, none⟩)] w fun e w' => e = .returned (.tuple #[.bool D.done, a.ev]) ∧ Fr none_ w w' := by
  have H := hid_ h
  have ho : (D.stage == 7) = true := by simp [hs]
  have i25 : w.cell? ⟨i, 25, none⟩ = some (.bool D.done) := h.b.cell' rfl
  have i26 : w.cell? ⟨i, 26, none⟩ = some a.ev := h.b.cell' rfl
  have hsh := h.e.shape
  clear h hs
  rcases hsh with h | ⟨t, x, h⟩
  all_goals
    rw [h] at i26 ⊢
    clear h
    go_enter Try.func15, Try.ntmps15
    go_wp2_with fail
    refine (over_ok H.out).mono ?_
    rintro e w1 ⟨rfl, rfl⟩
    go_wp2_with fail
    go_quiet (fail)
    go_wp2_with fail
    go_ret2
    exact ⟨rfl, by first | exact Fr.refl _ _ | exact (Fr.refl _ _).drew | exact (Fr.refl _ _).drewN _⟩
theorem done_busy {w : World} {B i : Nat} {D : Dt} {a : Ia} (h : Inst w B i D a) (hs : D.stage ≠ 7) : Calls Try.prog 15 #[.pointer (some ⟨i, 0, none⟩)] w fun e w' => e = .returned (.tuple #[.bool false, errV 11]) ∧ w = w' := by
  have H := hid_ h
  have ho : (D.stage == 7) = false := by simp [hs]
  clear h hs
  go_enter Try.func15, Try.ntmps15
  go_wp2_with fail
  refine (over_ok H.out).mono ?_
  rintro e w1 ⟨rfl, rfl⟩
  go_wp2_with fail
  go_ret2
  exact ⟨rfl, rfl⟩
theorem ihead_nil (w : World) : Calls Try.prog 17 #[.pointer none] w fun e w' => e = .returned (.agg #[.int .i64 0, .int .i64 0]) ∧ Fr none_ w w' := by
  have K := Blk.new w 34 #[.int .i64 0, .int .i64 0]
  have x0 := K.cell' (i := 0) rfl
  have x1 := K.cell' (i := 1) rfl
  have y0 := K.frozen 0
  have y1 := K.frozen 1
  have KK := hid_ K
  clear K
  go_enter Try.func17, Try.ntmps17
  go_wp2_with fail
  have q0 := KK.out.cell' (i := 0) rfl
  have q1 := KK.out.cell' (i := 1) rfl
  refine bodyPost_ret (v := .agg #[.int .i64 0, .int .i64 0]) ?_ rfl ⟨rfl, (Fr.refl none_ w).alloc _⟩
  simp [results, Try.results17, go_sem, q0, q1]
theorem ipages_nil (w : World) : Calls Try.prog 18 #[.pointer none] w fun e w' => e = .returned (.slice none 0 0) ∧ w = w' := by
  go_enter Try.func18, Try.ntmps18
  go_wp2_with fail
  go_ret
  exact ⟨rfl, rfl⟩
theorem ihead_ok {w : World} {B i : Nat} {D : Dt} {a : Ia} (h : Inst w B i D a) (hd : D.done = true) {j : Nat} {s g : Int} (hl : D.refs.length = j + 1) (hj : D.refs[j]? = some (s, g)) : Calls Try.prog 17 #[.pointer (some ⟨i, 0, none⟩)] w fun e w' => e = .returned (.agg #[.int .i64 s, .int .i64 g]) ∧ Fr none_ w w' := by
  obtain ⟨A2, c2, e2, hcap, -, hcells⟩ := own_parts h.r
  obtain ⟨gb, rfl, hgb, hcc⟩ := hcells (by omega)
  have hwj : IntKind.i64.wrap (j : Int) = (j : Int) := IntWalk.i64_in _ (by have := h.zp.2.2; omega)
  have f0 : Fr none_ w (w.alloc (.cells #[.int .i64 0, .int .i64 0] 34)) := (Fr.refl none_ w).alloc _
  have i23 : w.cell? ⟨i, 23, none⟩ = some (.slice (some ⟨gb, 0, none⟩) (j + 1) c2) := by rw [← hl, ← e2]; exact h.b.cell' rfl
  have i25 : w.cell? ⟨i, 25, none⟩ = some (.bool true) := by rw [← hd]; exact h.b.cell' rfl
  have g0 : w.cell? ⟨gb, j * 2, none⟩ = some (.int .i64 s) := hcc _ _ (last_row hl hj).1
  have g1 : w.cell? ⟨gb, j * 2 + 1, none⟩ = some (.int .i64 g) := hcc _ _ (last_row hl hj).2
  replace i23 := cellFr i23 f0
  replace i25 := cellFr i25 f0
  replace g0 := cellFr g0 f0
  replace g1 := cellFr g1 f0
  have K := Blk.new w 34 #[.int .i64 0, .int .i64 0]
  have KK := hid_ K
  have hcap2 : j + 1 ≤ c2 := by rw [hl] at hcap; exact hcap
  clear h hd hl hj e2 hcc hcap K
  obtain ⟨w0, hw0⟩ : ∃ z, z = w.alloc (.cells #[.int .i64 0, .int .i64 0] 34) := ⟨_, rfl⟩
  have F0 := hid_ f0
  rw [← hw0] at i23 i25 g0 g1 KK F0
  clear f0
  go_enter Try.func17, Try.ntmps17
  go_upto_region 1 with fail
  change Code.wp _ _ _ _ (w.alloc (.cells #[.int .i64 0, .int .i64 0] 34))
  rw [← hw0]
  clear hw0
  go_upto_region 3 with fail
  have hS0 : (fun w' : World => Fr none_ w0 w') w0.drew := (Fr.refl none_ w0).drew
  refine wp_region_U (m := 12) (S := fun w' : World => Fr none_ w0 w') (by kernel_rfl) ?_
  refine wpAnyU_take2 (i := 0) (v := _) rfl (by kernel_rfl) (by kernel_rfl) (by kernel_rfl) (by kernel_rfl) (fun _ _ _ h => h) (.inl ⟨by kernel_rfl, fun w' hS => by go_simp; rfl⟩) hS0 ?_
  refine wpAnyU_take2 (i := 1) (v := _) rfl (by kernel_rfl) (by kernel_rfl) (by kernel_rfl) (by kernel_rfl) (fun _ _ _ h => h) (.inl ⟨by kernel_rfl, fun w' hS => by go_simp; rfl⟩) hS0 ?_
  refine wpAnyU_take2 (i := 2) (v := _) rfl (by kernel_rfl) (by kernel_rfl) (by kernel_rfl) (by kernel_rfl) (fun _ _ _ h => h) (.inl ⟨by kernel_rfl, fun w' hS => by go_simp; rfl⟩) hS0 ?_
  refine wpAnyU_take2 (i := 3) (v := _) rfl (by kernel_rfl) (by kernel_rfl) (by kernel_rfl) (by kernel_rfl) (fun _ _ _ h => h) (.inl ⟨by kernel_rfl, fun w' hS => by have s_ := cellFr i23 hS; go_simp; rfl⟩) hS0 ?_
  refine wpAnyU_take2 (i := 4) (v := _) rfl (by kernel_rfl) (by kernel_rfl) (by kernel_rfl) (by kernel_rfl) (fun _ _ _ h => h) (.inl ⟨by kernel_rfl, fun w' hS => by go_simp; rfl⟩) hS0 ?_
  refine wpAnyU_take2 (i := 5) (v := _) rfl (by kernel_rfl) (by kernel_rfl) (by kernel_rfl) (by kernel_rfl) (fun _ _ _ h => h) (.inl ⟨by kernel_rfl, fun w' hS => by go_simp; rfl⟩) hS0 ?_
  refine wpAnyU_take2 (i := 6) (v := _) rfl (by kernel_rfl) (by kernel_rfl) (by kernel_rfl) (by kernel_rfl) (fun _ _ _ h => h) (.inl ⟨by kernel_rfl, fun w' hS => by go_simp; rfl⟩) hS0 ?_
  refine wpAnyU_take2 (i := 7) (v := _) rfl (by kernel_rfl) (by kernel_rfl) (by kernel_rfl) (by kernel_rfl) (fun _ _ _ h => h) (.inl ⟨by kernel_rfl, fun w' hS => by have s_ := cellFr i23 hS; go_simp; rfl⟩) hS0 ?_
  refine wpAnyU_take2 (i := 8) (v := _) rfl (by kernel_rfl) (by kernel_rfl) (by kernel_rfl) (by kernel_rfl) (fun _ _ _ h => h) (.inl ⟨by kernel_rfl, fun w' hS => by go_simp; rfl⟩) hS0 ?_
  refine wpAnyU_take2 (i := 9) (v := _) rfl (by kernel_rfl) (by kernel_rfl) (by kernel_rfl) (by kernel_rfl) (fun _ _ _ h => h) (.inl ⟨by kernel_rfl, fun w' hS => by have s_w := hwj; go_simp; rfl⟩) hS0 ?_
  refine wpAnyU_take2 (i := 10) (v := _) rfl (by kernel_rfl) (by kernel_rfl) (by kernel_rfl) (by kernel_rfl) (fun _ _ _ h => h) (.inl ⟨by kernel_rfl, fun w' hS => by have s_w := hwj; have s_l : (j : Int) < (j : Int) + 1 := Int.lt_succ _; go_simp; rfl⟩) hS0 ?_
  refine wpAnyU_take2 (i := 11) (v := _) rfl (by kernel_rfl) (by kernel_rfl) (by kernel_rfl) (by kernel_rfl) (fun _ _ _ h => h) (.inl ⟨by kernel_rfl, fun w' hS => by have s_0 := cellFr g0 hS; have s_1 := cellFr g1 hS; go_simp; rfl⟩) hS0 ?_
  clear hS0 i23 i25 g0 g1 hwj
  have y0 := KK.out.frozen 0
  have y1 := KK.out.frozen 1
  have z0 : w0.cell? ⟨w.heap.size, 0, none⟩ = some (.int .i64 0) := KK.out.cell' rfl
  have z1 : w0.cell? ⟨w.heap.size, 1, none⟩ = some (.int .i64 0) := KK.out.cell' rfl
  refine wpAnyU_oneW (i := 12) rfl (by kernel_rfl) (by kernel_rfl) ?_
  go_simp
  clear y0 y1 z0 z1
  obtain ⟨qb, qf⟩ := box2 KK.out (.int .i64 s) (.int .i64 g)
  obtain ⟨w5, hw5⟩ : ∃ z, z = ((w0.setCell ⟨w.heap.size, 0, none⟩ (.int .i64 s)).setCell ⟨w.heap.size, 1, none⟩ (.int .i64 g)).drew := ⟨_, rfl⟩
  have qb2 : Blk w5 w.heap.size 34 #[.int .i64 s, .int .i64 g] := by rw [hw5]; exact qb.drew
  have HQ : Hid (Fr (only w.heap.size) w0 w5) := hid_ (by rw [hw5]; exact qf.drew)
  rw [← hw5]
  clear hw5 qb qf
  have q0 := qb2.cell' (i := 0) rfl
  have q1 := qb2.cell' (i := 1) rfl
  refine wpAnyU_done (by kernel_rfl) ?_ _
  go_wp2_with fail
  refine bodyPost_ret (v := .agg #[.int .i64 s, .int .i64 g]) ?_ rfl ⟨rfl, F0.out.then_only HQ.out (.inr (Nat.le_refl _))⟩
  simp [results, Try.results17, go_sem, q0, q1]
end Go.Proofs.Ythcpccddcgbanaa

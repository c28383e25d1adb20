/- inner.Base and Child by contract. Written by gen_base8.py. -/
import Derived.Test.YtfoljojacakkeaaDoorCh
namespace Go.Proofs.YtfoljojacakkeaaDoor
open Go.RowKit Go.BigFrame
set_option maxRecDepth 100000
set_option linter.unusedVariables false

/-- A view's base. -/
def baseR (V : Vw) : Rc := { Rc.zero with kind := 7, low := V.low, high := V.high, unb := V.unb, right := V.right, ents := V.ents }
def BasePost (V : Vw) (w : World) (e : Ending) (w' : World) : Prop :=
  ∃ A' c', e = .returned (recV (baseR V) (.slice none 0 0) (.slice A' V.ents.length c')) ∧ w'.ownsRow w.heap.size 60 2 (.slice A' V.ents.length c') V.ents.length (etFlat V.ents) ∧ Fr none_ w w'
set_option maxHeartbeats 4000000 in
theorem base_ok (V : Vw) (A : Option Addr) (c : Nat) (w : World) (h : VwIn w V A c) :
    Calls Tryd.prog 37 #[vwV V (.slice A V.ents.length c)] w (BasePost V w) := by
  obtain ⟨w0, hw0⟩ : ∃ w0, w0 = (w.alloc (.cells (vwA V (.slice A V.ents.length c)) 57)).alloc (.cells (recA Rc.zero (.slice none 0 0) (.slice none 0 0)) 40) := ⟨_, rfl⟩
  have f0 : Fr none_ w w0 := by rw [hw0]; exact ((Fr.refl none_ w).alloc _).alloc _
  have BV : Hid (Blk w0 w.heap.size 57 (vwA V (.slice A V.ents.length c))) := hid_ (by rw [hw0]; exact (Blk.new w _ _).alloc _)
  have BO : Hid (Blk w0 (w.heap.size + 1) 40 (recA Rc.zero (.slice none 0 0) (.slice none 0 0))) := hid_ (by
    have := Blk.new (w.alloc (.cells (vwA V (.slice A V.ents.length c)) 57)) 40 (recA Rc.zero (.slice none 0 0) (.slice none 0 0))
    rw [World.size_alloc] at this
    rw [hw0]; exact this)
  have H := hid_ (h.keep f0)
  have F0 := hid_ f0
  have hsz := f0.size
  have hl := h.ok.ents.1
  clear h f0
  go_enter Tryd.func37, Tryd.ntmps37
  go_wp2_with fail
  change Code.wp _ _ _ _ ((w.alloc (.cells (vwA V (.slice A V.ents.length c)) 57)).alloc (.cells (recA Rc.zero (.slice none 0 0) (.slice none 0 0)) 40))
  rw [← hw0]
  clear hw0
  have v0 : w0.cell? ⟨w.heap.size, 0, none⟩ = some (.string V.low) := BV.out.cell' rfl
  have v1 : w0.cell? ⟨w.heap.size, 1, none⟩ = some (.string V.high) := BV.out.cell' rfl
  have v2 : w0.cell? ⟨w.heap.size, 2, none⟩ = some (.bool V.unb) := BV.out.cell' rfl
  have v3 : w0.cell? ⟨w.heap.size, 3, none⟩ = some (.int .i64 V.right) := BV.out.cell' rfl
  have v4 : w0.cell? ⟨w.heap.size, 4, none⟩ = some (.slice A V.ents.length c) := BV.out.cell' rfl
  have hS0 : (fun w' : World => Fr none_ w0 w') w0.drew := (Fr.refl none_ w0).drew
  refine wp_region_T (m := 13) (S := fun w' : World => Fr none_ w0 w') (by kernel_rfl) ?_
  refine wpAnyT_take2 (i := 0) (v := _) rfl (by kernel_rfl) (by kernel_rfl) (by kernel_rfl) (by kernel_rfl) (fun _ _ _ h => h) (.inl ⟨by simp [Region.wanted], fun w' hS => by have s_v0 := cellFr v0 hS; have s_v1 := cellFr v1 hS; have s_v2 := cellFr v2 hS; have s_v3 := cellFr v3 hS; have s_v4 := cellFr v4 hS; go_simp; rfl⟩) hS0 ?_
  refine wpAnyT_take2 (i := 1) (v := _) rfl (by kernel_rfl) (by kernel_rfl) (by kernel_rfl) (by kernel_rfl) (fun _ _ _ h => h) (.inl ⟨by simp [Region.wanted], fun w' hS => by have s_v0 := cellFr v0 hS; have s_v1 := cellFr v1 hS; have s_v2 := cellFr v2 hS; have s_v3 := cellFr v3 hS; have s_v4 := cellFr v4 hS; go_simp; rfl⟩) hS0 ?_
  refine wpAnyT_take2 (i := 2) (v := _) rfl (by kernel_rfl) (by kernel_rfl) (by kernel_rfl) (by kernel_rfl) (fun _ _ _ h => h) (.inl ⟨by simp [Region.wanted], fun w' hS => by have s_v0 := cellFr v0 hS; have s_v1 := cellFr v1 hS; have s_v2 := cellFr v2 hS; have s_v3 := cellFr v3 hS; have s_v4 := cellFr v4 hS; go_simp; rfl⟩) hS0 ?_
  refine wpAnyT_take2 (i := 3) (v := _) rfl (by kernel_rfl) (by kernel_rfl) (by kernel_rfl) (by kernel_rfl) (fun _ _ _ h => h) (.inl ⟨by simp [Region.wanted], fun w' hS => by have s_v0 := cellFr v0 hS; have s_v1 := cellFr v1 hS; have s_v2 := cellFr v2 hS; have s_v3 := cellFr v3 hS; have s_v4 := cellFr v4 hS; go_simp; rfl⟩) hS0 ?_
  refine wpAnyT_take2 (i := 4) (v := _) rfl (by kernel_rfl) (by kernel_rfl) (by kernel_rfl) (by kernel_rfl) (fun _ _ _ h => h) (.inl ⟨by simp [Region.wanted], fun w' hS => by have s_v0 := cellFr v0 hS; have s_v1 := cellFr v1 hS; have s_v2 := cellFr v2 hS; have s_v3 := cellFr v3 hS; have s_v4 := cellFr v4 hS; go_simp; rfl⟩) hS0 ?_
  refine wpAnyT_take2 (i := 5) (v := _) rfl (by kernel_rfl) (by kernel_rfl) (by kernel_rfl) (by kernel_rfl) (fun _ _ _ h => h) (.inl ⟨by simp [Region.wanted], fun w' hS => by have s_v0 := cellFr v0 hS; have s_v1 := cellFr v1 hS; have s_v2 := cellFr v2 hS; have s_v3 := cellFr v3 hS; have s_v4 := cellFr v4 hS; go_simp; rfl⟩) hS0 ?_
  refine wpAnyT_take2 (i := 6) (v := _) rfl (by kernel_rfl) (by kernel_rfl) (by kernel_rfl) (by kernel_rfl) (fun _ _ _ h => h) (.inl ⟨by simp [Region.wanted], fun w' hS => by have s_v0 := cellFr v0 hS; have s_v1 := cellFr v1 hS; have s_v2 := cellFr v2 hS; have s_v3 := cellFr v3 hS; have s_v4 := cellFr v4 hS; go_simp; rfl⟩) hS0 ?_
  refine wpAnyT_take2 (i := 7) (v := _) rfl (by kernel_rfl) (by kernel_rfl) (by kernel_rfl) (by kernel_rfl) (fun _ _ _ h => h) (.inl ⟨by simp [Region.wanted], fun w' hS => by have s_v0 := cellFr v0 hS; have s_v1 := cellFr v1 hS; have s_v2 := cellFr v2 hS; have s_v3 := cellFr v3 hS; have s_v4 := cellFr v4 hS; go_simp; rfl⟩) hS0 ?_
  refine wpAnyT_take2 (i := 8) (v := _) rfl (by kernel_rfl) (by kernel_rfl) (by kernel_rfl) (by kernel_rfl) (fun _ _ _ h => h) (.inl ⟨by simp [Region.wanted], fun w' hS => by have s_v0 := cellFr v0 hS; have s_v1 := cellFr v1 hS; have s_v2 := cellFr v2 hS; have s_v3 := cellFr v3 hS; have s_v4 := cellFr v4 hS; go_simp; rfl⟩) hS0 ?_
  refine wpAnyT_take2 (i := 9) (v := _) rfl (by kernel_rfl) (by kernel_rfl) (by kernel_rfl) (by kernel_rfl) (fun _ _ _ h => h) (.inl ⟨by simp [Region.wanted], fun w' hS => by have s_v0 := cellFr v0 hS; have s_v1 := cellFr v1 hS; have s_v2 := cellFr v2 hS; have s_v3 := cellFr v3 hS; have s_v4 := cellFr v4 hS; go_simp; rfl⟩) hS0 ?_
  refine wpAnyT_one (i := 10) rfl rfl (by kernel_rfl) ?_
  go_simp
  refine ⟨(Fr.refl none_ w0).drew.alloc _, ?_⟩
  refine wpAnyT_one (i := 11) rfl rfl (by kernel_rfl) ?_
  go_simp
  obtain ⟨w3, hw3⟩ : ∃ w3, w3 = (w0.alloc (.cells #[.slice A V.ents.length c] 34)).drew := ⟨_, rfl⟩
  have f3 : Fr none_ w0 w3 := by rw [hw3]; exact ((Fr.refl none_ w0).alloc _).drew
  have B3 : Hid (Blk w3 w0.heap.size 34 #[.slice A V.ents.length c]) := hid_ (by rw [hw3]; exact (Blk.new w0 _ _).drew)
  have RD := hid_ (H.out.rd.none_fr f3)
  have F3 := hid_ f3
  have hs3 := f3.size
  rw [← hw3]
  clear hw3 f3
  refine (joined_ok w0.heap.size [(A, c, V.ents)] w3 ?_ ?_ ?_ ?_).mono ?_
  · intro i x hx
    match i, hx with
    | 0, hx => cases hx; rw [B3.out.cell]; rfl
    | k + 1, hx => simp at hx
  · intro x hx
    obtain rfl : x = (A, c, V.ents) := by simpa using hx
    exact RD.out
  · simp [ptL]; omega
  · simp
  rintro e w4 ⟨A', c', rfl, ho, hf4⟩
  rw [show ptL [(A, c, V.ents)] = V.ents by simp [ptL]] at ho ⊢
  have O4 := hid_ ho
  have F4 := hid_ (F3.out.then_none hf4)
  have BO4 := hid_ (BO.out.fr F4.out id)
  clear ho hf4 B3 RD v0 v1 v2 v3 v4
  refine ⟨F4.out, ?_⟩
  refine wpAnyT_take2 (i := 12) (v := _) rfl (by kernel_rfl) (by kernel_rfl) (by kernel_rfl) (by kernel_rfl) (fun _ _ _ h => h) (.inl ⟨by simp [Region.wanted], fun w' hS => by skip; go_simp; rfl⟩) F4.out ?_
  have s0 : w4.cell? ⟨w.heap.size + 1, 0, none⟩ = some (.int .i64 0) := BO4.out.cell' rfl
  have z0 := BO4.out.frozen 0
  have s1 : w4.cell? ⟨w.heap.size + 1, 1, none⟩ = some (.string nilS) := BO4.out.cell' rfl
  have z1 := BO4.out.frozen 1
  have s2 : w4.cell? ⟨w.heap.size + 1, 2, none⟩ = some (.string nilS) := BO4.out.cell' rfl
  have z2 := BO4.out.frozen 2
  have s3 : w4.cell? ⟨w.heap.size + 1, 3, none⟩ = some (.bool false) := BO4.out.cell' rfl
  have z3 := BO4.out.frozen 3
  have s4 : w4.cell? ⟨w.heap.size + 1, 4, none⟩ = some (.int .i64 0) := BO4.out.cell' rfl
  have z4 := BO4.out.frozen 4
  have s5 : w4.cell? ⟨w.heap.size + 1, 5, none⟩ = some (.slice none 0 0) := BO4.out.cell' rfl
  have z5 := BO4.out.frozen 5
  have s6 : w4.cell? ⟨w.heap.size + 1, 6, none⟩ = some (.slice none 0 0) := BO4.out.cell' rfl
  have z6 := BO4.out.frozen 6
  have s7 : w4.cell? ⟨w.heap.size + 1, 7, none⟩ = some (.string nilS) := BO4.out.cell' rfl
  have z7 := BO4.out.frozen 7
  have s8 : w4.cell? ⟨w.heap.size + 1, 8, none⟩ = some (.string nilS) := BO4.out.cell' rfl
  have z8 := BO4.out.frozen 8
  have s9 : w4.cell? ⟨w.heap.size + 1, 9, none⟩ = some (.int .i64 0) := BO4.out.cell' rfl
  have z9 := BO4.out.frozen 9
  have s10 : w4.cell? ⟨w.heap.size + 1, 10, none⟩ = some (.int .i64 0) := BO4.out.cell' rfl
  have z10 := BO4.out.frozen 10
  have s11 : w4.cell? ⟨w.heap.size + 1, 11, none⟩ = some (.int .i64 0) := BO4.out.cell' rfl
  have z11 := BO4.out.frozen 11
  have s12 : w4.cell? ⟨w.heap.size + 1, 12, none⟩ = some (.string nilS) := BO4.out.cell' rfl
  have z12 := BO4.out.frozen 12
  have s13 : w4.cell? ⟨w.heap.size + 1, 13, none⟩ = some (.int .i64 0) := BO4.out.cell' rfl
  have z13 := BO4.out.frozen 13
  have s14 : w4.cell? ⟨w.heap.size + 1, 14, none⟩ = some (.int .i64 0) := BO4.out.cell' rfl
  have z14 := BO4.out.frozen 14
  refine wpAnyT_one (i := 13) rfl rfl (by kernel_rfl) ?_
  go_simp
  refine wpAnyT_done (by kernel_rfl) ?_ _
  clear s0 z0 s1 z1 s2 z2 s3 z3 s4 z4 s5 z5 s6 z6 s7 z7 s8 z8 s9 z9 s10 z10 s11 z11 s12 z12 s13 z13 s14 z14
  obtain ⟨qb, qf⟩ := box15 BO4.out (.int .i64 7) (.string V.low) (.string V.high) (.bool V.unb) (.int .i64 V.right) (.slice none 0 0) (.slice A' V.ents.length c') (.string nilS) (.string nilS) (.int .i64 0) (.int .i64 0) (.int .i64 0) (.string nilS) (.int .i64 0) (.int .i64 0)
  have q0 := qb.cell' (i := 0) rfl
  have q1 := qb.cell' (i := 1) rfl
  have q2 := qb.cell' (i := 2) rfl
  have q3 := qb.cell' (i := 3) rfl
  have q4 := qb.cell' (i := 4) rfl
  have q5 := qb.cell' (i := 5) rfl
  have q6 := qb.cell' (i := 6) rfl
  have q7 := qb.cell' (i := 7) rfl
  have q8 := qb.cell' (i := 8) rfl
  have q9 := qb.cell' (i := 9) rfl
  have q10 := qb.cell' (i := 10) rfl
  have q11 := qb.cell' (i := 11) rfl
  have q12 := qb.cell' (i := 12) rfl
  have q13 := qb.cell' (i := 13) rfl
  have q14 := qb.cell' (i := 14) rfl
  have O5 := own_fr O4.out qf (fun k hk e => own_blk_ne O4.out BO4.out (by decide) (by rw [hk, show k = w.heap.size + 1 from e]))
  have F5 := (F0.out.then_none F4.out).then_only qf (.inr (by omega))
  clear qb qf
  go_wp2
  refine bodyPost_ret (v := recV (baseR V) (.slice none 0 0) (.slice A' V.ents.length c')) ?_ rfl ⟨A', c', rfl, own_base O5 (by omega), F5⟩
  simp [results, Tryd.results37, go_sem, baseR, Rc.zero, q0, q1, q2, q3, q4, q5, q6, q7, q8, q9, q10, q11, q12, q13, q14]
end Go.Proofs.YtfoljojacakkeaaDoor

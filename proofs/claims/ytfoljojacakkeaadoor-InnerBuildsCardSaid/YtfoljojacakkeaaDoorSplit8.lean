/- inner.Split by contract. Written by gen_split8.py. -/
import Derived.Test.YtfoljojacakkeaaDoorHalves8
namespace Go.Proofs.YtfoljojacakkeaaDoor
open Go.RowKit Go.BigFrame Go.ChangeShapes Go.WideShapes
set_option maxRecDepth 100000
set_option linter.unusedVariables false

theorem zero_in (w : World) : VwIn w Vw.zero none 0 := ⟨Reads.nil_, Nat.le_refl _, Nat.zero_le _, ⟨SzOk.nil, SzOk.nil, SzOk.nil, ⟨Nat.zero_le _, fun p hp => by simp [Vw.zero] at hp⟩⟩⟩
/-- Why a view has no halves. -/
def NoHalf (V : Vw) (k : Int) : Prop := (V.held = true ∧ k = 13) ∨ (V.held = false ∧ V.ents.length ≤ 1 ∧ k = 2)
theorem NoHalf.ne {V : Vw} {k : Int} (h : NoHalf V k) : k ≠ 0 := by rcases h with ⟨_, rfl⟩ | ⟨_, _, rfl⟩ <;> decide
theorem halves_ok2 (V : Vw) (A : Option Addr) (c : Nat) (w : World) (h : VwIn w V A c) :
    Calls Tryd.prog 73 #[vwV V (.slice A V.ents.length c)] w fun e w' => (∃ k, NoHalf V k ∧ e = .returned (.tuple #[vwV Vw.zero (.slice none 0 0), vwV Vw.zero (.slice none 0 0), errV k]) ∧ Fr none_ w w') ∨
      (∃ (q : Et) (A' A5 : Option Addr) (c' c5 : Nat), V.held = false ∧ 2 ≤ V.ents.length ∧ V.ents[V.ents.length / 2]? = some q ∧
    e = .returned (.tuple #[vwV (leftV V (V.ents.length / 2) q.1 V.right) (.slice A' (leftV V (V.ents.length / 2) q.1 V.right).ents.length c'), vwV (rightV V (V.ents.length / 2) q.1) (.slice A5 (rightV V (V.ents.length / 2) q.1).ents.length c5), .nilIface]) ∧
    VwIn w' (leftV V (V.ents.length / 2) q.1 V.right) A' c' ∧ VwIn w' (rightV V (V.ents.length / 2) q.1) A5 c5 ∧ Fr none_ w w') :=
  (halves_ok V A c w h).mono fun e w' hp => by
    rcases hp with ⟨a, b, c⟩ | ⟨a, b, c, d⟩ | h
    · exact .inl ⟨13, .inl ⟨a, rfl⟩, b, c⟩
    · exact .inl ⟨2, .inr ⟨a, b, rfl⟩, c, d⟩
    · exact .inr h
def SplitPost (V : Vw) (page : Int) (w : World) (e : Ending) (w' : World) : Prop :=
  (∃ k, NoHalf V k ∧ e = .returned (.tuple #[recV Rc.zero (.slice none 0 0) (.slice none 0 0), recV Rc.zero (.slice none 0 0) (.slice none 0 0), errV k]) ∧ Fr none_ w w') ∨
  (∃ (q : Et) (A' : Option Addr) (c' : Nat), V.held = false ∧ 2 ≤ V.ents.length ∧ V.ents[V.ents.length / 2]? = some q ∧
    e = .returned (.tuple #[recV (splitR q.1 page) (.slice none 0 0) (.slice none 0 0), recV (baseR (rightV V (V.ents.length / 2) q.1)) (.slice none 0 0) (.slice A' (rightV V (V.ents.length / 2) q.1).ents.length c'), .nilIface]) ∧
    w'.ownsRow w.heap.size 60 2 (.slice A' (rightV V (V.ents.length / 2) q.1).ents.length c') (rightV V (V.ents.length / 2) q.1).ents.length (etFlat (rightV V (V.ents.length / 2) q.1).ents) ∧ (rightV V (V.ents.length / 2) q.1).Ok ∧ Fr none_ w w')
set_option maxHeartbeats 8000000 in
theorem split_ok (V : Vw) (page : Int) (A : Option Addr) (c : Nat) (w : World) (h : VwIn w V A c) :
    Calls Tryd.prog 32 #[vwV V (.slice A V.ents.length c), .int .i64 page] w (SplitPost V page w) := by
  obtain ⟨w0, hw0⟩ : ∃ z, z = ((w.alloc (.cells (vwA V (.slice A V.ents.length c)) 57)).alloc (.cells (recA Rc.zero (.slice none 0 0) (.slice none 0 0)) 40)).alloc (.cells (recA Rc.zero (.slice none 0 0) (.slice none 0 0)) 40) := ⟨_, rfl⟩
  have f0 : Fr none_ w w0 := by rw [hw0]; exact (((Fr.refl none_ w).alloc _).alloc _).alloc _
  have BV : Hid (Blk w0 w.heap.size 57 (vwA V (.slice A V.ents.length c))) := hid_ (by rw [hw0]; exact ((Blk.new w _ _).alloc _).alloc _)
  have B1 : Hid (Blk w0 (w.heap.size + 1) 40 (recA Rc.zero (.slice none 0 0) (.slice none 0 0))) := hid_ (by rw [hw0]; exact (Blk.new_at _ _ (by simp)).alloc _)
  have B2 : Hid (Blk w0 (w.heap.size + 1 + 1) 40 (recA Rc.zero (.slice none 0 0) (.slice none 0 0))) := hid_ (by rw [hw0]; exact Blk.new_at _ _ (by simp))
  have H := hid_ (h.keep f0)
  have F := hid_ f0
  have hsz : w.heap.size + 1 + 1 < w0.heap.size := B2.out.lt
  clear h f0
  have v0 : w0.cell? ⟨w.heap.size, 0, none⟩ = some (.string V.low) := BV.out.cell' rfl
  have v1 : w0.cell? ⟨w.heap.size, 1, none⟩ = some (.string V.high) := BV.out.cell' rfl
  have v2 : w0.cell? ⟨w.heap.size, 2, none⟩ = some (.bool V.unb) := BV.out.cell' rfl
  have v3 : w0.cell? ⟨w.heap.size, 3, none⟩ = some (.int .i64 V.right) := BV.out.cell' rfl
  have v4 : w0.cell? ⟨w.heap.size, 4, none⟩ = some (.slice A V.ents.length c) := BV.out.cell' rfl
  have v5 : w0.cell? ⟨w.heap.size, 5, none⟩ = some (.bool V.held) := BV.out.cell' rfl
  have v6 : w0.cell? ⟨w.heap.size, 6, none⟩ = some (.int .i64 V.hp) := BV.out.cell' rfl
  have v7 : w0.cell? ⟨w.heap.size, 7, none⟩ = some (.int .i64 V.hl) := BV.out.cell' rfl
  have v8 : w0.cell? ⟨w.heap.size, 8, none⟩ = some (.string V.hk) := BV.out.cell' rfl
  rw [hw0] at v0 v1 v2 v3 v4 v5 v6 v7 v8
  go_enter Tryd.func32, Tryd.ntmps32
  go_wp2_with fail
  change Calls _ _ _ (((w.alloc (.cells (vwA V (.slice A V.ents.length c)) 57)).alloc (.cells (recA Rc.zero (.slice none 0 0) (.slice none 0 0)) 40)).alloc (.cells (recA Rc.zero (.slice none 0 0) (.slice none 0 0)) 40)) _
  rw [← hw0]
  clear hw0
  clear v0 v1 v2 v3 v4 v5 v6 v7 v8
  refine (halves_ok2 V A c _ H.out).mono ?_
  rintro e w1 (⟨k, hk, rfl, hf1⟩ | ⟨q, A1, A2, c1, c2, hh, h2, hq, rfl, hL, hR, hf1⟩)
  · skip
    replace B1 := hid_ (B1.out.fr hf1 id)
    replace B2 := hid_ (B2.out.fr hf1 id)
    replace F := hid_ (F.out.then_none hf1)
    have hs1 := hf1.size
    clear hf1
    have HK := hid_ hk
    have hk0 := hk.ne
    clear hk
    go_upto_region 2 with fail
    obtain ⟨w2, hw2⟩ : ∃ z, z = (w1.alloc (.cells (vwA Vw.zero (.slice none 0 0)) 57)).alloc (.cells (vwA Vw.zero (.slice none 0 0)) 57) := ⟨_, rfl⟩
    have f2 : Fr none_ w1 w2 := by rw [hw2]; exact ((Fr.refl none_ w1).alloc _).alloc _
    replace B1 := hid_ (B1.out.fr f2 id)
    replace B2 := hid_ (B2.out.fr f2 id)
    replace F := hid_ (F.out.then_none f2)
    change Code.wp _ _ _ _ ((w1.alloc (.cells (vwA Vw.zero (.slice none 0 0)) 57)).alloc (.cells (vwA Vw.zero (.slice none 0 0)) 57))
    rw [← hw2]
    have hs2 := f2.size
    clear hw2 f2
    have y0 : w2.cell? ⟨w.heap.size + 1, 0, none⟩ = some (.int .i64 0) := B1.out.cell' rfl
    have y1 : w2.cell? ⟨w.heap.size + 1, 1, none⟩ = some (.string ⟨#[]⟩) := B1.out.cell' rfl
    have y2 : w2.cell? ⟨w.heap.size + 1, 2, none⟩ = some (.string ⟨#[]⟩) := B1.out.cell' rfl
    have y3 : w2.cell? ⟨w.heap.size + 1, 3, none⟩ = some (.bool false) := B1.out.cell' rfl
    have y4 : w2.cell? ⟨w.heap.size + 1, 4, none⟩ = some (.int .i64 0) := B1.out.cell' rfl
    have y5 : w2.cell? ⟨w.heap.size + 1, 5, none⟩ = some (.slice none 0 0) := B1.out.cell' rfl
    have y6 : w2.cell? ⟨w.heap.size + 1, 6, none⟩ = some (.slice none 0 0) := B1.out.cell' rfl
    have y7 : w2.cell? ⟨w.heap.size + 1, 7, none⟩ = some (.string ⟨#[]⟩) := B1.out.cell' rfl
    have y8 : w2.cell? ⟨w.heap.size + 1, 8, none⟩ = some (.string ⟨#[]⟩) := B1.out.cell' rfl
    have y9 : w2.cell? ⟨w.heap.size + 1, 9, none⟩ = some (.int .i64 0) := B1.out.cell' rfl
    have y10 : w2.cell? ⟨w.heap.size + 1, 10, none⟩ = some (.int .i64 0) := B1.out.cell' rfl
    have y11 : w2.cell? ⟨w.heap.size + 1, 11, none⟩ = some (.int .i64 0) := B1.out.cell' rfl
    have y12 : w2.cell? ⟨w.heap.size + 1, 12, none⟩ = some (.string ⟨#[]⟩) := B1.out.cell' rfl
    have y13 : w2.cell? ⟨w.heap.size + 1, 13, none⟩ = some (.int .i64 0) := B1.out.cell' rfl
    have y14 : w2.cell? ⟨w.heap.size + 1, 14, none⟩ = some (.int .i64 0) := B1.out.cell' rfl
    have z0 : w2.cell? ⟨w.heap.size + 1 + 1, 0, none⟩ = some (.int .i64 0) := B2.out.cell' rfl
    have z1 : w2.cell? ⟨w.heap.size + 1 + 1, 1, none⟩ = some (.string ⟨#[]⟩) := B2.out.cell' rfl
    have z2 : w2.cell? ⟨w.heap.size + 1 + 1, 2, none⟩ = some (.string ⟨#[]⟩) := B2.out.cell' rfl
    have z3 : w2.cell? ⟨w.heap.size + 1 + 1, 3, none⟩ = some (.bool false) := B2.out.cell' rfl
    have z4 : w2.cell? ⟨w.heap.size + 1 + 1, 4, none⟩ = some (.int .i64 0) := B2.out.cell' rfl
    have z5 : w2.cell? ⟨w.heap.size + 1 + 1, 5, none⟩ = some (.slice none 0 0) := B2.out.cell' rfl
    have z6 : w2.cell? ⟨w.heap.size + 1 + 1, 6, none⟩ = some (.slice none 0 0) := B2.out.cell' rfl
    have z7 : w2.cell? ⟨w.heap.size + 1 + 1, 7, none⟩ = some (.string ⟨#[]⟩) := B2.out.cell' rfl
    have z8 : w2.cell? ⟨w.heap.size + 1 + 1, 8, none⟩ = some (.string ⟨#[]⟩) := B2.out.cell' rfl
    have z9 : w2.cell? ⟨w.heap.size + 1 + 1, 9, none⟩ = some (.int .i64 0) := B2.out.cell' rfl
    have z10 : w2.cell? ⟨w.heap.size + 1 + 1, 10, none⟩ = some (.int .i64 0) := B2.out.cell' rfl
    have z11 : w2.cell? ⟨w.heap.size + 1 + 1, 11, none⟩ = some (.int .i64 0) := B2.out.cell' rfl
    have z12 : w2.cell? ⟨w.heap.size + 1 + 1, 12, none⟩ = some (.string ⟨#[]⟩) := B2.out.cell' rfl
    have z13 : w2.cell? ⟨w.heap.size + 1 + 1, 13, none⟩ = some (.int .i64 0) := B2.out.cell' rfl
    have z14 : w2.cell? ⟨w.heap.size + 1 + 1, 14, none⟩ = some (.int .i64 0) := B2.out.cell' rfl
    have fy0 := B1.out.frozen 0
    have fz0 := B2.out.frozen 0
    have fy1 := B1.out.frozen 1
    have fz1 := B2.out.frozen 1
    have fy2 := B1.out.frozen 2
    have fz2 := B2.out.frozen 2
    have fy3 := B1.out.frozen 3
    have fz3 := B2.out.frozen 3
    have fy4 := B1.out.frozen 4
    have fz4 := B2.out.frozen 4
    have fy5 := B1.out.frozen 5
    have fz5 := B2.out.frozen 5
    have fy6 := B1.out.frozen 6
    have fz6 := B2.out.frozen 6
    have fy7 := B1.out.frozen 7
    have fz7 := B2.out.frozen 7
    have fy8 := B1.out.frozen 8
    have fz8 := B2.out.frozen 8
    have fy9 := B1.out.frozen 9
    have fz9 := B2.out.frozen 9
    have fy10 := B1.out.frozen 10
    have fz10 := B2.out.frozen 10
    have fy11 := B1.out.frozen 11
    have fz11 := B2.out.frozen 11
    have fy12 := B1.out.frozen 12
    have fz12 := B2.out.frozen 12
    have fy13 := B1.out.frozen 13
    have fz13 := B2.out.frozen 13
    have fy14 := B1.out.frozen 14
    have fz14 := B2.out.frozen 14
    go_wp2_with fail
    clear y0 y1 y2 y3 y4 y5 y6 y7 y8 y9 y10 y11 y12 y13 y14
    clear z0 z1 z2 z3 z4 z5 z6 z7 z8 z9 z10 z11 z12 z13 z14
    clear fy0 fy1 fy2 fy3 fy4 fy5 fy6 fy7 fy8 fy9 fy10 fy11 fy12 fy13 fy14
    clear fz0 fz1 fz2 fz3 fz4 fz5 fz6 fz7 fz8 fz9 fz10 fz11 fz12 fz13 fz14
    obtain ⟨qa, fa⟩ := box15 B1.out (.int .i64 0) (.string ⟨#[]⟩) (.string ⟨#[]⟩) (.bool false) (.int .i64 0) (.slice none 0 0) (.slice none 0 0) (.string ⟨#[]⟩) (.string ⟨#[]⟩) (.int .i64 0) (.int .i64 0) (.int .i64 0) (.string ⟨#[]⟩) (.int .i64 0) (.int .i64 0)
    obtain ⟨qb, fb⟩ := box15 (B2.out.fr fa (only_ne (by omega))) (.int .i64 0) (.string ⟨#[]⟩) (.string ⟨#[]⟩) (.bool false) (.int .i64 0) (.slice none 0 0) (.slice none 0 0) (.string ⟨#[]⟩) (.string ⟨#[]⟩) (.int .i64 0) (.int .i64 0) (.int .i64 0) (.string ⟨#[]⟩) (.int .i64 0) (.int .i64 0)
    have qa2 := qa.fr fb (only_ne (by omega))
    have fin := (F.out.then_only fa (.inr (by omega))).then_only fb (.inr (by omega))
    have r0 := qa2.cell' (i := 0) rfl
    have s0 := qb.cell' (i := 0) rfl
    have r1 := qa2.cell' (i := 1) rfl
    have s1 := qb.cell' (i := 1) rfl
    have r2 := qa2.cell' (i := 2) rfl
    have s2 := qb.cell' (i := 2) rfl
    have r3 := qa2.cell' (i := 3) rfl
    have s3 := qb.cell' (i := 3) rfl
    have r4 := qa2.cell' (i := 4) rfl
    have s4 := qb.cell' (i := 4) rfl
    have r5 := qa2.cell' (i := 5) rfl
    have s5 := qb.cell' (i := 5) rfl
    have r6 := qa2.cell' (i := 6) rfl
    have s6 := qb.cell' (i := 6) rfl
    have r7 := qa2.cell' (i := 7) rfl
    have s7 := qb.cell' (i := 7) rfl
    have r8 := qa2.cell' (i := 8) rfl
    have s8 := qb.cell' (i := 8) rfl
    have r9 := qa2.cell' (i := 9) rfl
    have s9 := qb.cell' (i := 9) rfl
    have r10 := qa2.cell' (i := 10) rfl
    have s10 := qb.cell' (i := 10) rfl
    have r11 := qa2.cell' (i := 11) rfl
    have s11 := qb.cell' (i := 11) rfl
    have r12 := qa2.cell' (i := 12) rfl
    have s12 := qb.cell' (i := 12) rfl
    have r13 := qa2.cell' (i := 13) rfl
    have s13 := qb.cell' (i := 13) rfl
    have r14 := qa2.cell' (i := 14) rfl
    have s14 := qb.cell' (i := 14) rfl
    have HFIN := hid_ fin
    have HFA := hid_ (And.intro fa fb)
    clear qa fa qb fb qa2 fin
    refine bodyPost_ret (v := .tuple #[recV Rc.zero (.slice none 0 0) (.slice none 0 0), recV Rc.zero (.slice none 0 0) (.slice none 0 0), errV k]) ?_ rfl (.inl ⟨k, HK.out, rfl, HFIN.out⟩)
    simp [results, Tryd.results32, go_sem, Rc.zero, r0, s0, r1, s1, r2, s2, r3, s3, r4, s4, r5, s5, r6, s6, r7, s7, r8, s8, r9, s9, r10, s10, r11, s11, r12, s12, r13, s13, r14, s14]
  · skip
    have RI := hid_ hR
    replace B1 := hid_ (B1.out.fr hf1 id)
    replace B2 := hid_ (B2.out.fr hf1 id)
    replace F := hid_ (F.out.then_none hf1)
    have hs1 := hf1.size
    have HQ := hid_ (And.intro hh (And.intro h2 hq))
    obtain ⟨RV, hRV⟩ : ∃ X, X = rightV V (V.ents.length / 2) q.1 := ⟨_, rfl⟩
    obtain ⟨LV, hLV⟩ : ∃ X, X = leftV V (V.ents.length / 2) q.1 V.right := ⟨_, rfl⟩
    have hlow : RV.low = q.1 := by rw [hRV]; rfl
    rw [← hRV] at RI ⊢
    rw [← hLV]
    have HRV := hid_ (And.intro hRV hlow)
    clear hL hR hf1 hh h2 hq hRV hLV hlow
    go_upto_region 2 with fail
    obtain ⟨w2, hw2⟩ : ∃ z, z = (w1.alloc (.cells (vwA LV (.slice A1 LV.ents.length c1)) 57)).alloc (.cells (vwA RV (.slice A2 RV.ents.length c2)) 57) := ⟨_, rfl⟩
    have f2 : Fr none_ w1 w2 := by rw [hw2]; exact ((Fr.refl none_ w1).alloc _).alloc _
    replace B1 := hid_ (B1.out.fr f2 id)
    replace B2 := hid_ (B2.out.fr f2 id)
    replace F := hid_ (F.out.then_none f2)
    replace RI := hid_ (RI.out.keep f2)
    change Code.wp _ _ _ _ ((w1.alloc (.cells (vwA LV (.slice A1 LV.ents.length c1)) 57)).alloc (.cells (vwA RV (.slice A2 RV.ents.length c2)) 57))
    rw [← hw2]
    have hs2 := f2.size
    have BR : Hid (Blk w2 (w1.heap.size + 1) 57 (vwA RV (.slice A2 RV.ents.length c2))) := hid_ (by rw [hw2]; exact Blk.new_at _ _ (by simp))
    clear hw2 f2
    go_wp2_with fail
    have v0 : w2.cell? ⟨w1.heap.size + 1, 0, none⟩ = some (.string RV.low) := BR.out.cell' rfl
    have v1 : w2.cell? ⟨w1.heap.size + 1, 1, none⟩ = some (.string RV.high) := BR.out.cell' rfl
    have v2 : w2.cell? ⟨w1.heap.size + 1, 2, none⟩ = some (.bool RV.unb) := BR.out.cell' rfl
    have v3 : w2.cell? ⟨w1.heap.size + 1, 3, none⟩ = some (.int .i64 RV.right) := BR.out.cell' rfl
    have v4 : w2.cell? ⟨w1.heap.size + 1, 4, none⟩ = some (.slice A2 RV.ents.length c2) := BR.out.cell' rfl
    have v5 : w2.cell? ⟨w1.heap.size + 1, 5, none⟩ = some (.bool RV.held) := BR.out.cell' rfl
    have v6 : w2.cell? ⟨w1.heap.size + 1, 6, none⟩ = some (.int .i64 RV.hp) := BR.out.cell' rfl
    have v7 : w2.cell? ⟨w1.heap.size + 1, 7, none⟩ = some (.int .i64 RV.hl) := BR.out.cell' rfl
    have v8 : w2.cell? ⟨w1.heap.size + 1, 8, none⟩ = some (.string RV.hk) := BR.out.cell' rfl
    have hS0 : (fun w' : World => Fr none_ w2 w') w2.drew := (Fr.refl none_ w2).drew
    refine wp_region_U (m := 6) (S := fun w' : World => Fr none_ w2 w') (by kernel_rfl) ?_
    refine wpAnyU_take2 (i := 0) (v := _) rfl (by kernel_rfl) (by kernel_rfl) (by kernel_rfl) (by kernel_rfl) (fun _ _ _ h => h) (.inl ⟨by simp [Region.wanted], fun w' hS => by have s_v0 := cellFr v0 hS; have s_v1 := cellFr v1 hS; have s_v2 := cellFr v2 hS; have s_v3 := cellFr v3 hS; have s_v4 := cellFr v4 hS; have s_v5 := cellFr v5 hS; have s_v6 := cellFr v6 hS; have s_v7 := cellFr v7 hS; have s_v8 := cellFr v8 hS; go_simp; rfl⟩) hS0 ?_
    refine wpAnyU_take2 (i := 1) (v := _) rfl (by kernel_rfl) (by kernel_rfl) (by kernel_rfl) (by kernel_rfl) (fun _ _ _ h => h) (.inl ⟨by simp [Region.wanted], fun w' hS => by have s_v0 := cellFr v0 hS; have s_v1 := cellFr v1 hS; have s_v2 := cellFr v2 hS; have s_v3 := cellFr v3 hS; have s_v4 := cellFr v4 hS; have s_v5 := cellFr v5 hS; have s_v6 := cellFr v6 hS; have s_v7 := cellFr v7 hS; have s_v8 := cellFr v8 hS; go_simp; rfl⟩) hS0 ?_
    refine wpAnyU_take2 (i := 2) (v := _) rfl (by kernel_rfl) (by kernel_rfl) (by kernel_rfl) (by kernel_rfl) (fun _ _ _ h => h) (.inl ⟨by simp [Region.wanted], fun w' hS => by have s_v0 := cellFr v0 hS; have s_v1 := cellFr v1 hS; have s_v2 := cellFr v2 hS; have s_v3 := cellFr v3 hS; have s_v4 := cellFr v4 hS; have s_v5 := cellFr v5 hS; have s_v6 := cellFr v6 hS; have s_v7 := cellFr v7 hS; have s_v8 := cellFr v8 hS; go_simp; rfl⟩) hS0 ?_
    refine wpAnyU_take2 (i := 3) (v := _) rfl (by kernel_rfl) (by kernel_rfl) (by kernel_rfl) (by kernel_rfl) (fun _ _ _ h => h) (.inl ⟨by simp [Region.wanted], fun w' hS => by have s_v0 := cellFr v0 hS; have s_v1 := cellFr v1 hS; have s_v2 := cellFr v2 hS; have s_v3 := cellFr v3 hS; have s_v4 := cellFr v4 hS; have s_v5 := cellFr v5 hS; have s_v6 := cellFr v6 hS; have s_v7 := cellFr v7 hS; have s_v8 := cellFr v8 hS; go_simp; rfl⟩) hS0 ?_
    refine wpAnyU_take2 (i := 4) (v := _) rfl (by kernel_rfl) (by kernel_rfl) (by kernel_rfl) (by kernel_rfl) (fun _ _ _ h => h) (.inl ⟨by simp [Region.wanted], fun w' hS => by have s_v0 := cellFr v0 hS; have s_v1 := cellFr v1 hS; have s_v2 := cellFr v2 hS; have s_v3 := cellFr v3 hS; have s_v4 := cellFr v4 hS; have s_v5 := cellFr v5 hS; have s_v6 := cellFr v6 hS; have s_v7 := cellFr v7 hS; have s_v8 := cellFr v8 hS; go_simp; rfl⟩) hS0 ?_
    clear v0 v1 v2 v3 v4 v5 v6 v7 v8
    refine wpAnyU_one (i := 5) rfl rfl (by kernel_rfl) ?_
    go_simp
    refine (base_ok RV A2 c2 _ (RI.out.keep (Fr.refl none_ w2).drew)).mono ?_
    rintro e w3 ⟨A5, c5, rfl, ho5, hf5⟩
    have f5 := (Fr.refl none_ w2).drew.then_none hf5
    have O5 := hid_ ho5
    replace B1 := hid_ (B1.out.fr f5 id)
    replace B2 := hid_ (B2.out.fr f5 id)
    replace F := hid_ (F.out.then_none f5)
    replace RI := hid_ (RI.out.keep f5)
    replace BR := hid_ (BR.out.fr f5 id)
    refine ⟨f5, ?_⟩
    have hs5 := f5.size
    clear ho5 hf5 f5
    have y0 : w3.cell? ⟨w.heap.size + 1, 0, none⟩ = some (.int .i64 0) := B1.out.cell' rfl
    have y1 : w3.cell? ⟨w.heap.size + 1, 1, none⟩ = some (.string ⟨#[]⟩) := B1.out.cell' rfl
    have y2 : w3.cell? ⟨w.heap.size + 1, 2, none⟩ = some (.string ⟨#[]⟩) := B1.out.cell' rfl
    have y3 : w3.cell? ⟨w.heap.size + 1, 3, none⟩ = some (.bool false) := B1.out.cell' rfl
    have y4 : w3.cell? ⟨w.heap.size + 1, 4, none⟩ = some (.int .i64 0) := B1.out.cell' rfl
    have y5 : w3.cell? ⟨w.heap.size + 1, 5, none⟩ = some (.slice none 0 0) := B1.out.cell' rfl
    have y6 : w3.cell? ⟨w.heap.size + 1, 6, none⟩ = some (.slice none 0 0) := B1.out.cell' rfl
    have y7 : w3.cell? ⟨w.heap.size + 1, 7, none⟩ = some (.string ⟨#[]⟩) := B1.out.cell' rfl
    have y8 : w3.cell? ⟨w.heap.size + 1, 8, none⟩ = some (.string ⟨#[]⟩) := B1.out.cell' rfl
    have y9 : w3.cell? ⟨w.heap.size + 1, 9, none⟩ = some (.int .i64 0) := B1.out.cell' rfl
    have y10 : w3.cell? ⟨w.heap.size + 1, 10, none⟩ = some (.int .i64 0) := B1.out.cell' rfl
    have y11 : w3.cell? ⟨w.heap.size + 1, 11, none⟩ = some (.int .i64 0) := B1.out.cell' rfl
    have y12 : w3.cell? ⟨w.heap.size + 1, 12, none⟩ = some (.string ⟨#[]⟩) := B1.out.cell' rfl
    have y13 : w3.cell? ⟨w.heap.size + 1, 13, none⟩ = some (.int .i64 0) := B1.out.cell' rfl
    have y14 : w3.cell? ⟨w.heap.size + 1, 14, none⟩ = some (.int .i64 0) := B1.out.cell' rfl
    have z0 : w3.cell? ⟨w.heap.size + 1 + 1, 0, none⟩ = some (.int .i64 0) := B2.out.cell' rfl
    have z1 : w3.cell? ⟨w.heap.size + 1 + 1, 1, none⟩ = some (.string ⟨#[]⟩) := B2.out.cell' rfl
    have z2 : w3.cell? ⟨w.heap.size + 1 + 1, 2, none⟩ = some (.string ⟨#[]⟩) := B2.out.cell' rfl
    have z3 : w3.cell? ⟨w.heap.size + 1 + 1, 3, none⟩ = some (.bool false) := B2.out.cell' rfl
    have z4 : w3.cell? ⟨w.heap.size + 1 + 1, 4, none⟩ = some (.int .i64 0) := B2.out.cell' rfl
    have z5 : w3.cell? ⟨w.heap.size + 1 + 1, 5, none⟩ = some (.slice none 0 0) := B2.out.cell' rfl
    have z6 : w3.cell? ⟨w.heap.size + 1 + 1, 6, none⟩ = some (.slice none 0 0) := B2.out.cell' rfl
    have z7 : w3.cell? ⟨w.heap.size + 1 + 1, 7, none⟩ = some (.string ⟨#[]⟩) := B2.out.cell' rfl
    have z8 : w3.cell? ⟨w.heap.size + 1 + 1, 8, none⟩ = some (.string ⟨#[]⟩) := B2.out.cell' rfl
    have z9 : w3.cell? ⟨w.heap.size + 1 + 1, 9, none⟩ = some (.int .i64 0) := B2.out.cell' rfl
    have z10 : w3.cell? ⟨w.heap.size + 1 + 1, 10, none⟩ = some (.int .i64 0) := B2.out.cell' rfl
    have z11 : w3.cell? ⟨w.heap.size + 1 + 1, 11, none⟩ = some (.int .i64 0) := B2.out.cell' rfl
    have z12 : w3.cell? ⟨w.heap.size + 1 + 1, 12, none⟩ = some (.string ⟨#[]⟩) := B2.out.cell' rfl
    have z13 : w3.cell? ⟨w.heap.size + 1 + 1, 13, none⟩ = some (.int .i64 0) := B2.out.cell' rfl
    have z14 : w3.cell? ⟨w.heap.size + 1 + 1, 14, none⟩ = some (.int .i64 0) := B2.out.cell' rfl
    have fy0 := B1.out.frozen 0
    have fz0 := B2.out.frozen 0
    have fy1 := B1.out.frozen 1
    have fz1 := B2.out.frozen 1
    have fy2 := B1.out.frozen 2
    have fz2 := B2.out.frozen 2
    have fy3 := B1.out.frozen 3
    have fz3 := B2.out.frozen 3
    have fy4 := B1.out.frozen 4
    have fz4 := B2.out.frozen 4
    have fy5 := B1.out.frozen 5
    have fz5 := B2.out.frozen 5
    have fy6 := B1.out.frozen 6
    have fz6 := B2.out.frozen 6
    have fy7 := B1.out.frozen 7
    have fz7 := B2.out.frozen 7
    have fy8 := B1.out.frozen 8
    have fz8 := B2.out.frozen 8
    have fy9 := B1.out.frozen 9
    have fz9 := B2.out.frozen 9
    have fy10 := B1.out.frozen 10
    have fz10 := B2.out.frozen 10
    have fy11 := B1.out.frozen 11
    have fz11 := B2.out.frozen 11
    have fy12 := B1.out.frozen 12
    have fz12 := B2.out.frozen 12
    have fy13 := B1.out.frozen 13
    have fz13 := B2.out.frozen 13
    have fy14 := B1.out.frozen 14
    have fz14 := B2.out.frozen 14
    refine wpAnyU_one (i := 6) rfl rfl (by kernel_rfl) ?_
    go_simp
    refine wpAnyU_one (i := 7) rfl rfl (by kernel_rfl) ?_
    go_simp
    refine wpAnyU_one (i := 8) rfl rfl (by kernel_rfl) ?_
    go_simp
    refine wpAnyU_done (by kernel_rfl) ?_ _
    clear y0 y1 y2 y3 y4 y5 y6 y7 y8 y9 y10 y11 y12 y13 y14
    clear z0 z1 z2 z3 z4 z5 z6 z7 z8 z9 z10 z11 z12 z13 z14
    clear fy0 fy1 fy2 fy3 fy4 fy5 fy6 fy7 fy8 fy9 fy10 fy11 fy12 fy13 fy14
    clear fz0 fz1 fz2 fz3 fz4 fz5 fz6 fz7 fz8 fz9 fz10 fz11 fz12 fz13 fz14
    go_wp2_with fail
    have hok := RI.out.ok
    have HOK := hid_ hok
    clear hok
    obtain ⟨qa, fa⟩ := box15 B1.out (.int .i64 9) (.string ⟨#[]⟩) (.string ⟨#[]⟩) (.bool false) (.int .i64 0) (.slice none 0 0) (.slice none 0 0) (.string RV.low) (.string ⟨#[]⟩) (.int .i64 page) (.int .i64 0) (.int .i64 0) (.string ⟨#[]⟩) (.int .i64 0) (.int .i64 0)
    obtain ⟨qb, fb⟩ := box15 (B2.out.fr fa (only_ne (by omega))) (.int .i64 7) (.string RV.low) (.string RV.high) (.bool RV.unb) (.int .i64 RV.right) (.slice none 0 0) (.slice A5 RV.ents.length c5) (.string ⟨#[]⟩) (.string ⟨#[]⟩) (.int .i64 0) (.int .i64 0) (.int .i64 0) (.string ⟨#[]⟩) (.int .i64 0) (.int .i64 0)
    have qa2 := qa.fr fb (only_ne (by omega))
    have fin := (F.out.then_only fa (.inr (by omega))).then_only fb (.inr (by omega))
    have r0 := qa2.cell' (i := 0) rfl
    have s0 := qb.cell' (i := 0) rfl
    have r1 := qa2.cell' (i := 1) rfl
    have s1 := qb.cell' (i := 1) rfl
    have r2 := qa2.cell' (i := 2) rfl
    have s2 := qb.cell' (i := 2) rfl
    have r3 := qa2.cell' (i := 3) rfl
    have s3 := qb.cell' (i := 3) rfl
    have r4 := qa2.cell' (i := 4) rfl
    have s4 := qb.cell' (i := 4) rfl
    have r5 := qa2.cell' (i := 5) rfl
    have s5 := qb.cell' (i := 5) rfl
    have r6 := qa2.cell' (i := 6) rfl
    have s6 := qb.cell' (i := 6) rfl
    have r7 := qa2.cell' (i := 7) rfl
    have s7 := qb.cell' (i := 7) rfl
    have r8 := qa2.cell' (i := 8) rfl
    have s8 := qb.cell' (i := 8) rfl
    have r9 := qa2.cell' (i := 9) rfl
    have s9 := qb.cell' (i := 9) rfl
    have r10 := qa2.cell' (i := 10) rfl
    have s10 := qb.cell' (i := 10) rfl
    have r11 := qa2.cell' (i := 11) rfl
    have s11 := qb.cell' (i := 11) rfl
    have r12 := qa2.cell' (i := 12) rfl
    have s12 := qb.cell' (i := 12) rfl
    have r13 := qa2.cell' (i := 13) rfl
    have s13 := qb.cell' (i := 13) rfl
    have r14 := qa2.cell' (i := 14) rfl
    have s14 := qb.cell' (i := 14) rfl
    have HFIN := hid_ fin
    have HFA := hid_ (And.intro fa fb)
    clear qa fa qb fb qa2 fin
    refine bodyPost_ret (v := .tuple #[recV (splitR RV.low page) (.slice none 0 0) (.slice none 0 0), recV (baseR RV) (.slice none 0 0) (.slice A5 RV.ents.length c5), .nilIface]) ?_ rfl (.inr ⟨q, A5, c5, HQ.out.1, HQ.out.2.1, HQ.out.2.2, by rw [← HRV.out.1, HRV.out.2], ?_, by rw [← HRV.out.1]; exact HOK.out, HFIN.out⟩)
    · simp [results, Tryd.results32, go_sem, splitR, baseR, Rc.zero, r0, s0, r1, s1, r2, s2, r3, s3, r4, s4, r5, s5, r6, s6, r7, s7, r8, s8, r9, s9, r10, s10, r11, s11, r12, s12, r13, s13, r14, s14]
    · rw [← HRV.out.1]
      refine own_base (own_fr (own_fr O5.out HFA.out.1 (fun k hk e => own_blk_ne O5.out B1.out (by decide) (by rw [hk, show k = w.heap.size + 1 from e]))) HFA.out.2 (fun k hk e => ?_)) (by simp; omega)
      exact own_blk_ne O5.out B2.out (by decide) (by rw [hk, show k = w.heap.size + 1 + 1 from e])
end Go.Proofs.YtfoljojacakkeaaDoor

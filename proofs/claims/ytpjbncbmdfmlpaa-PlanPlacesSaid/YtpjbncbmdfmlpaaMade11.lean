/- made of layer 11 by contract. Written by gen_made11.py. -/
import Derived.Test.YtpjbncbmdfmlpaaMd11
namespace Go.Proofs.Ytpjbncbmdfmlpaa
open Go.RowKit Go.BigFrame
set_option maxRecDepth 100000
set_option linter.unusedVariables false

set_option maxHeartbeats 8000000 in
theorem made11_ok (c : Cz) (L1 L2 : List Ch) (w : World) (h : CzIn w c L1 L2) (hf : CzFew c L1 L2) : Calls Try.prog 30 #[.agg (czA c)] w (MadePost11 c L1 L2 w) := by
  obtain ⟨w0, hw0⟩ : ∃ z, z = ((w.alloc (.cells (czA c) 75)).alloc (.cells pgZ 45)).alloc (.cells azZ 77) := ⟨_, rfl⟩
  have f0 : Fr none_ w w0 := by rw [hw0]; exact (((Fr.refl none_ w).alloc _).alloc _).alloc _
  have BC : Hid (Blk w0 w.heap.size 75 (czA c)) := hid_ (by rw [hw0]; exact ((Blk.new w _ _).alloc _).alloc _)
  have B2 : Hid (Blk w0 (w.heap.size + 1) 45 pgZ) := hid_ (by rw [hw0]; exact (Blk.new7 _ _ (by simp)).alloc _)
  have B3 : Hid (Blk w0 (w.heap.size + 1 + 1) 77 azZ) := hid_ (by rw [hw0]; exact Blk.new7 _ _ (by simp))
  have F := hid_ f0
  have H := hid_ (h.keep f0)
  have HF := hid_ hf
  have hso := B3.out.lt
  have hn1 : c.n1 ≤ 40 := by have := h.i1.1; have := hf.a.1; omega
  have hn2 : c.n2 ≤ 40 := by have := h.i2.1; have := hf.c.1; omega
  clear f0 h hf
  go_enter Try.func30, Try.ntmps30
  go_upto_region 1 with fail
  change Code.wp _ _ _ _ (((w.alloc (.cells (czA c) 75)).alloc (.cells pgZ 45)).alloc (.cells azZ 77))
  rw [← hw0]
  clear hw0
  have v0 : w0.cell? ⟨w.heap.size, 0, none⟩ = some (.int .i64 c.n) := BC.out.cell' rfl
  have v1 : w0.cell? ⟨w.heap.size, 1, none⟩ = some (.slice c.A1 c.n1 c.c1) := BC.out.cell' rfl
  go_wp2_with fail
  refine (of_ok c.n 1 1 c.A1 c.n1 c.c1 L1 [] none 0 w0 (H.out.i1.few (few_ents HF.out.b)) (by omega) (few_rows HF.out.a H.out.r1) (fun C hC => by have := few_ents HF.out.b C hC; omega) Reads.nil_ (by simp)).mono ?_
  rintro e w1 (⟨leaf, lv, iv, A, cc, B, d, C, x, D, y, hof, rfl, hpg, hf1⟩ | ⟨q, hq, hof, rfl, hf1⟩)
  · have HOF := hid_ hof
    have VI1 := hid_ hpg.iv
    have LI1 := hid_ hpg.lv
    obtain ⟨P, hP⟩ : ∃ P : Pz, P = ⟨c.n, 1, 1, C, L1.length, x, .slice D 0 y, leaf, lv, A, cc, iv, B, d⟩ := ⟨_, rfl⟩
    have HPE := hid_ hP
    have HALL : Hid ((pzA P).all (·.oneCell') = true) := hid_ (by rw [hP]; simp [Value.oneCell'])
    have POK : Hid (∀ w', Fr none_ w1 w' → PzOk w' P) := hid_ (fun w' hf => by rw [hP]; exact ⟨LI1.out.ok.low, LI1.out.ok.high, LI1.out.ok.rows.1, VI1.out.keep hf, by have := HF.out.a.1; show L1.length ≤ 4000; omega⟩)
    clear hof hpg hP
    replace F := hid_ (F.out.then_none hf1)
    replace BC := hid_ (BC.out.fr hf1 id)
    replace B2 := hid_ (B2.out.fr hf1 id)
    replace B3 := hid_ (B3.out.fr hf1 id)
    replace H := hid_ (H.out.keep hf1)
    have hsq1 := B3.out.lt
    clear hf1 v0 v1
    go_upto_region 2 with (refine wpList_store_mid rfl 45 (.tmp 5) (.tmp 16) rfl w1.heap.size 0 (pzA P) rfl (by rw [HPE.out]; rfl) (new_there w1 _ pgZ) page_size HALL.out ?_; obtain ⟨w2, hw2⟩ : ∃ z, z = (w1.alloc (.cells pgZ 45)).setCells w1.heap.size 0 (pzA P).toList := ⟨_, rfl⟩; change wpList _ _ _ _ _ ((w1.alloc (.cells pgZ 45)).setCells w1.heap.size 0 (pzA P).toList); rw [← hw2]; have P2 : Hid (Blk w2 w1.heap.size 45 (pzA P) ∧ Fr none_ w1 w2) := hid_ (by rw [hw2]; exact new_copy w1 _ pgZ (pzA P).toList rfl); clear hw2)
    have F12 := hid_ P2.out.2
    replace F := hid_ (F.out.then_none P2.out.2)
    replace BC := hid_ (BC.out.fr P2.out.2 id)
    replace B2 := hid_ (B2.out.fr P2.out.2 id)
    replace B3 := hid_ (B3.out.fr P2.out.2 id)
    replace H := hid_ (H.out.keep P2.out.2)
    have hs2 := P2.out.1.lt
    have v2 : w2.cell? ⟨w.heap.size, 2, none⟩ = some (.slice c.A2 c.n2 c.c2) := BC.out.cell' rfl
    go_wp2_with fail
    refine (fold_ok c.A2 c.n2 c.c2 L2 w2 (H.out.i2.few (few_ents HF.out.d)) (by omega) (fun C hC => by have := few_ents HF.out.d C hC; omega)).mono ?_
    rintro e w3 (⟨V, B', d', hkd, hfo, rfl, hvin, hheld, hf3⟩ | ⟨q2, hq2, hno, rfl, hf3⟩)
    · have BP := hid_ (P2.out.1.fr hf3 id)
      have F13 := hid_ (F12.out.then_none hf3)
      have VI := hid_ hvin
      have HFO := hid_ hfo
      replace F := hid_ (F.out.then_none hf3)
      replace BC := hid_ (BC.out.fr hf3 id)
      replace B2 := hid_ (B2.out.fr hf3 id)
      replace B3 := hid_ (B3.out.fr hf3 id)
      replace H := hid_ (H.out.keep hf3)
      have hsq3 := B3.out.lt
      clear v2 hf3 hkd hfo hvin hheld
      go_upto_region 3 with (refine wpList_store_mid rfl 43 (.tmp 7) (.tmp 22) rfl w3.heap.size 0 (vwA V (.slice B' V.ents.length d')) rfl rfl (new_there w3 _ vwZ) view_size7 (by simp [Value.oneCell']) ?_; obtain ⟨w4, hw4⟩ : ∃ z, z = (w3.alloc (.cells vwZ 43)).setCells w3.heap.size 0 (vwA V (.slice B' V.ents.length d')).toList := ⟨_, rfl⟩; change wpList _ _ _ _ _ ((w3.alloc (.cells vwZ 43)).setCells w3.heap.size 0 (vwA V (.slice B' V.ents.length d')).toList); rw [← hw4]; have P4 : Hid (Blk w4 w3.heap.size 43 (vwA V (.slice B' V.ents.length d')) ∧ Fr none_ w3 w4) := hid_ (by rw [hw4]; exact new_copy w3 _ vwZ (vwA V (.slice B' V.ents.length d')).toList rfl); clear hw4)
      replace F := hid_ (F.out.then_none P4.out.2)
      replace BC := hid_ (BC.out.fr P4.out.2 id)
      replace B2 := hid_ (B2.out.fr P4.out.2 id)
      replace B3 := hid_ (B3.out.fr P4.out.2 id)
      replace H := hid_ (H.out.keep P4.out.2)
      have F14 := hid_ (F13.out.then_none P4.out.2)
      replace BP := hid_ (BP.out.fr P4.out.2 id)
      have hs4 := P4.out.1.lt
      have hso4 := B3.out.lt
      cases hsm : c.some_ with
      | false =>
        have HSM := hid_ hsm
        clear hsm
        have hS0 : (fun w' : World => (Blk w' w1.heap.size 45 (pzA P) ∧ Blk w' w3.heap.size 43 (vwA V (.slice B' V.ents.length d')) ∧ Blk w' w.heap.size 75 (czA c)) ∧ Fr none_ w w') w4.drew := ⟨⟨BP.out.drew, P4.out.1.drew, BC.out.drew⟩, F.out.drew⟩
        refine wp_region_U (m := 14) (S := fun w' : World => (Blk w' w1.heap.size 45 (pzA P) ∧ Blk w' w3.heap.size 43 (vwA V (.slice B' V.ents.length d')) ∧ Blk w' w.heap.size 75 (czA c)) ∧ Fr none_ w w') (by kernel_rfl) ?_
        refine wpAnyU_take2 (i := 0) (v := _) rfl (by kernel_rfl) (by kernel_rfl) (by kernel_rfl) (by kernel_rfl) (fun _ _ _ h => h) (yieldsIf_load_mid (by kernel_rfl) 45 (.tmp 5) rfl w1.heap.size 0 rfl (pzA P).toList _ (fun w' hS i v hv => Blk.range7 (l := (pzA P).toList) hS.1.1 i v hv) Try.underlying45 rfl page_size) hS0 ?_
        refine wpAnyU_take2 (i := 7) (v := _) rfl (by kernel_rfl) (by kernel_rfl) (by kernel_rfl) (by kernel_rfl) (fun _ _ _ h => h) (yieldsIf_load_mid (by kernel_rfl) 43 (.tmp 7) rfl w3.heap.size 0 (by kernel_rfl) ((vwA V (.slice B' V.ents.length d')) : Array Value).toList _ (fun w' hS i v hv => Blk.range7 (l := ((vwA V (.slice B' V.ents.length d')) : Array Value).toList) hS.1.2.1 i v hv) Try.underlying43 rfl view_size7) hS0 ?_
        refine wpAnyU_take2 (i := 1) (v := .pointer (some ⟨w.heap.size, 3, none⟩)) rfl (by kernel_rfl) (by kernel_rfl) (by kernel_rfl) (by kernel_rfl) (fun _ _ _ h => h) (.inl ⟨by kernel_rfl, fun w' hS => by kernel_rfl⟩) hS0 ?_
        refine wpAnyU_take2 (i := 2) (v := .bool false) rfl (by kernel_rfl) (by kernel_rfl) (by kernel_rfl) (by kernel_rfl) (fun _ _ _ h => h) (.inl ⟨by kernel_rfl, fun w' hS => by have s_ : w'.cell? ⟨w.heap.size, 3, none⟩ = some (.bool false) := (by rw [← HSM.out]; exact hS.1.2.2.cell' rfl); clear hS; go_simp⟩) hS0 ?_
        refine wpAnyU_take2 (i := 3) (v := .bool false) rfl (by kernel_rfl) (by kernel_rfl) (by kernel_rfl) (by kernel_rfl) (fun _ _ _ h => h) (.inl ⟨by kernel_rfl, fun w' hS => by kernel_rfl⟩) hS0 ?_
        refine wpAnyU_take2 (i := 4) (v := undef) rfl (by kernel_rfl) (by kernel_rfl) (by kernel_rfl) (by kernel_rfl) (fun _ _ _ h => h) (.inr ⟨by kernel_rfl, rfl⟩) hS0 ?_
        refine wpAnyU_take2 (i := 5) (v := undef) rfl (by kernel_rfl) (by kernel_rfl) (by kernel_rfl) (by kernel_rfl) (fun _ _ _ h => h) (.inr ⟨by kernel_rfl, rfl⟩) hS0 ?_
        refine wpAnyU_take2 (i := 6) (v := .bool false) rfl (by kernel_rfl) (by kernel_rfl) (by kernel_rfl) (by kernel_rfl) (fun _ _ _ h => h) (.inl ⟨by kernel_rfl, fun w' hS => by kernel_rfl⟩) hS0 ?_
        refine wpAnyU_take2 (i := 8) (v := .agg (azA (⟨false, 1, 0, 0, V, B', d'⟩ : Az))) rfl (by kernel_rfl) (by kernel_rfl) (by kernel_rfl) (by kernel_rfl) (fun _ _ _ h => h) (.inl ⟨by kernel_rfl, fun w' hS => by kernel_rfl⟩) hS0 ?_
        refine wpAnyU_take2 (i := 9) (v := .nilIface) rfl (by kernel_rfl) (by kernel_rfl) (by kernel_rfl) (by kernel_rfl) (fun _ _ _ h => h) (.inl ⟨by kernel_rfl, fun w' hS => by kernel_rfl⟩) hS0 ?_
        refine wpAnyU_take2 (i := 10) (v := .bool true) rfl (by kernel_rfl) (by kernel_rfl) (by kernel_rfl) (by kernel_rfl) (fun _ _ _ h => h) (.inl ⟨by kernel_rfl, fun w' hS => by kernel_rfl⟩) hS0 ?_
        clear hS0
        refine wpAnyU_name7 ?_
        intro a_ ha
        have HA := hid_ ha
        clear ha
        refine wpAnyU_one7 (i := 11) rfl rfl (by kernel_rfl) ?_
        refine wp_store_mid 45 (.tmp 2) (.tmp 24) rfl (w.heap.size + 1) 0 (pzA P) (by rw [HA.out]; kernel_rfl) (by rw [HA.out]; kernel_rfl) (B2.out.drew.there7 rfl) page_size HALL.out ?_
        have ov := B2.out.drew.over7 (pzA P).toList rfl
        obtain ⟨w5, hw5⟩ : ∃ z, z = w4.drew.setCells (w.heap.size + 1) 0 (pzA P).toList := ⟨_, rfl⟩
        rw [← hw5] at ov ⊢
        clear hw5
        have OV := hid_ ov
        clear ov
        have S5 := hid_ (And.intro (And.intro (BP.out.drew.fr OV.out.2 (only_ne (by omega))) (And.intro (P4.out.1.drew.fr OV.out.2 (only_ne (by omega))) (BC.out.drew.fr OV.out.2 (only_ne (by omega))))) (F.out.drew.then_only OV.out.2 (.inr (by omega))))
        have C5 := hid_ (B3.out.drew.fr OV.out.2 (only_ne (by omega)))
        refine ⟨.inr S5.out, ?_⟩
        refine wpAnyU_one7 (i := 12) rfl rfl (by kernel_rfl) ?_
        refine wp_store_mid 77 (.tmp 3) (.tmp 32) rfl (w.heap.size + 1 + 1) 0 (azA (⟨false, 1, 0, 0, V, B', d'⟩ : Az)) (by rw [HA.out]; kernel_rfl) (by rw [HA.out]; kernel_rfl) (C5.out.there7 rfl) above_size7 (by simp [Value.oneCell']) ?_
        have ov := C5.out.over7 (azA (⟨false, 1, 0, 0, V, B', d'⟩ : Az)).toList rfl
        obtain ⟨w6, hw6⟩ : ∃ z, z = w5.setCells (w.heap.size + 1 + 1) 0 (azA (⟨false, 1, 0, 0, V, B', d'⟩ : Az)).toList := ⟨_, rfl⟩
        rw [← hw6] at ov ⊢
        clear hw6
        have OW := hid_ ov
        clear ov
        have S6 := hid_ (And.intro (And.intro (S5.out.1.1.fr OW.out.2 (only_ne (by omega))) (And.intro (S5.out.1.2.1.fr OW.out.2 (only_ne (by omega))) (S5.out.1.2.2.fr OW.out.2 (only_ne (by omega))))) (S5.out.2.then_only OW.out.2 (.inr (by omega))))
        have D6 := hid_ (OV.out.1.fr OW.out.2 (only_ne (by omega)))
        refine ⟨.inr S6.out, ?_⟩
        refine wpAnyU_take2 (i := 13) (v := .bool true) rfl (by kernel_rfl) (by kernel_rfl) (by kernel_rfl) (by kernel_rfl) (fun _ _ _ h => h) (.inl ⟨rfl, fun w' hS => by rw [HA.out]; kernel_rfl⟩) S6.out ?_
        refine wpAnyU_name7 ?_
        intro b_ hb
        have HB := hid_ hb
        clear hb
        have Q2 : b_.tmps.getD 2 undef = .pointer (some ⟨w.heap.size + 1, 0, none⟩) := by rw [HB.out, HA.out]; kernel_rfl
        have Q3 : b_.tmps.getD 3 undef = .pointer (some ⟨w.heap.size + 1 + 1, 0, none⟩) := by rw [HB.out, HA.out]; kernel_rfl
        have Q4 : b_.tmps.getD 4 undef = .bool true := by rw [HB.out, HA.out]; kernel_rfl
        have QD : b_.defers = [] := by rw [HB.out, HA.out]; kernel_rfl
        clear HA HB
        refine wpAnyU_done (by kernel_rfl) ?_ _
        go_wp2
        refine bodyPost_ret (results_cell_cell_tmp7 b_.tmps w6 rfl (w.heap.size + 1) 0 (pzA P).toList _ Q2 (Blk.range7 (l := (pzA P).toList) D6.out) Try.underlying45 rfl page_size (w.heap.size + 1 + 1) 0 (azA (⟨false, 1, 0, 0, V, B', d'⟩ : Az)).toList _ Q3 (Blk.range7 (l := (azA (⟨false, 1, 0, 0, V, B', d'⟩ : Az)).toList) OW.out.1) Try.underlying77 rfl above_size7) QD ⟨pzA P, (⟨false, 1, 0, 0, V, B', d'⟩ : Az), true, (by rw [Q4]), rfl, HALL.out, ?_, (fun h => by cases h), S6.out.2, ?_⟩
        · exact (((VI.out.keep P4.out.2).keep (Fr.refl none_ w4).drew).farZ B2.out.drew OV.out.2).farA C5.out OW.out.2
        · exact fun _ => ⟨P, rfl, (by have h4 := POK.out w4.drew F14.out.drew; exact ⟨h4.low, h4.high, h4.rows, (h4.iv.farZ B2.out.drew OV.out.2).farA C5.out OW.out.2, h4.nc⟩), by rw [HPE.out], by rw [HPE.out], by rw [HPE.out]; exact HOF.out⟩
      | true =>
        have HSM := hid_ hsm
        clear hsm
        have hS0 : (fun w' : World => (Blk w' w1.heap.size 45 (pzA P) ∧ Blk w' w3.heap.size 43 (vwA V (.slice B' V.ents.length d')) ∧ Blk w' w.heap.size 75 (czA c)) ∧ Fr none_ w w') w4.drew := ⟨⟨BP.out.drew, P4.out.1.drew, BC.out.drew⟩, F.out.drew⟩
        refine wp_region_U (m := 14) (S := fun w' : World => (Blk w' w1.heap.size 45 (pzA P) ∧ Blk w' w3.heap.size 43 (vwA V (.slice B' V.ents.length d')) ∧ Blk w' w.heap.size 75 (czA c)) ∧ Fr none_ w w') (by kernel_rfl) ?_
        refine wpAnyU_take2 (i := 0) (v := _) rfl (by kernel_rfl) (by kernel_rfl) (by kernel_rfl) (by kernel_rfl) (fun _ _ _ h => h) (yieldsIf_load_mid (by kernel_rfl) 45 (.tmp 5) rfl w1.heap.size 0 rfl (pzA P).toList _ (fun w' hS i v hv => Blk.range7 (l := (pzA P).toList) hS.1.1 i v hv) Try.underlying45 rfl page_size) hS0 ?_
        refine wpAnyU_take2 (i := 7) (v := _) rfl (by kernel_rfl) (by kernel_rfl) (by kernel_rfl) (by kernel_rfl) (fun _ _ _ h => h) (yieldsIf_load_mid (by kernel_rfl) 43 (.tmp 7) rfl w3.heap.size 0 (by kernel_rfl) ((vwA V (.slice B' V.ents.length d')) : Array Value).toList _ (fun w' hS i v hv => Blk.range7 (l := ((vwA V (.slice B' V.ents.length d')) : Array Value).toList) hS.1.2.1 i v hv) Try.underlying43 rfl view_size7) hS0 ?_
        refine wpAnyU_take2 (i := 1) (v := .pointer (some ⟨w.heap.size, 3, none⟩)) rfl (by kernel_rfl) (by kernel_rfl) (by kernel_rfl) (by kernel_rfl) (fun _ _ _ h => h) (.inl ⟨by kernel_rfl, fun w' hS => by kernel_rfl⟩) hS0 ?_
        refine wpAnyU_take2 (i := 2) (v := .bool true) rfl (by kernel_rfl) (by kernel_rfl) (by kernel_rfl) (by kernel_rfl) (fun _ _ _ h => h) (.inl ⟨by kernel_rfl, fun w' hS => by have s_ : w'.cell? ⟨w.heap.size, 3, none⟩ = some (.bool true) := (by rw [← HSM.out]; exact hS.1.2.2.cell' rfl); clear hS; go_simp⟩) hS0 ?_
        refine wpAnyU_take2 (i := 3) (v := .bool true) rfl (by kernel_rfl) (by kernel_rfl) (by kernel_rfl) (by kernel_rfl) (fun _ _ _ h => h) (.inl ⟨by kernel_rfl, fun w' hS => by kernel_rfl⟩) hS0 ?_
        refine wpAnyU_take2 (i := 4) (v := .nilIface) rfl (by kernel_rfl) (by kernel_rfl) (by kernel_rfl) (by kernel_rfl) (fun _ _ _ h => h) (.inl ⟨by kernel_rfl, fun w' hS => by kernel_rfl⟩) hS0 ?_
        refine wpAnyU_take2 (i := 5) (v := .bool true) rfl (by kernel_rfl) (by kernel_rfl) (by kernel_rfl) (by kernel_rfl) (fun _ _ _ h => h) (.inl ⟨by kernel_rfl, fun w' hS => by kernel_rfl⟩) hS0 ?_
        refine wpAnyU_take2 (i := 6) (v := .bool true) rfl (by kernel_rfl) (by kernel_rfl) (by kernel_rfl) (by kernel_rfl) (fun _ _ _ h => h) (.inl ⟨by kernel_rfl, fun w' hS => by kernel_rfl⟩) hS0 ?_
        refine wpAnyU_take2 (i := 8) (v := .agg (azA (⟨true, 1, 0, 0, V, B', d'⟩ : Az))) rfl (by kernel_rfl) (by kernel_rfl) (by kernel_rfl) (by kernel_rfl) (fun _ _ _ h => h) (.inl ⟨by kernel_rfl, fun w' hS => by kernel_rfl⟩) hS0 ?_
        refine wpAnyU_take2 (i := 9) (v := .nilIface) rfl (by kernel_rfl) (by kernel_rfl) (by kernel_rfl) (by kernel_rfl) (fun _ _ _ h => h) (.inl ⟨by kernel_rfl, fun w' hS => by kernel_rfl⟩) hS0 ?_
        refine wpAnyU_take2 (i := 10) (v := .bool true) rfl (by kernel_rfl) (by kernel_rfl) (by kernel_rfl) (by kernel_rfl) (fun _ _ _ h => h) (.inl ⟨by kernel_rfl, fun w' hS => by kernel_rfl⟩) hS0 ?_
        clear hS0
        refine wpAnyU_name7 ?_
        intro a_ ha
        have HA := hid_ ha
        clear ha
        refine wpAnyU_one7 (i := 11) rfl rfl (by kernel_rfl) ?_
        refine wp_store_mid 45 (.tmp 2) (.tmp 24) rfl (w.heap.size + 1) 0 (pzA P) (by rw [HA.out]; kernel_rfl) (by rw [HA.out]; kernel_rfl) (B2.out.drew.there7 rfl) page_size HALL.out ?_
        have ov := B2.out.drew.over7 (pzA P).toList rfl
        obtain ⟨w5, hw5⟩ : ∃ z, z = w4.drew.setCells (w.heap.size + 1) 0 (pzA P).toList := ⟨_, rfl⟩
        rw [← hw5] at ov ⊢
        clear hw5
        have OV := hid_ ov
        clear ov
        have S5 := hid_ (And.intro (And.intro (BP.out.drew.fr OV.out.2 (only_ne (by omega))) (And.intro (P4.out.1.drew.fr OV.out.2 (only_ne (by omega))) (BC.out.drew.fr OV.out.2 (only_ne (by omega))))) (F.out.drew.then_only OV.out.2 (.inr (by omega))))
        have C5 := hid_ (B3.out.drew.fr OV.out.2 (only_ne (by omega)))
        refine ⟨.inr S5.out, ?_⟩
        refine wpAnyU_one7 (i := 12) rfl rfl (by kernel_rfl) ?_
        refine wp_store_mid 77 (.tmp 3) (.tmp 32) rfl (w.heap.size + 1 + 1) 0 (azA (⟨true, 1, 0, 0, V, B', d'⟩ : Az)) (by rw [HA.out]; kernel_rfl) (by rw [HA.out]; kernel_rfl) (C5.out.there7 rfl) above_size7 (by simp [Value.oneCell']) ?_
        have ov := C5.out.over7 (azA (⟨true, 1, 0, 0, V, B', d'⟩ : Az)).toList rfl
        obtain ⟨w6, hw6⟩ : ∃ z, z = w5.setCells (w.heap.size + 1 + 1) 0 (azA (⟨true, 1, 0, 0, V, B', d'⟩ : Az)).toList := ⟨_, rfl⟩
        rw [← hw6] at ov ⊢
        clear hw6
        have OW := hid_ ov
        clear ov
        have S6 := hid_ (And.intro (And.intro (S5.out.1.1.fr OW.out.2 (only_ne (by omega))) (And.intro (S5.out.1.2.1.fr OW.out.2 (only_ne (by omega))) (S5.out.1.2.2.fr OW.out.2 (only_ne (by omega))))) (S5.out.2.then_only OW.out.2 (.inr (by omega))))
        have D6 := hid_ (OV.out.1.fr OW.out.2 (only_ne (by omega)))
        refine ⟨.inr S6.out, ?_⟩
        refine wpAnyU_take2 (i := 13) (v := .bool true) rfl (by kernel_rfl) (by kernel_rfl) (by kernel_rfl) (by kernel_rfl) (fun _ _ _ h => h) (.inl ⟨rfl, fun w' hS => by rw [HA.out]; kernel_rfl⟩) S6.out ?_
        refine wpAnyU_name7 ?_
        intro b_ hb
        have HB := hid_ hb
        clear hb
        have Q2 : b_.tmps.getD 2 undef = .pointer (some ⟨w.heap.size + 1, 0, none⟩) := by rw [HB.out, HA.out]; kernel_rfl
        have Q3 : b_.tmps.getD 3 undef = .pointer (some ⟨w.heap.size + 1 + 1, 0, none⟩) := by rw [HB.out, HA.out]; kernel_rfl
        have Q4 : b_.tmps.getD 4 undef = .bool true := by rw [HB.out, HA.out]; kernel_rfl
        have QD : b_.defers = [] := by rw [HB.out, HA.out]; kernel_rfl
        clear HA HB
        refine wpAnyU_done (by kernel_rfl) ?_ _
        go_wp2
        refine bodyPost_ret (results_cell_cell_tmp7 b_.tmps w6 rfl (w.heap.size + 1) 0 (pzA P).toList _ Q2 (Blk.range7 (l := (pzA P).toList) D6.out) Try.underlying45 rfl page_size (w.heap.size + 1 + 1) 0 (azA (⟨true, 1, 0, 0, V, B', d'⟩ : Az)).toList _ Q3 (Blk.range7 (l := (azA (⟨true, 1, 0, 0, V, B', d'⟩ : Az)).toList) OW.out.1) Try.underlying77 rfl above_size7) QD ⟨pzA P, (⟨true, 1, 0, 0, V, B', d'⟩ : Az), true, (by rw [Q4]), rfl, HALL.out, ?_, (fun _ => HFO.out), S6.out.2, ?_⟩
        · exact (((VI.out.keep P4.out.2).keep (Fr.refl none_ w4).drew).farZ B2.out.drew OV.out.2).farA C5.out OW.out.2
        · exact fun _ => ⟨P, rfl, (by have h4 := POK.out w4.drew F14.out.drew; exact ⟨h4.low, h4.high, h4.rows, (h4.iv.farZ B2.out.drew OV.out.2).farA C5.out OW.out.2, h4.nc⟩), by rw [HPE.out], by rw [HPE.out], by rw [HPE.out]; exact HOF.out⟩
    · have BP := hid_ (P2.out.1.fr hf3 id)
      have F13 := hid_ (F12.out.then_none hf3)
      replace F := hid_ (F.out.then_none hf3)
      replace BC := hid_ (BC.out.fr hf3 id)
      replace B2 := hid_ (B2.out.fr hf3 id)
      replace B3 := hid_ (B3.out.fr hf3 id)
      replace H := hid_ (H.out.keep hf3)
      have hsq3 := B3.out.lt
      clear v2 hf3 hq2 hno
      go_upto_region 3 with (refine wpList_store_mid rfl 43 (.tmp 7) (.tmp 22) rfl w3.heap.size 0 (vwA Vw.zero (.slice none 0 0)) rfl rfl (new_there w3 _ vwZ) view_size7 (by simp [Value.oneCell']) ?_; obtain ⟨w4, hw4⟩ : ∃ z, z = (w3.alloc (.cells vwZ 43)).setCells w3.heap.size 0 (vwA Vw.zero (.slice none 0 0)).toList := ⟨_, rfl⟩; change wpList _ _ _ _ _ ((w3.alloc (.cells vwZ 43)).setCells w3.heap.size 0 (vwA Vw.zero (.slice none 0 0)).toList); rw [← hw4]; have P4 : Hid (Blk w4 w3.heap.size 43 (vwA Vw.zero (.slice none 0 0)) ∧ Fr none_ w3 w4) := hid_ (by rw [hw4]; exact new_copy w3 _ vwZ (vwA Vw.zero (.slice none 0 0)).toList rfl); clear hw4)
      replace F := hid_ (F.out.then_none P4.out.2)
      replace BC := hid_ (BC.out.fr P4.out.2 id)
      replace B2 := hid_ (B2.out.fr P4.out.2 id)
      replace B3 := hid_ (B3.out.fr P4.out.2 id)
      replace H := hid_ (H.out.keep P4.out.2)
      have F14 := hid_ (F13.out.then_none P4.out.2)
      replace BP := hid_ (BP.out.fr P4.out.2 id)
      have hs4 := P4.out.1.lt
      have hso4 := B3.out.lt
      cases hsm : c.some_ with
      | false =>
        have HSM := hid_ hsm
        clear hsm
        have hS0 : (fun w' : World => (Blk w' w1.heap.size 45 (pzA P) ∧ Blk w' w3.heap.size 43 (vwA Vw.zero (.slice none 0 0)) ∧ Blk w' w.heap.size 75 (czA c)) ∧ Fr none_ w w') w4.drew := ⟨⟨BP.out.drew, P4.out.1.drew, BC.out.drew⟩, F.out.drew⟩
        refine wp_region_U (m := 14) (S := fun w' : World => (Blk w' w1.heap.size 45 (pzA P) ∧ Blk w' w3.heap.size 43 (vwA Vw.zero (.slice none 0 0)) ∧ Blk w' w.heap.size 75 (czA c)) ∧ Fr none_ w w') (by kernel_rfl) ?_
        refine wpAnyU_take2 (i := 0) (v := _) rfl (by kernel_rfl) (by kernel_rfl) (by kernel_rfl) (by kernel_rfl) (fun _ _ _ h => h) (yieldsIf_load_mid (by kernel_rfl) 45 (.tmp 5) rfl w1.heap.size 0 rfl (pzA P).toList _ (fun w' hS i v hv => Blk.range7 (l := (pzA P).toList) hS.1.1 i v hv) Try.underlying45 rfl page_size) hS0 ?_
        refine wpAnyU_take2 (i := 7) (v := _) rfl (by kernel_rfl) (by kernel_rfl) (by kernel_rfl) (by kernel_rfl) (fun _ _ _ h => h) (yieldsIf_load_mid (by kernel_rfl) 43 (.tmp 7) rfl w3.heap.size 0 (by kernel_rfl) ((vwA Vw.zero (.slice none 0 0)) : Array Value).toList _ (fun w' hS i v hv => Blk.range7 (l := ((vwA Vw.zero (.slice none 0 0)) : Array Value).toList) hS.1.2.1 i v hv) Try.underlying43 rfl view_size7) hS0 ?_
        refine wpAnyU_take2 (i := 1) (v := .pointer (some ⟨w.heap.size, 3, none⟩)) rfl (by kernel_rfl) (by kernel_rfl) (by kernel_rfl) (by kernel_rfl) (fun _ _ _ h => h) (.inl ⟨by kernel_rfl, fun w' hS => by kernel_rfl⟩) hS0 ?_
        refine wpAnyU_take2 (i := 2) (v := .bool false) rfl (by kernel_rfl) (by kernel_rfl) (by kernel_rfl) (by kernel_rfl) (fun _ _ _ h => h) (.inl ⟨by kernel_rfl, fun w' hS => by have s_ : w'.cell? ⟨w.heap.size, 3, none⟩ = some (.bool false) := (by rw [← HSM.out]; exact hS.1.2.2.cell' rfl); clear hS; go_simp⟩) hS0 ?_
        refine wpAnyU_take2 (i := 3) (v := .bool false) rfl (by kernel_rfl) (by kernel_rfl) (by kernel_rfl) (by kernel_rfl) (fun _ _ _ h => h) (.inl ⟨by kernel_rfl, fun w' hS => by kernel_rfl⟩) hS0 ?_
        refine wpAnyU_take2 (i := 4) (v := undef) rfl (by kernel_rfl) (by kernel_rfl) (by kernel_rfl) (by kernel_rfl) (fun _ _ _ h => h) (.inr ⟨by kernel_rfl, rfl⟩) hS0 ?_
        refine wpAnyU_take2 (i := 5) (v := undef) rfl (by kernel_rfl) (by kernel_rfl) (by kernel_rfl) (by kernel_rfl) (fun _ _ _ h => h) (.inr ⟨by kernel_rfl, rfl⟩) hS0 ?_
        refine wpAnyU_take2 (i := 6) (v := .bool false) rfl (by kernel_rfl) (by kernel_rfl) (by kernel_rfl) (by kernel_rfl) (fun _ _ _ h => h) (.inl ⟨by kernel_rfl, fun w' hS => by kernel_rfl⟩) hS0 ?_
        refine wpAnyU_take2 (i := 8) (v := .agg (azA (⟨false, 1, 0, 0, Vw.zero, none, 0⟩ : Az))) rfl (by kernel_rfl) (by kernel_rfl) (by kernel_rfl) (by kernel_rfl) (fun _ _ _ h => h) (.inl ⟨by kernel_rfl, fun w' hS => by kernel_rfl⟩) hS0 ?_
        refine wpAnyU_take2 (i := 9) (v := .nilIface) rfl (by kernel_rfl) (by kernel_rfl) (by kernel_rfl) (by kernel_rfl) (fun _ _ _ h => h) (.inl ⟨by kernel_rfl, fun w' hS => by kernel_rfl⟩) hS0 ?_
        refine wpAnyU_take2 (i := 10) (v := .bool true) rfl (by kernel_rfl) (by kernel_rfl) (by kernel_rfl) (by kernel_rfl) (fun _ _ _ h => h) (.inl ⟨by kernel_rfl, fun w' hS => by kernel_rfl⟩) hS0 ?_
        clear hS0
        refine wpAnyU_name7 ?_
        intro a_ ha
        have HA := hid_ ha
        clear ha
        refine wpAnyU_one7 (i := 11) rfl rfl (by kernel_rfl) ?_
        refine wp_store_mid 45 (.tmp 2) (.tmp 24) rfl (w.heap.size + 1) 0 (pzA P) (by rw [HA.out]; kernel_rfl) (by rw [HA.out]; kernel_rfl) (B2.out.drew.there7 rfl) page_size HALL.out ?_
        have ov := B2.out.drew.over7 (pzA P).toList rfl
        obtain ⟨w5, hw5⟩ : ∃ z, z = w4.drew.setCells (w.heap.size + 1) 0 (pzA P).toList := ⟨_, rfl⟩
        rw [← hw5] at ov ⊢
        clear hw5
        have OV := hid_ ov
        clear ov
        have S5 := hid_ (And.intro (And.intro (BP.out.drew.fr OV.out.2 (only_ne (by omega))) (And.intro (P4.out.1.drew.fr OV.out.2 (only_ne (by omega))) (BC.out.drew.fr OV.out.2 (only_ne (by omega))))) (F.out.drew.then_only OV.out.2 (.inr (by omega))))
        have C5 := hid_ (B3.out.drew.fr OV.out.2 (only_ne (by omega)))
        refine ⟨.inr S5.out, ?_⟩
        refine wpAnyU_one7 (i := 12) rfl rfl (by kernel_rfl) ?_
        refine wp_store_mid 77 (.tmp 3) (.tmp 32) rfl (w.heap.size + 1 + 1) 0 (azA (⟨false, 1, 0, 0, Vw.zero, none, 0⟩ : Az)) (by rw [HA.out]; kernel_rfl) (by rw [HA.out]; kernel_rfl) (C5.out.there7 rfl) above_size7 (by simp [Value.oneCell']) ?_
        have ov := C5.out.over7 (azA (⟨false, 1, 0, 0, Vw.zero, none, 0⟩ : Az)).toList rfl
        obtain ⟨w6, hw6⟩ : ∃ z, z = w5.setCells (w.heap.size + 1 + 1) 0 (azA (⟨false, 1, 0, 0, Vw.zero, none, 0⟩ : Az)).toList := ⟨_, rfl⟩
        rw [← hw6] at ov ⊢
        clear hw6
        have OW := hid_ ov
        clear ov
        have S6 := hid_ (And.intro (And.intro (S5.out.1.1.fr OW.out.2 (only_ne (by omega))) (And.intro (S5.out.1.2.1.fr OW.out.2 (only_ne (by omega))) (S5.out.1.2.2.fr OW.out.2 (only_ne (by omega))))) (S5.out.2.then_only OW.out.2 (.inr (by omega))))
        have D6 := hid_ (OV.out.1.fr OW.out.2 (only_ne (by omega)))
        refine ⟨.inr S6.out, ?_⟩
        refine wpAnyU_take2 (i := 13) (v := .bool true) rfl (by kernel_rfl) (by kernel_rfl) (by kernel_rfl) (by kernel_rfl) (fun _ _ _ h => h) (.inl ⟨rfl, fun w' hS => by rw [HA.out]; kernel_rfl⟩) S6.out ?_
        refine wpAnyU_name7 ?_
        intro b_ hb
        have HB := hid_ hb
        clear hb
        have Q2 : b_.tmps.getD 2 undef = .pointer (some ⟨w.heap.size + 1, 0, none⟩) := by rw [HB.out, HA.out]; kernel_rfl
        have Q3 : b_.tmps.getD 3 undef = .pointer (some ⟨w.heap.size + 1 + 1, 0, none⟩) := by rw [HB.out, HA.out]; kernel_rfl
        have Q4 : b_.tmps.getD 4 undef = .bool true := by rw [HB.out, HA.out]; kernel_rfl
        have QD : b_.defers = [] := by rw [HB.out, HA.out]; kernel_rfl
        clear HA HB
        refine wpAnyU_done (by kernel_rfl) ?_ _
        go_wp2
        refine bodyPost_ret (results_cell_cell_tmp7 b_.tmps w6 rfl (w.heap.size + 1) 0 (pzA P).toList _ Q2 (Blk.range7 (l := (pzA P).toList) D6.out) Try.underlying45 rfl page_size (w.heap.size + 1 + 1) 0 (azA (⟨false, 1, 0, 0, Vw.zero, none, 0⟩ : Az)).toList _ Q3 (Blk.range7 (l := (azA (⟨false, 1, 0, 0, Vw.zero, none, 0⟩ : Az)).toList) OW.out.1) Try.underlying77 rfl above_size7) QD ⟨pzA P, (⟨false, 1, 0, 0, Vw.zero, none, 0⟩ : Az), true, (by rw [Q4]), rfl, HALL.out, ?_, (fun h => by cases h), S6.out.2, ?_⟩
        · exact VwIn.zero _
        · exact fun _ => ⟨P, rfl, (by have h4 := POK.out w4.drew F14.out.drew; exact ⟨h4.low, h4.high, h4.rows, (h4.iv.farZ B2.out.drew OV.out.2).farA C5.out OW.out.2, h4.nc⟩), by rw [HPE.out], by rw [HPE.out], by rw [HPE.out]; exact HOF.out⟩
      | true =>
        have HSM := hid_ hsm
        clear hsm
        have hS0 : (fun w' : World => (Blk w' w1.heap.size 45 (pzA P) ∧ Blk w' w3.heap.size 43 (vwA Vw.zero (.slice none 0 0)) ∧ Blk w' w.heap.size 75 (czA c)) ∧ Fr none_ w w') w4.drew := ⟨⟨BP.out.drew, P4.out.1.drew, BC.out.drew⟩, F.out.drew⟩
        refine wp_region_U (m := 14) (S := fun w' : World => (Blk w' w1.heap.size 45 (pzA P) ∧ Blk w' w3.heap.size 43 (vwA Vw.zero (.slice none 0 0)) ∧ Blk w' w.heap.size 75 (czA c)) ∧ Fr none_ w w') (by kernel_rfl) ?_
        refine wpAnyU_take2 (i := 0) (v := _) rfl (by kernel_rfl) (by kernel_rfl) (by kernel_rfl) (by kernel_rfl) (fun _ _ _ h => h) (yieldsIf_load_mid (by kernel_rfl) 45 (.tmp 5) rfl w1.heap.size 0 rfl (pzA P).toList _ (fun w' hS i v hv => Blk.range7 (l := (pzA P).toList) hS.1.1 i v hv) Try.underlying45 rfl page_size) hS0 ?_
        refine wpAnyU_take2 (i := 7) (v := _) rfl (by kernel_rfl) (by kernel_rfl) (by kernel_rfl) (by kernel_rfl) (fun _ _ _ h => h) (yieldsIf_load_mid (by kernel_rfl) 43 (.tmp 7) rfl w3.heap.size 0 (by kernel_rfl) ((vwA Vw.zero (.slice none 0 0)) : Array Value).toList _ (fun w' hS i v hv => Blk.range7 (l := ((vwA Vw.zero (.slice none 0 0)) : Array Value).toList) hS.1.2.1 i v hv) Try.underlying43 rfl view_size7) hS0 ?_
        refine wpAnyU_take2 (i := 1) (v := .pointer (some ⟨w.heap.size, 3, none⟩)) rfl (by kernel_rfl) (by kernel_rfl) (by kernel_rfl) (by kernel_rfl) (fun _ _ _ h => h) (.inl ⟨by kernel_rfl, fun w' hS => by kernel_rfl⟩) hS0 ?_
        refine wpAnyU_take2 (i := 2) (v := .bool true) rfl (by kernel_rfl) (by kernel_rfl) (by kernel_rfl) (by kernel_rfl) (fun _ _ _ h => h) (.inl ⟨by kernel_rfl, fun w' hS => by have s_ : w'.cell? ⟨w.heap.size, 3, none⟩ = some (.bool true) := (by rw [← HSM.out]; exact hS.1.2.2.cell' rfl); clear hS; go_simp⟩) hS0 ?_
        refine wpAnyU_take2 (i := 3) (v := .bool true) rfl (by kernel_rfl) (by kernel_rfl) (by kernel_rfl) (by kernel_rfl) (fun _ _ _ h => h) (.inl ⟨by kernel_rfl, fun w' hS => by kernel_rfl⟩) hS0 ?_
        refine wpAnyU_take2 (i := 4) (v := errV q2) rfl (by kernel_rfl) (by kernel_rfl) (by kernel_rfl) (by kernel_rfl) (fun _ _ _ h => h) (.inl ⟨by kernel_rfl, fun w' hS => by kernel_rfl⟩) hS0 ?_
        refine wpAnyU_take2 (i := 5) (v := .bool false) rfl (by kernel_rfl) (by kernel_rfl) (by kernel_rfl) (by kernel_rfl) (fun _ _ _ h => h) (.inl ⟨by kernel_rfl, fun w' hS => by kernel_rfl⟩) hS0 ?_
        refine wpAnyU_take2 (i := 6) (v := .bool false) rfl (by kernel_rfl) (by kernel_rfl) (by kernel_rfl) (by kernel_rfl) (fun _ _ _ h => h) (.inl ⟨by kernel_rfl, fun w' hS => by kernel_rfl⟩) hS0 ?_
        refine wpAnyU_take2 (i := 8) (v := .agg (azA (⟨false, 1, 0, 0, Vw.zero, none, 0⟩ : Az))) rfl (by kernel_rfl) (by kernel_rfl) (by kernel_rfl) (by kernel_rfl) (fun _ _ _ h => h) (.inl ⟨by kernel_rfl, fun w' hS => by kernel_rfl⟩) hS0 ?_
        refine wpAnyU_take2 (i := 9) (v := .nilIface) rfl (by kernel_rfl) (by kernel_rfl) (by kernel_rfl) (by kernel_rfl) (fun _ _ _ h => h) (.inl ⟨by kernel_rfl, fun w' hS => by kernel_rfl⟩) hS0 ?_
        refine wpAnyU_take2 (i := 10) (v := .bool true) rfl (by kernel_rfl) (by kernel_rfl) (by kernel_rfl) (by kernel_rfl) (fun _ _ _ h => h) (.inl ⟨by kernel_rfl, fun w' hS => by kernel_rfl⟩) hS0 ?_
        clear hS0
        refine wpAnyU_name7 ?_
        intro a_ ha
        have HA := hid_ ha
        clear ha
        refine wpAnyU_one7 (i := 11) rfl rfl (by kernel_rfl) ?_
        refine wp_store_mid 45 (.tmp 2) (.tmp 24) rfl (w.heap.size + 1) 0 (pzA P) (by rw [HA.out]; kernel_rfl) (by rw [HA.out]; kernel_rfl) (B2.out.drew.there7 rfl) page_size HALL.out ?_
        have ov := B2.out.drew.over7 (pzA P).toList rfl
        obtain ⟨w5, hw5⟩ : ∃ z, z = w4.drew.setCells (w.heap.size + 1) 0 (pzA P).toList := ⟨_, rfl⟩
        rw [← hw5] at ov ⊢
        clear hw5
        have OV := hid_ ov
        clear ov
        have S5 := hid_ (And.intro (And.intro (BP.out.drew.fr OV.out.2 (only_ne (by omega))) (And.intro (P4.out.1.drew.fr OV.out.2 (only_ne (by omega))) (BC.out.drew.fr OV.out.2 (only_ne (by omega))))) (F.out.drew.then_only OV.out.2 (.inr (by omega))))
        have C5 := hid_ (B3.out.drew.fr OV.out.2 (only_ne (by omega)))
        refine ⟨.inr S5.out, ?_⟩
        refine wpAnyU_one7 (i := 12) rfl rfl (by kernel_rfl) ?_
        refine wp_store_mid 77 (.tmp 3) (.tmp 32) rfl (w.heap.size + 1 + 1) 0 (azA (⟨false, 1, 0, 0, Vw.zero, none, 0⟩ : Az)) (by rw [HA.out]; kernel_rfl) (by rw [HA.out]; kernel_rfl) (C5.out.there7 rfl) above_size7 (by simp [Value.oneCell']) ?_
        have ov := C5.out.over7 (azA (⟨false, 1, 0, 0, Vw.zero, none, 0⟩ : Az)).toList rfl
        obtain ⟨w6, hw6⟩ : ∃ z, z = w5.setCells (w.heap.size + 1 + 1) 0 (azA (⟨false, 1, 0, 0, Vw.zero, none, 0⟩ : Az)).toList := ⟨_, rfl⟩
        rw [← hw6] at ov ⊢
        clear hw6
        have OW := hid_ ov
        clear ov
        have S6 := hid_ (And.intro (And.intro (S5.out.1.1.fr OW.out.2 (only_ne (by omega))) (And.intro (S5.out.1.2.1.fr OW.out.2 (only_ne (by omega))) (S5.out.1.2.2.fr OW.out.2 (only_ne (by omega))))) (S5.out.2.then_only OW.out.2 (.inr (by omega))))
        have D6 := hid_ (OV.out.1.fr OW.out.2 (only_ne (by omega)))
        refine ⟨.inr S6.out, ?_⟩
        refine wpAnyU_take2 (i := 13) (v := .bool true) rfl (by kernel_rfl) (by kernel_rfl) (by kernel_rfl) (by kernel_rfl) (fun _ _ _ h => h) (.inl ⟨rfl, fun w' hS => by rw [HA.out]; kernel_rfl⟩) S6.out ?_
        refine wpAnyU_name7 ?_
        intro b_ hb
        have HB := hid_ hb
        clear hb
        have Q2 : b_.tmps.getD 2 undef = .pointer (some ⟨w.heap.size + 1, 0, none⟩) := by rw [HB.out, HA.out]; kernel_rfl
        have Q3 : b_.tmps.getD 3 undef = .pointer (some ⟨w.heap.size + 1 + 1, 0, none⟩) := by rw [HB.out, HA.out]; kernel_rfl
        have Q4 : b_.tmps.getD 4 undef = .bool true := by rw [HB.out, HA.out]; kernel_rfl
        have QD : b_.defers = [] := by rw [HB.out, HA.out]; kernel_rfl
        clear HA HB
        refine wpAnyU_done (by kernel_rfl) ?_ _
        go_wp2
        refine bodyPost_ret (results_cell_cell_tmp7 b_.tmps w6 rfl (w.heap.size + 1) 0 (pzA P).toList _ Q2 (Blk.range7 (l := (pzA P).toList) D6.out) Try.underlying45 rfl page_size (w.heap.size + 1 + 1) 0 (azA (⟨false, 1, 0, 0, Vw.zero, none, 0⟩ : Az)).toList _ Q3 (Blk.range7 (l := (azA (⟨false, 1, 0, 0, Vw.zero, none, 0⟩ : Az)).toList) OW.out.1) Try.underlying77 rfl above_size7) QD ⟨pzA P, (⟨false, 1, 0, 0, Vw.zero, none, 0⟩ : Az), true, (by rw [Q4]), rfl, HALL.out, ?_, (fun h => by cases h), S6.out.2, ?_⟩
        · exact VwIn.zero _
        · exact fun _ => ⟨P, rfl, (by have h4 := POK.out w4.drew F14.out.drew; exact ⟨h4.low, h4.high, h4.rows, (h4.iv.farZ B2.out.drew OV.out.2).farA C5.out OW.out.2, h4.nc⟩), by rw [HPE.out], by rw [HPE.out], by rw [HPE.out]; exact HOF.out⟩
  · clear hof hq
    replace F := hid_ (F.out.then_none hf1)
    replace BC := hid_ (BC.out.fr hf1 id)
    replace B2 := hid_ (B2.out.fr hf1 id)
    replace B3 := hid_ (B3.out.fr hf1 id)
    replace H := hid_ (H.out.keep hf1)
    have hsq1 := B3.out.lt
    clear hf1 v0 v1
    go_upto_region 2 with (refine wpList_store_mid rfl 45 (.tmp 5) (.tmp 16) rfl w1.heap.size 0 (pgZ) rfl rfl (new_there w1 _ pgZ) page_size (by simp [Value.oneCell']) ?_; obtain ⟨w2, hw2⟩ : ∃ z, z = (w1.alloc (.cells pgZ 45)).setCells w1.heap.size 0 (pgZ).toList := ⟨_, rfl⟩; change wpList _ _ _ _ _ ((w1.alloc (.cells pgZ 45)).setCells w1.heap.size 0 (pgZ).toList); rw [← hw2]; have P2 : Hid (Blk w2 w1.heap.size 45 (pgZ) ∧ Fr none_ w1 w2) := hid_ (by rw [hw2]; exact new_copy w1 _ pgZ (pgZ).toList rfl); clear hw2)
    skip
    replace F := hid_ (F.out.then_none P2.out.2)
    replace BC := hid_ (BC.out.fr P2.out.2 id)
    replace B2 := hid_ (B2.out.fr P2.out.2 id)
    replace B3 := hid_ (B3.out.fr P2.out.2 id)
    replace H := hid_ (H.out.keep P2.out.2)
    have hs2 := P2.out.1.lt
    have v2 : w2.cell? ⟨w.heap.size, 2, none⟩ = some (.slice c.A2 c.n2 c.c2) := BC.out.cell' rfl
    go_wp2_with fail
    refine (fold_ok c.A2 c.n2 c.c2 L2 w2 (H.out.i2.few (few_ents HF.out.d)) (by omega) (fun C hC => by have := few_ents HF.out.d C hC; omega)).mono ?_
    rintro e w3 (⟨V, B', d', hkd, hfo, rfl, hvin, hheld, hf3⟩ | ⟨q2, hq2, hno, rfl, hf3⟩)
    · have BP := hid_ (P2.out.1.fr hf3 id)
      have VI := hid_ hvin
      have HFO := hid_ hfo
      replace F := hid_ (F.out.then_none hf3)
      replace BC := hid_ (BC.out.fr hf3 id)
      replace B2 := hid_ (B2.out.fr hf3 id)
      replace B3 := hid_ (B3.out.fr hf3 id)
      replace H := hid_ (H.out.keep hf3)
      have hsq3 := B3.out.lt
      clear v2 hf3 hkd hfo hvin hheld
      go_upto_region 3 with (refine wpList_store_mid rfl 43 (.tmp 7) (.tmp 22) rfl w3.heap.size 0 (vwA V (.slice B' V.ents.length d')) rfl rfl (new_there w3 _ vwZ) view_size7 (by simp [Value.oneCell']) ?_; obtain ⟨w4, hw4⟩ : ∃ z, z = (w3.alloc (.cells vwZ 43)).setCells w3.heap.size 0 (vwA V (.slice B' V.ents.length d')).toList := ⟨_, rfl⟩; change wpList _ _ _ _ _ ((w3.alloc (.cells vwZ 43)).setCells w3.heap.size 0 (vwA V (.slice B' V.ents.length d')).toList); rw [← hw4]; have P4 : Hid (Blk w4 w3.heap.size 43 (vwA V (.slice B' V.ents.length d')) ∧ Fr none_ w3 w4) := hid_ (by rw [hw4]; exact new_copy w3 _ vwZ (vwA V (.slice B' V.ents.length d')).toList rfl); clear hw4)
      replace F := hid_ (F.out.then_none P4.out.2)
      replace BC := hid_ (BC.out.fr P4.out.2 id)
      replace B2 := hid_ (B2.out.fr P4.out.2 id)
      replace B3 := hid_ (B3.out.fr P4.out.2 id)
      replace H := hid_ (H.out.keep P4.out.2)
      replace BP := hid_ (BP.out.fr P4.out.2 id)
      have hs4 := P4.out.1.lt
      have hso4 := B3.out.lt
      cases hsm : c.some_ with
      | false =>
        have HSM := hid_ hsm
        clear hsm
        have hS0 : (fun w' : World => (Blk w' w1.heap.size 45 (pgZ) ∧ Blk w' w3.heap.size 43 (vwA V (.slice B' V.ents.length d')) ∧ Blk w' w.heap.size 75 (czA c)) ∧ Fr none_ w w') w4.drew := ⟨⟨BP.out.drew, P4.out.1.drew, BC.out.drew⟩, F.out.drew⟩
        refine wp_region_U (m := 14) (S := fun w' : World => (Blk w' w1.heap.size 45 (pgZ) ∧ Blk w' w3.heap.size 43 (vwA V (.slice B' V.ents.length d')) ∧ Blk w' w.heap.size 75 (czA c)) ∧ Fr none_ w w') (by kernel_rfl) ?_
        refine wpAnyU_take2 (i := 0) (v := _) rfl (by kernel_rfl) (by kernel_rfl) (by kernel_rfl) (by kernel_rfl) (fun _ _ _ h => h) (yieldsIf_load_mid (by kernel_rfl) 45 (.tmp 5) rfl w1.heap.size 0 rfl (pgZ).toList _ (fun w' hS i v hv => Blk.range7 (l := (pgZ).toList) hS.1.1 i v hv) Try.underlying45 rfl page_size) hS0 ?_
        refine wpAnyU_take2 (i := 7) (v := _) rfl (by kernel_rfl) (by kernel_rfl) (by kernel_rfl) (by kernel_rfl) (fun _ _ _ h => h) (yieldsIf_load_mid (by kernel_rfl) 43 (.tmp 7) rfl w3.heap.size 0 (by kernel_rfl) ((vwA V (.slice B' V.ents.length d')) : Array Value).toList _ (fun w' hS i v hv => Blk.range7 (l := ((vwA V (.slice B' V.ents.length d')) : Array Value).toList) hS.1.2.1 i v hv) Try.underlying43 rfl view_size7) hS0 ?_
        refine wpAnyU_take2 (i := 1) (v := .pointer (some ⟨w.heap.size, 3, none⟩)) rfl (by kernel_rfl) (by kernel_rfl) (by kernel_rfl) (by kernel_rfl) (fun _ _ _ h => h) (.inl ⟨by kernel_rfl, fun w' hS => by kernel_rfl⟩) hS0 ?_
        refine wpAnyU_take2 (i := 2) (v := .bool false) rfl (by kernel_rfl) (by kernel_rfl) (by kernel_rfl) (by kernel_rfl) (fun _ _ _ h => h) (.inl ⟨by kernel_rfl, fun w' hS => by have s_ : w'.cell? ⟨w.heap.size, 3, none⟩ = some (.bool false) := (by rw [← HSM.out]; exact hS.1.2.2.cell' rfl); clear hS; go_simp⟩) hS0 ?_
        refine wpAnyU_take2 (i := 3) (v := .bool false) rfl (by kernel_rfl) (by kernel_rfl) (by kernel_rfl) (by kernel_rfl) (fun _ _ _ h => h) (.inl ⟨by kernel_rfl, fun w' hS => by kernel_rfl⟩) hS0 ?_
        refine wpAnyU_take2 (i := 4) (v := undef) rfl (by kernel_rfl) (by kernel_rfl) (by kernel_rfl) (by kernel_rfl) (fun _ _ _ h => h) (.inr ⟨by kernel_rfl, rfl⟩) hS0 ?_
        refine wpAnyU_take2 (i := 5) (v := undef) rfl (by kernel_rfl) (by kernel_rfl) (by kernel_rfl) (by kernel_rfl) (fun _ _ _ h => h) (.inr ⟨by kernel_rfl, rfl⟩) hS0 ?_
        refine wpAnyU_take2 (i := 6) (v := .bool false) rfl (by kernel_rfl) (by kernel_rfl) (by kernel_rfl) (by kernel_rfl) (fun _ _ _ h => h) (.inl ⟨by kernel_rfl, fun w' hS => by kernel_rfl⟩) hS0 ?_
        refine wpAnyU_take2 (i := 8) (v := .agg (azA (⟨false, 1, 0, 0, V, B', d'⟩ : Az))) rfl (by kernel_rfl) (by kernel_rfl) (by kernel_rfl) (by kernel_rfl) (fun _ _ _ h => h) (.inl ⟨by kernel_rfl, fun w' hS => by kernel_rfl⟩) hS0 ?_
        refine wpAnyU_take2 (i := 9) (v := errV q) rfl (by kernel_rfl) (by kernel_rfl) (by kernel_rfl) (by kernel_rfl) (fun _ _ _ h => h) (.inl ⟨by kernel_rfl, fun w' hS => by kernel_rfl⟩) hS0 ?_
        refine wpAnyU_take2 (i := 10) (v := .bool false) rfl (by kernel_rfl) (by kernel_rfl) (by kernel_rfl) (by kernel_rfl) (fun _ _ _ h => h) (.inl ⟨by kernel_rfl, fun w' hS => by kernel_rfl⟩) hS0 ?_
        clear hS0
        refine wpAnyU_name7 ?_
        intro a_ ha
        have HA := hid_ ha
        clear ha
        refine wpAnyU_one7 (i := 11) rfl rfl (by kernel_rfl) ?_
        refine wp_store_mid 45 (.tmp 2) (.tmp 24) rfl (w.heap.size + 1) 0 (pgZ) (by rw [HA.out]; kernel_rfl) (by rw [HA.out]; kernel_rfl) (B2.out.drew.there7 rfl) page_size (by simp [Value.oneCell']) ?_
        have ov := B2.out.drew.over7 (pgZ).toList rfl
        obtain ⟨w5, hw5⟩ : ∃ z, z = w4.drew.setCells (w.heap.size + 1) 0 (pgZ).toList := ⟨_, rfl⟩
        rw [← hw5] at ov ⊢
        clear hw5
        have OV := hid_ ov
        clear ov
        have S5 := hid_ (And.intro (And.intro (BP.out.drew.fr OV.out.2 (only_ne (by omega))) (And.intro (P4.out.1.drew.fr OV.out.2 (only_ne (by omega))) (BC.out.drew.fr OV.out.2 (only_ne (by omega))))) (F.out.drew.then_only OV.out.2 (.inr (by omega))))
        have C5 := hid_ (B3.out.drew.fr OV.out.2 (only_ne (by omega)))
        refine ⟨.inr S5.out, ?_⟩
        refine wpAnyU_one7 (i := 12) rfl rfl (by kernel_rfl) ?_
        refine wp_store_mid 77 (.tmp 3) (.tmp 32) rfl (w.heap.size + 1 + 1) 0 (azA (⟨false, 1, 0, 0, V, B', d'⟩ : Az)) (by rw [HA.out]; kernel_rfl) (by rw [HA.out]; kernel_rfl) (C5.out.there7 rfl) above_size7 (by simp [Value.oneCell']) ?_
        have ov := C5.out.over7 (azA (⟨false, 1, 0, 0, V, B', d'⟩ : Az)).toList rfl
        obtain ⟨w6, hw6⟩ : ∃ z, z = w5.setCells (w.heap.size + 1 + 1) 0 (azA (⟨false, 1, 0, 0, V, B', d'⟩ : Az)).toList := ⟨_, rfl⟩
        rw [← hw6] at ov ⊢
        clear hw6
        have OW := hid_ ov
        clear ov
        have S6 := hid_ (And.intro (And.intro (S5.out.1.1.fr OW.out.2 (only_ne (by omega))) (And.intro (S5.out.1.2.1.fr OW.out.2 (only_ne (by omega))) (S5.out.1.2.2.fr OW.out.2 (only_ne (by omega))))) (S5.out.2.then_only OW.out.2 (.inr (by omega))))
        have D6 := hid_ (OV.out.1.fr OW.out.2 (only_ne (by omega)))
        refine ⟨.inr S6.out, ?_⟩
        refine wpAnyU_take2 (i := 13) (v := .bool false) rfl (by kernel_rfl) (by kernel_rfl) (by kernel_rfl) (by kernel_rfl) (fun _ _ _ h => h) (.inl ⟨rfl, fun w' hS => by rw [HA.out]; kernel_rfl⟩) S6.out ?_
        refine wpAnyU_name7 ?_
        intro b_ hb
        have HB := hid_ hb
        clear hb
        have Q2 : b_.tmps.getD 2 undef = .pointer (some ⟨w.heap.size + 1, 0, none⟩) := by rw [HB.out, HA.out]; kernel_rfl
        have Q3 : b_.tmps.getD 3 undef = .pointer (some ⟨w.heap.size + 1 + 1, 0, none⟩) := by rw [HB.out, HA.out]; kernel_rfl
        have Q4 : b_.tmps.getD 4 undef = .bool false := by rw [HB.out, HA.out]; kernel_rfl
        have QD : b_.defers = [] := by rw [HB.out, HA.out]; kernel_rfl
        clear HA HB
        refine wpAnyU_done (by kernel_rfl) ?_ _
        go_wp2
        refine bodyPost_ret (results_cell_cell_tmp7 b_.tmps w6 rfl (w.heap.size + 1) 0 (pgZ).toList _ Q2 (Blk.range7 (l := (pgZ).toList) D6.out) Try.underlying45 rfl page_size (w.heap.size + 1 + 1) 0 (azA (⟨false, 1, 0, 0, V, B', d'⟩ : Az)).toList _ Q3 (Blk.range7 (l := (azA (⟨false, 1, 0, 0, V, B', d'⟩ : Az)).toList) OW.out.1) Try.underlying77 rfl above_size7) QD ⟨pgZ, (⟨false, 1, 0, 0, V, B', d'⟩ : Az), false, (by rw [Q4]), rfl, by simp [Value.oneCell'], ?_, (fun h => by cases h), S6.out.2, ?_⟩
        · exact (((VI.out.keep P4.out.2).keep (Fr.refl none_ w4).drew).farZ B2.out.drew OV.out.2).farA C5.out OW.out.2
        · exact fun h => by cases h
      | true =>
        have HSM := hid_ hsm
        clear hsm
        have hS0 : (fun w' : World => (Blk w' w1.heap.size 45 (pgZ) ∧ Blk w' w3.heap.size 43 (vwA V (.slice B' V.ents.length d')) ∧ Blk w' w.heap.size 75 (czA c)) ∧ Fr none_ w w') w4.drew := ⟨⟨BP.out.drew, P4.out.1.drew, BC.out.drew⟩, F.out.drew⟩
        refine wp_region_U (m := 14) (S := fun w' : World => (Blk w' w1.heap.size 45 (pgZ) ∧ Blk w' w3.heap.size 43 (vwA V (.slice B' V.ents.length d')) ∧ Blk w' w.heap.size 75 (czA c)) ∧ Fr none_ w w') (by kernel_rfl) ?_
        refine wpAnyU_take2 (i := 0) (v := _) rfl (by kernel_rfl) (by kernel_rfl) (by kernel_rfl) (by kernel_rfl) (fun _ _ _ h => h) (yieldsIf_load_mid (by kernel_rfl) 45 (.tmp 5) rfl w1.heap.size 0 rfl (pgZ).toList _ (fun w' hS i v hv => Blk.range7 (l := (pgZ).toList) hS.1.1 i v hv) Try.underlying45 rfl page_size) hS0 ?_
        refine wpAnyU_take2 (i := 7) (v := _) rfl (by kernel_rfl) (by kernel_rfl) (by kernel_rfl) (by kernel_rfl) (fun _ _ _ h => h) (yieldsIf_load_mid (by kernel_rfl) 43 (.tmp 7) rfl w3.heap.size 0 (by kernel_rfl) ((vwA V (.slice B' V.ents.length d')) : Array Value).toList _ (fun w' hS i v hv => Blk.range7 (l := ((vwA V (.slice B' V.ents.length d')) : Array Value).toList) hS.1.2.1 i v hv) Try.underlying43 rfl view_size7) hS0 ?_
        refine wpAnyU_take2 (i := 1) (v := .pointer (some ⟨w.heap.size, 3, none⟩)) rfl (by kernel_rfl) (by kernel_rfl) (by kernel_rfl) (by kernel_rfl) (fun _ _ _ h => h) (.inl ⟨by kernel_rfl, fun w' hS => by kernel_rfl⟩) hS0 ?_
        refine wpAnyU_take2 (i := 2) (v := .bool true) rfl (by kernel_rfl) (by kernel_rfl) (by kernel_rfl) (by kernel_rfl) (fun _ _ _ h => h) (.inl ⟨by kernel_rfl, fun w' hS => by have s_ : w'.cell? ⟨w.heap.size, 3, none⟩ = some (.bool true) := (by rw [← HSM.out]; exact hS.1.2.2.cell' rfl); clear hS; go_simp⟩) hS0 ?_
        refine wpAnyU_take2 (i := 3) (v := .bool true) rfl (by kernel_rfl) (by kernel_rfl) (by kernel_rfl) (by kernel_rfl) (fun _ _ _ h => h) (.inl ⟨by kernel_rfl, fun w' hS => by kernel_rfl⟩) hS0 ?_
        refine wpAnyU_take2 (i := 4) (v := .nilIface) rfl (by kernel_rfl) (by kernel_rfl) (by kernel_rfl) (by kernel_rfl) (fun _ _ _ h => h) (.inl ⟨by kernel_rfl, fun w' hS => by kernel_rfl⟩) hS0 ?_
        refine wpAnyU_take2 (i := 5) (v := .bool true) rfl (by kernel_rfl) (by kernel_rfl) (by kernel_rfl) (by kernel_rfl) (fun _ _ _ h => h) (.inl ⟨by kernel_rfl, fun w' hS => by kernel_rfl⟩) hS0 ?_
        refine wpAnyU_take2 (i := 6) (v := .bool true) rfl (by kernel_rfl) (by kernel_rfl) (by kernel_rfl) (by kernel_rfl) (fun _ _ _ h => h) (.inl ⟨by kernel_rfl, fun w' hS => by kernel_rfl⟩) hS0 ?_
        refine wpAnyU_take2 (i := 8) (v := .agg (azA (⟨true, 1, 0, 0, V, B', d'⟩ : Az))) rfl (by kernel_rfl) (by kernel_rfl) (by kernel_rfl) (by kernel_rfl) (fun _ _ _ h => h) (.inl ⟨by kernel_rfl, fun w' hS => by kernel_rfl⟩) hS0 ?_
        refine wpAnyU_take2 (i := 9) (v := errV q) rfl (by kernel_rfl) (by kernel_rfl) (by kernel_rfl) (by kernel_rfl) (fun _ _ _ h => h) (.inl ⟨by kernel_rfl, fun w' hS => by kernel_rfl⟩) hS0 ?_
        refine wpAnyU_take2 (i := 10) (v := .bool false) rfl (by kernel_rfl) (by kernel_rfl) (by kernel_rfl) (by kernel_rfl) (fun _ _ _ h => h) (.inl ⟨by kernel_rfl, fun w' hS => by kernel_rfl⟩) hS0 ?_
        clear hS0
        refine wpAnyU_name7 ?_
        intro a_ ha
        have HA := hid_ ha
        clear ha
        refine wpAnyU_one7 (i := 11) rfl rfl (by kernel_rfl) ?_
        refine wp_store_mid 45 (.tmp 2) (.tmp 24) rfl (w.heap.size + 1) 0 (pgZ) (by rw [HA.out]; kernel_rfl) (by rw [HA.out]; kernel_rfl) (B2.out.drew.there7 rfl) page_size (by simp [Value.oneCell']) ?_
        have ov := B2.out.drew.over7 (pgZ).toList rfl
        obtain ⟨w5, hw5⟩ : ∃ z, z = w4.drew.setCells (w.heap.size + 1) 0 (pgZ).toList := ⟨_, rfl⟩
        rw [← hw5] at ov ⊢
        clear hw5
        have OV := hid_ ov
        clear ov
        have S5 := hid_ (And.intro (And.intro (BP.out.drew.fr OV.out.2 (only_ne (by omega))) (And.intro (P4.out.1.drew.fr OV.out.2 (only_ne (by omega))) (BC.out.drew.fr OV.out.2 (only_ne (by omega))))) (F.out.drew.then_only OV.out.2 (.inr (by omega))))
        have C5 := hid_ (B3.out.drew.fr OV.out.2 (only_ne (by omega)))
        refine ⟨.inr S5.out, ?_⟩
        refine wpAnyU_one7 (i := 12) rfl rfl (by kernel_rfl) ?_
        refine wp_store_mid 77 (.tmp 3) (.tmp 32) rfl (w.heap.size + 1 + 1) 0 (azA (⟨true, 1, 0, 0, V, B', d'⟩ : Az)) (by rw [HA.out]; kernel_rfl) (by rw [HA.out]; kernel_rfl) (C5.out.there7 rfl) above_size7 (by simp [Value.oneCell']) ?_
        have ov := C5.out.over7 (azA (⟨true, 1, 0, 0, V, B', d'⟩ : Az)).toList rfl
        obtain ⟨w6, hw6⟩ : ∃ z, z = w5.setCells (w.heap.size + 1 + 1) 0 (azA (⟨true, 1, 0, 0, V, B', d'⟩ : Az)).toList := ⟨_, rfl⟩
        rw [← hw6] at ov ⊢
        clear hw6
        have OW := hid_ ov
        clear ov
        have S6 := hid_ (And.intro (And.intro (S5.out.1.1.fr OW.out.2 (only_ne (by omega))) (And.intro (S5.out.1.2.1.fr OW.out.2 (only_ne (by omega))) (S5.out.1.2.2.fr OW.out.2 (only_ne (by omega))))) (S5.out.2.then_only OW.out.2 (.inr (by omega))))
        have D6 := hid_ (OV.out.1.fr OW.out.2 (only_ne (by omega)))
        refine ⟨.inr S6.out, ?_⟩
        refine wpAnyU_take2 (i := 13) (v := .bool false) rfl (by kernel_rfl) (by kernel_rfl) (by kernel_rfl) (by kernel_rfl) (fun _ _ _ h => h) (.inl ⟨rfl, fun w' hS => by rw [HA.out]; kernel_rfl⟩) S6.out ?_
        refine wpAnyU_name7 ?_
        intro b_ hb
        have HB := hid_ hb
        clear hb
        have Q2 : b_.tmps.getD 2 undef = .pointer (some ⟨w.heap.size + 1, 0, none⟩) := by rw [HB.out, HA.out]; kernel_rfl
        have Q3 : b_.tmps.getD 3 undef = .pointer (some ⟨w.heap.size + 1 + 1, 0, none⟩) := by rw [HB.out, HA.out]; kernel_rfl
        have Q4 : b_.tmps.getD 4 undef = .bool false := by rw [HB.out, HA.out]; kernel_rfl
        have QD : b_.defers = [] := by rw [HB.out, HA.out]; kernel_rfl
        clear HA HB
        refine wpAnyU_done (by kernel_rfl) ?_ _
        go_wp2
        refine bodyPost_ret (results_cell_cell_tmp7 b_.tmps w6 rfl (w.heap.size + 1) 0 (pgZ).toList _ Q2 (Blk.range7 (l := (pgZ).toList) D6.out) Try.underlying45 rfl page_size (w.heap.size + 1 + 1) 0 (azA (⟨true, 1, 0, 0, V, B', d'⟩ : Az)).toList _ Q3 (Blk.range7 (l := (azA (⟨true, 1, 0, 0, V, B', d'⟩ : Az)).toList) OW.out.1) Try.underlying77 rfl above_size7) QD ⟨pgZ, (⟨true, 1, 0, 0, V, B', d'⟩ : Az), false, (by rw [Q4]), rfl, by simp [Value.oneCell'], ?_, (fun _ => HFO.out), S6.out.2, ?_⟩
        · exact (((VI.out.keep P4.out.2).keep (Fr.refl none_ w4).drew).farZ B2.out.drew OV.out.2).farA C5.out OW.out.2
        · exact fun h => by cases h
    · have BP := hid_ (P2.out.1.fr hf3 id)
      replace F := hid_ (F.out.then_none hf3)
      replace BC := hid_ (BC.out.fr hf3 id)
      replace B2 := hid_ (B2.out.fr hf3 id)
      replace B3 := hid_ (B3.out.fr hf3 id)
      replace H := hid_ (H.out.keep hf3)
      have hsq3 := B3.out.lt
      clear v2 hf3 hq2 hno
      go_upto_region 3 with (refine wpList_store_mid rfl 43 (.tmp 7) (.tmp 22) rfl w3.heap.size 0 (vwA Vw.zero (.slice none 0 0)) rfl rfl (new_there w3 _ vwZ) view_size7 (by simp [Value.oneCell']) ?_; obtain ⟨w4, hw4⟩ : ∃ z, z = (w3.alloc (.cells vwZ 43)).setCells w3.heap.size 0 (vwA Vw.zero (.slice none 0 0)).toList := ⟨_, rfl⟩; change wpList _ _ _ _ _ ((w3.alloc (.cells vwZ 43)).setCells w3.heap.size 0 (vwA Vw.zero (.slice none 0 0)).toList); rw [← hw4]; have P4 : Hid (Blk w4 w3.heap.size 43 (vwA Vw.zero (.slice none 0 0)) ∧ Fr none_ w3 w4) := hid_ (by rw [hw4]; exact new_copy w3 _ vwZ (vwA Vw.zero (.slice none 0 0)).toList rfl); clear hw4)
      replace F := hid_ (F.out.then_none P4.out.2)
      replace BC := hid_ (BC.out.fr P4.out.2 id)
      replace B2 := hid_ (B2.out.fr P4.out.2 id)
      replace B3 := hid_ (B3.out.fr P4.out.2 id)
      replace H := hid_ (H.out.keep P4.out.2)
      replace BP := hid_ (BP.out.fr P4.out.2 id)
      have hs4 := P4.out.1.lt
      have hso4 := B3.out.lt
      cases hsm : c.some_ with
      | false =>
        have HSM := hid_ hsm
        clear hsm
        have hS0 : (fun w' : World => (Blk w' w1.heap.size 45 (pgZ) ∧ Blk w' w3.heap.size 43 (vwA Vw.zero (.slice none 0 0)) ∧ Blk w' w.heap.size 75 (czA c)) ∧ Fr none_ w w') w4.drew := ⟨⟨BP.out.drew, P4.out.1.drew, BC.out.drew⟩, F.out.drew⟩
        refine wp_region_U (m := 14) (S := fun w' : World => (Blk w' w1.heap.size 45 (pgZ) ∧ Blk w' w3.heap.size 43 (vwA Vw.zero (.slice none 0 0)) ∧ Blk w' w.heap.size 75 (czA c)) ∧ Fr none_ w w') (by kernel_rfl) ?_
        refine wpAnyU_take2 (i := 0) (v := _) rfl (by kernel_rfl) (by kernel_rfl) (by kernel_rfl) (by kernel_rfl) (fun _ _ _ h => h) (yieldsIf_load_mid (by kernel_rfl) 45 (.tmp 5) rfl w1.heap.size 0 rfl (pgZ).toList _ (fun w' hS i v hv => Blk.range7 (l := (pgZ).toList) hS.1.1 i v hv) Try.underlying45 rfl page_size) hS0 ?_
        refine wpAnyU_take2 (i := 7) (v := _) rfl (by kernel_rfl) (by kernel_rfl) (by kernel_rfl) (by kernel_rfl) (fun _ _ _ h => h) (yieldsIf_load_mid (by kernel_rfl) 43 (.tmp 7) rfl w3.heap.size 0 (by kernel_rfl) ((vwA Vw.zero (.slice none 0 0)) : Array Value).toList _ (fun w' hS i v hv => Blk.range7 (l := ((vwA Vw.zero (.slice none 0 0)) : Array Value).toList) hS.1.2.1 i v hv) Try.underlying43 rfl view_size7) hS0 ?_
        refine wpAnyU_take2 (i := 1) (v := .pointer (some ⟨w.heap.size, 3, none⟩)) rfl (by kernel_rfl) (by kernel_rfl) (by kernel_rfl) (by kernel_rfl) (fun _ _ _ h => h) (.inl ⟨by kernel_rfl, fun w' hS => by kernel_rfl⟩) hS0 ?_
        refine wpAnyU_take2 (i := 2) (v := .bool false) rfl (by kernel_rfl) (by kernel_rfl) (by kernel_rfl) (by kernel_rfl) (fun _ _ _ h => h) (.inl ⟨by kernel_rfl, fun w' hS => by have s_ : w'.cell? ⟨w.heap.size, 3, none⟩ = some (.bool false) := (by rw [← HSM.out]; exact hS.1.2.2.cell' rfl); clear hS; go_simp⟩) hS0 ?_
        refine wpAnyU_take2 (i := 3) (v := .bool false) rfl (by kernel_rfl) (by kernel_rfl) (by kernel_rfl) (by kernel_rfl) (fun _ _ _ h => h) (.inl ⟨by kernel_rfl, fun w' hS => by kernel_rfl⟩) hS0 ?_
        refine wpAnyU_take2 (i := 4) (v := undef) rfl (by kernel_rfl) (by kernel_rfl) (by kernel_rfl) (by kernel_rfl) (fun _ _ _ h => h) (.inr ⟨by kernel_rfl, rfl⟩) hS0 ?_
        refine wpAnyU_take2 (i := 5) (v := undef) rfl (by kernel_rfl) (by kernel_rfl) (by kernel_rfl) (by kernel_rfl) (fun _ _ _ h => h) (.inr ⟨by kernel_rfl, rfl⟩) hS0 ?_
        refine wpAnyU_take2 (i := 6) (v := .bool false) rfl (by kernel_rfl) (by kernel_rfl) (by kernel_rfl) (by kernel_rfl) (fun _ _ _ h => h) (.inl ⟨by kernel_rfl, fun w' hS => by kernel_rfl⟩) hS0 ?_
        refine wpAnyU_take2 (i := 8) (v := .agg (azA (⟨false, 1, 0, 0, Vw.zero, none, 0⟩ : Az))) rfl (by kernel_rfl) (by kernel_rfl) (by kernel_rfl) (by kernel_rfl) (fun _ _ _ h => h) (.inl ⟨by kernel_rfl, fun w' hS => by kernel_rfl⟩) hS0 ?_
        refine wpAnyU_take2 (i := 9) (v := errV q) rfl (by kernel_rfl) (by kernel_rfl) (by kernel_rfl) (by kernel_rfl) (fun _ _ _ h => h) (.inl ⟨by kernel_rfl, fun w' hS => by kernel_rfl⟩) hS0 ?_
        refine wpAnyU_take2 (i := 10) (v := .bool false) rfl (by kernel_rfl) (by kernel_rfl) (by kernel_rfl) (by kernel_rfl) (fun _ _ _ h => h) (.inl ⟨by kernel_rfl, fun w' hS => by kernel_rfl⟩) hS0 ?_
        clear hS0
        refine wpAnyU_name7 ?_
        intro a_ ha
        have HA := hid_ ha
        clear ha
        refine wpAnyU_one7 (i := 11) rfl rfl (by kernel_rfl) ?_
        refine wp_store_mid 45 (.tmp 2) (.tmp 24) rfl (w.heap.size + 1) 0 (pgZ) (by rw [HA.out]; kernel_rfl) (by rw [HA.out]; kernel_rfl) (B2.out.drew.there7 rfl) page_size (by simp [Value.oneCell']) ?_
        have ov := B2.out.drew.over7 (pgZ).toList rfl
        obtain ⟨w5, hw5⟩ : ∃ z, z = w4.drew.setCells (w.heap.size + 1) 0 (pgZ).toList := ⟨_, rfl⟩
        rw [← hw5] at ov ⊢
        clear hw5
        have OV := hid_ ov
        clear ov
        have S5 := hid_ (And.intro (And.intro (BP.out.drew.fr OV.out.2 (only_ne (by omega))) (And.intro (P4.out.1.drew.fr OV.out.2 (only_ne (by omega))) (BC.out.drew.fr OV.out.2 (only_ne (by omega))))) (F.out.drew.then_only OV.out.2 (.inr (by omega))))
        have C5 := hid_ (B3.out.drew.fr OV.out.2 (only_ne (by omega)))
        refine ⟨.inr S5.out, ?_⟩
        refine wpAnyU_one7 (i := 12) rfl rfl (by kernel_rfl) ?_
        refine wp_store_mid 77 (.tmp 3) (.tmp 32) rfl (w.heap.size + 1 + 1) 0 (azA (⟨false, 1, 0, 0, Vw.zero, none, 0⟩ : Az)) (by rw [HA.out]; kernel_rfl) (by rw [HA.out]; kernel_rfl) (C5.out.there7 rfl) above_size7 (by simp [Value.oneCell']) ?_
        have ov := C5.out.over7 (azA (⟨false, 1, 0, 0, Vw.zero, none, 0⟩ : Az)).toList rfl
        obtain ⟨w6, hw6⟩ : ∃ z, z = w5.setCells (w.heap.size + 1 + 1) 0 (azA (⟨false, 1, 0, 0, Vw.zero, none, 0⟩ : Az)).toList := ⟨_, rfl⟩
        rw [← hw6] at ov ⊢
        clear hw6
        have OW := hid_ ov
        clear ov
        have S6 := hid_ (And.intro (And.intro (S5.out.1.1.fr OW.out.2 (only_ne (by omega))) (And.intro (S5.out.1.2.1.fr OW.out.2 (only_ne (by omega))) (S5.out.1.2.2.fr OW.out.2 (only_ne (by omega))))) (S5.out.2.then_only OW.out.2 (.inr (by omega))))
        have D6 := hid_ (OV.out.1.fr OW.out.2 (only_ne (by omega)))
        refine ⟨.inr S6.out, ?_⟩
        refine wpAnyU_take2 (i := 13) (v := .bool false) rfl (by kernel_rfl) (by kernel_rfl) (by kernel_rfl) (by kernel_rfl) (fun _ _ _ h => h) (.inl ⟨rfl, fun w' hS => by rw [HA.out]; kernel_rfl⟩) S6.out ?_
        refine wpAnyU_name7 ?_
        intro b_ hb
        have HB := hid_ hb
        clear hb
        have Q2 : b_.tmps.getD 2 undef = .pointer (some ⟨w.heap.size + 1, 0, none⟩) := by rw [HB.out, HA.out]; kernel_rfl
        have Q3 : b_.tmps.getD 3 undef = .pointer (some ⟨w.heap.size + 1 + 1, 0, none⟩) := by rw [HB.out, HA.out]; kernel_rfl
        have Q4 : b_.tmps.getD 4 undef = .bool false := by rw [HB.out, HA.out]; kernel_rfl
        have QD : b_.defers = [] := by rw [HB.out, HA.out]; kernel_rfl
        clear HA HB
        refine wpAnyU_done (by kernel_rfl) ?_ _
        go_wp2
        refine bodyPost_ret (results_cell_cell_tmp7 b_.tmps w6 rfl (w.heap.size + 1) 0 (pgZ).toList _ Q2 (Blk.range7 (l := (pgZ).toList) D6.out) Try.underlying45 rfl page_size (w.heap.size + 1 + 1) 0 (azA (⟨false, 1, 0, 0, Vw.zero, none, 0⟩ : Az)).toList _ Q3 (Blk.range7 (l := (azA (⟨false, 1, 0, 0, Vw.zero, none, 0⟩ : Az)).toList) OW.out.1) Try.underlying77 rfl above_size7) QD ⟨pgZ, (⟨false, 1, 0, 0, Vw.zero, none, 0⟩ : Az), false, (by rw [Q4]), rfl, by simp [Value.oneCell'], ?_, (fun h => by cases h), S6.out.2, ?_⟩
        · exact VwIn.zero _
        · exact fun h => by cases h
      | true =>
        have HSM := hid_ hsm
        clear hsm
        have hS0 : (fun w' : World => (Blk w' w1.heap.size 45 (pgZ) ∧ Blk w' w3.heap.size 43 (vwA Vw.zero (.slice none 0 0)) ∧ Blk w' w.heap.size 75 (czA c)) ∧ Fr none_ w w') w4.drew := ⟨⟨BP.out.drew, P4.out.1.drew, BC.out.drew⟩, F.out.drew⟩
        refine wp_region_U (m := 14) (S := fun w' : World => (Blk w' w1.heap.size 45 (pgZ) ∧ Blk w' w3.heap.size 43 (vwA Vw.zero (.slice none 0 0)) ∧ Blk w' w.heap.size 75 (czA c)) ∧ Fr none_ w w') (by kernel_rfl) ?_
        refine wpAnyU_take2 (i := 0) (v := _) rfl (by kernel_rfl) (by kernel_rfl) (by kernel_rfl) (by kernel_rfl) (fun _ _ _ h => h) (yieldsIf_load_mid (by kernel_rfl) 45 (.tmp 5) rfl w1.heap.size 0 rfl (pgZ).toList _ (fun w' hS i v hv => Blk.range7 (l := (pgZ).toList) hS.1.1 i v hv) Try.underlying45 rfl page_size) hS0 ?_
        refine wpAnyU_take2 (i := 7) (v := _) rfl (by kernel_rfl) (by kernel_rfl) (by kernel_rfl) (by kernel_rfl) (fun _ _ _ h => h) (yieldsIf_load_mid (by kernel_rfl) 43 (.tmp 7) rfl w3.heap.size 0 (by kernel_rfl) ((vwA Vw.zero (.slice none 0 0)) : Array Value).toList _ (fun w' hS i v hv => Blk.range7 (l := ((vwA Vw.zero (.slice none 0 0)) : Array Value).toList) hS.1.2.1 i v hv) Try.underlying43 rfl view_size7) hS0 ?_
        refine wpAnyU_take2 (i := 1) (v := .pointer (some ⟨w.heap.size, 3, none⟩)) rfl (by kernel_rfl) (by kernel_rfl) (by kernel_rfl) (by kernel_rfl) (fun _ _ _ h => h) (.inl ⟨by kernel_rfl, fun w' hS => by kernel_rfl⟩) hS0 ?_
        refine wpAnyU_take2 (i := 2) (v := .bool true) rfl (by kernel_rfl) (by kernel_rfl) (by kernel_rfl) (by kernel_rfl) (fun _ _ _ h => h) (.inl ⟨by kernel_rfl, fun w' hS => by have s_ : w'.cell? ⟨w.heap.size, 3, none⟩ = some (.bool true) := (by rw [← HSM.out]; exact hS.1.2.2.cell' rfl); clear hS; go_simp⟩) hS0 ?_
        refine wpAnyU_take2 (i := 3) (v := .bool true) rfl (by kernel_rfl) (by kernel_rfl) (by kernel_rfl) (by kernel_rfl) (fun _ _ _ h => h) (.inl ⟨by kernel_rfl, fun w' hS => by kernel_rfl⟩) hS0 ?_
        refine wpAnyU_take2 (i := 4) (v := errV q2) rfl (by kernel_rfl) (by kernel_rfl) (by kernel_rfl) (by kernel_rfl) (fun _ _ _ h => h) (.inl ⟨by kernel_rfl, fun w' hS => by kernel_rfl⟩) hS0 ?_
        refine wpAnyU_take2 (i := 5) (v := .bool false) rfl (by kernel_rfl) (by kernel_rfl) (by kernel_rfl) (by kernel_rfl) (fun _ _ _ h => h) (.inl ⟨by kernel_rfl, fun w' hS => by kernel_rfl⟩) hS0 ?_
        refine wpAnyU_take2 (i := 6) (v := .bool false) rfl (by kernel_rfl) (by kernel_rfl) (by kernel_rfl) (by kernel_rfl) (fun _ _ _ h => h) (.inl ⟨by kernel_rfl, fun w' hS => by kernel_rfl⟩) hS0 ?_
        refine wpAnyU_take2 (i := 8) (v := .agg (azA (⟨false, 1, 0, 0, Vw.zero, none, 0⟩ : Az))) rfl (by kernel_rfl) (by kernel_rfl) (by kernel_rfl) (by kernel_rfl) (fun _ _ _ h => h) (.inl ⟨by kernel_rfl, fun w' hS => by kernel_rfl⟩) hS0 ?_
        refine wpAnyU_take2 (i := 9) (v := errV q) rfl (by kernel_rfl) (by kernel_rfl) (by kernel_rfl) (by kernel_rfl) (fun _ _ _ h => h) (.inl ⟨by kernel_rfl, fun w' hS => by kernel_rfl⟩) hS0 ?_
        refine wpAnyU_take2 (i := 10) (v := .bool false) rfl (by kernel_rfl) (by kernel_rfl) (by kernel_rfl) (by kernel_rfl) (fun _ _ _ h => h) (.inl ⟨by kernel_rfl, fun w' hS => by kernel_rfl⟩) hS0 ?_
        clear hS0
        refine wpAnyU_name7 ?_
        intro a_ ha
        have HA := hid_ ha
        clear ha
        refine wpAnyU_one7 (i := 11) rfl rfl (by kernel_rfl) ?_
        refine wp_store_mid 45 (.tmp 2) (.tmp 24) rfl (w.heap.size + 1) 0 (pgZ) (by rw [HA.out]; kernel_rfl) (by rw [HA.out]; kernel_rfl) (B2.out.drew.there7 rfl) page_size (by simp [Value.oneCell']) ?_
        have ov := B2.out.drew.over7 (pgZ).toList rfl
        obtain ⟨w5, hw5⟩ : ∃ z, z = w4.drew.setCells (w.heap.size + 1) 0 (pgZ).toList := ⟨_, rfl⟩
        rw [← hw5] at ov ⊢
        clear hw5
        have OV := hid_ ov
        clear ov
        have S5 := hid_ (And.intro (And.intro (BP.out.drew.fr OV.out.2 (only_ne (by omega))) (And.intro (P4.out.1.drew.fr OV.out.2 (only_ne (by omega))) (BC.out.drew.fr OV.out.2 (only_ne (by omega))))) (F.out.drew.then_only OV.out.2 (.inr (by omega))))
        have C5 := hid_ (B3.out.drew.fr OV.out.2 (only_ne (by omega)))
        refine ⟨.inr S5.out, ?_⟩
        refine wpAnyU_one7 (i := 12) rfl rfl (by kernel_rfl) ?_
        refine wp_store_mid 77 (.tmp 3) (.tmp 32) rfl (w.heap.size + 1 + 1) 0 (azA (⟨false, 1, 0, 0, Vw.zero, none, 0⟩ : Az)) (by rw [HA.out]; kernel_rfl) (by rw [HA.out]; kernel_rfl) (C5.out.there7 rfl) above_size7 (by simp [Value.oneCell']) ?_
        have ov := C5.out.over7 (azA (⟨false, 1, 0, 0, Vw.zero, none, 0⟩ : Az)).toList rfl
        obtain ⟨w6, hw6⟩ : ∃ z, z = w5.setCells (w.heap.size + 1 + 1) 0 (azA (⟨false, 1, 0, 0, Vw.zero, none, 0⟩ : Az)).toList := ⟨_, rfl⟩
        rw [← hw6] at ov ⊢
        clear hw6
        have OW := hid_ ov
        clear ov
        have S6 := hid_ (And.intro (And.intro (S5.out.1.1.fr OW.out.2 (only_ne (by omega))) (And.intro (S5.out.1.2.1.fr OW.out.2 (only_ne (by omega))) (S5.out.1.2.2.fr OW.out.2 (only_ne (by omega))))) (S5.out.2.then_only OW.out.2 (.inr (by omega))))
        have D6 := hid_ (OV.out.1.fr OW.out.2 (only_ne (by omega)))
        refine ⟨.inr S6.out, ?_⟩
        refine wpAnyU_take2 (i := 13) (v := .bool false) rfl (by kernel_rfl) (by kernel_rfl) (by kernel_rfl) (by kernel_rfl) (fun _ _ _ h => h) (.inl ⟨rfl, fun w' hS => by rw [HA.out]; kernel_rfl⟩) S6.out ?_
        refine wpAnyU_name7 ?_
        intro b_ hb
        have HB := hid_ hb
        clear hb
        have Q2 : b_.tmps.getD 2 undef = .pointer (some ⟨w.heap.size + 1, 0, none⟩) := by rw [HB.out, HA.out]; kernel_rfl
        have Q3 : b_.tmps.getD 3 undef = .pointer (some ⟨w.heap.size + 1 + 1, 0, none⟩) := by rw [HB.out, HA.out]; kernel_rfl
        have Q4 : b_.tmps.getD 4 undef = .bool false := by rw [HB.out, HA.out]; kernel_rfl
        have QD : b_.defers = [] := by rw [HB.out, HA.out]; kernel_rfl
        clear HA HB
        refine wpAnyU_done (by kernel_rfl) ?_ _
        go_wp2
        refine bodyPost_ret (results_cell_cell_tmp7 b_.tmps w6 rfl (w.heap.size + 1) 0 (pgZ).toList _ Q2 (Blk.range7 (l := (pgZ).toList) D6.out) Try.underlying45 rfl page_size (w.heap.size + 1 + 1) 0 (azA (⟨false, 1, 0, 0, Vw.zero, none, 0⟩ : Az)).toList _ Q3 (Blk.range7 (l := (azA (⟨false, 1, 0, 0, Vw.zero, none, 0⟩ : Az)).toList) OW.out.1) Try.underlying77 rfl above_size7) QD ⟨pgZ, (⟨false, 1, 0, 0, Vw.zero, none, 0⟩ : Az), false, (by rw [Q4]), rfl, by simp [Value.oneCell'], ?_, (fun h => by cases h), S6.out.2, ?_⟩
        · exact VwIn.zero _
        · exact fun h => by cases h
end Go.Proofs.Ytpjbncbmdfmlpaa

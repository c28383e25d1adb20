/- PlanDecides returns true for every c. Conditions: none. -/
import Derived.Test.YtpjbncbmdfmlpaaRows
import Derived.Test.YtpjbncbmdfmlpaaMkE
import Derived.Test.YtpjbncbmdfmlpaaMkH
import Derived.Test.YtpjbncbmdfmlpaaMkJ
import Derived.Test.YtpjbncbmdfmlpaaMkK
namespace Go.Proofs.Ytpjbncbmdfmlpaa
open Go.RowKit Go.BigFrame
set_option maxRecDepth 100000
set_option linter.unusedVariables false

/-- What made tells, with when the page above is there. -/
def MadePost11s (c : Cz) (L1 L2 : List Ch) (w : World) (e : Ending) (w' : World) : Prop :=
  ∃ (pv : Array Value) (a : Az) (ok : Bool), e = .returned (.tuple #[.agg pv, .agg (azA a), .bool ok]) ∧ pv.size = 21 ∧ pv.all (·.oneCell') = true ∧ VwIn w' a.V a.B a.d ∧ (a.some_ = true → foldU (L2.map (·.R)) = some a.V) ∧ Fr none_ w w' ∧
    (ok = true → ∃ P : Pz, pv = pzA P ∧ PzOk w' P ∧ P.n = c.n ∧ P.nc = L1.length ∧ ofM (L1.map (·.R)) = some (P.leaf, P.lv, P.iv)) ∧ a.some_ = (c.some_ && (foldU (L2.map (·.R))).isSome)
set_option maxHeartbeats 8000000 in
theorem made11s_ok (c : Cz) (L1 L2 : List Ch) (w : World) (h : CzIn w c L1 L2) (hf : CzFew c L1 L2) : Calls Try.prog 30 #[.agg (czA c)] w (MadePost11s c L1 L2 w) := by
  obtain ⟨w0, hw0⟩ : ∃ z, z = ((w.alloc (.cells (czA c) 75)).alloc (.cells pgZ 45)).alloc (.cells azZ 77) := ⟨_, rfl⟩
  have f0 : Fr none_ w w0 := by rw [hw0]; exact (((Fr.refl none_ w).alloc _).alloc _).alloc _
  have BC : Hid (Blk w0 w.heap.size 75 (czA c)) := hid_ (by rw [hw0]; exact ((Blk.new w _ _).alloc _).alloc _)
  have B2 : Hid (Blk w0 (w.heap.size + 1) 45 pgZ) := hid_ (by rw [hw0]; exact (Blk.new7 _ _ (by simp)).alloc _)
  have B3 : Hid (Blk w0 (w.heap.size + 1 + 1) 77 azZ) := hid_ (by rw [hw0]; exact Blk.new7 _ _ (by simp))
  have F := hid_ f0
  have H := hid_ (h.keep f0)
  have HF := hid_ hf
  have hso := B3.out.lt
  have hn1 : c.n1 ≤ 40 := by have := h.i1.1; have := hf.a.1; omega
  have hn2 : c.n2 ≤ 40 := by have := h.i2.1; have := hf.c.1; omega
  clear f0 h hf
  go_enter Try.func30, Try.ntmps30
  go_upto_region 1 with fail
  change Code.wp _ _ _ _ (((w.alloc (.cells (czA c) 75)).alloc (.cells pgZ 45)).alloc (.cells azZ 77))
  rw [← hw0]
  clear hw0
  have v0 : w0.cell? ⟨w.heap.size, 0, none⟩ = some (.int .i64 c.n) := BC.out.cell' rfl
  have v1 : w0.cell? ⟨w.heap.size, 1, none⟩ = some (.slice c.A1 c.n1 c.c1) := BC.out.cell' rfl
  go_wp2_with fail
  refine (of_ok c.n 1 1 c.A1 c.n1 c.c1 L1 [] none 0 w0 (H.out.i1.few (few_ents HF.out.b)) (by omega) (few_rows HF.out.a H.out.r1) (fun C hC => by have := few_ents HF.out.b C hC; omega) Reads.nil_ (by simp)).mono ?_
  rintro e w1 (⟨leaf, lv, iv, A, cc, B, d, C, x, D, y, hof, rfl, hpg, hf1⟩ | ⟨q, hq, hof, rfl, hf1⟩)
  · have HOF := hid_ hof
    have VI1 := hid_ hpg.iv
    have LI1 := hid_ hpg.lv
    obtain ⟨P, hP⟩ : ∃ P : Pz, P = ⟨c.n, 1, 1, C, L1.length, x, .slice D 0 y, leaf, lv, A, cc, iv, B, d⟩ := ⟨_, rfl⟩
    have HPE := hid_ hP
    have HALL : Hid ((pzA P).all (·.oneCell') = true) := hid_ (by rw [hP]; simp [Value.oneCell'])
    have POK : Hid (∀ w', Fr none_ w1 w' → PzOk w' P) := hid_ (fun w' hf => by rw [hP]; exact ⟨LI1.out.ok.low, LI1.out.ok.high, LI1.out.ok.rows.1, VI1.out.keep hf, by have := HF.out.a.1; show L1.length ≤ 4000; omega⟩)
    clear hof hpg hP
    replace F := hid_ (F.out.then_none hf1)
    replace BC := hid_ (BC.out.fr hf1 id)
    replace B2 := hid_ (B2.out.fr hf1 id)
    replace B3 := hid_ (B3.out.fr hf1 id)
    replace H := hid_ (H.out.keep hf1)
    have hsq1 := B3.out.lt
    clear hf1 v0 v1
    go_upto_region 2 with (refine wpList_store_mid rfl 45 (.tmp 5) (.tmp 16) rfl w1.heap.size 0 (pzA P) rfl (by rw [HPE.out]; rfl) (new_there w1 _ pgZ) page_size HALL.out ?_; obtain ⟨w2, hw2⟩ : ∃ z, z = (w1.alloc (.cells pgZ 45)).setCells w1.heap.size 0 (pzA P).toList := ⟨_, rfl⟩; change wpList _ _ _ _ _ ((w1.alloc (.cells pgZ 45)).setCells w1.heap.size 0 (pzA P).toList); rw [← hw2]; have P2 : Hid (Blk w2 w1.heap.size 45 (pzA P) ∧ Fr none_ w1 w2) := hid_ (by rw [hw2]; exact new_copy w1 _ pgZ (pzA P).toList rfl); clear hw2)
    have F12 := hid_ P2.out.2
    replace F := hid_ (F.out.then_none P2.out.2)
    replace BC := hid_ (BC.out.fr P2.out.2 id)
    replace B2 := hid_ (B2.out.fr P2.out.2 id)
    replace B3 := hid_ (B3.out.fr P2.out.2 id)
    replace H := hid_ (H.out.keep P2.out.2)
    have hs2 := P2.out.1.lt
    have v2 : w2.cell? ⟨w.heap.size, 2, none⟩ = some (.slice c.A2 c.n2 c.c2) := BC.out.cell' rfl
    go_wp2_with fail
    refine (fold_ok c.A2 c.n2 c.c2 L2 w2 (H.out.i2.few (few_ents HF.out.d)) (by omega) (fun C hC => by have := few_ents HF.out.d C hC; omega)).mono ?_
    rintro e w3 (⟨V, B', d', hkd, hfo, rfl, hvin, hheld, hf3⟩ | ⟨q2, hq2, hno, rfl, hf3⟩)
    · have BP := hid_ (P2.out.1.fr hf3 id)
      have F13 := hid_ (F12.out.then_none hf3)
      have VI := hid_ hvin
      have HFO := hid_ hfo
      replace F := hid_ (F.out.then_none hf3)
      replace BC := hid_ (BC.out.fr hf3 id)
      replace B2 := hid_ (B2.out.fr hf3 id)
      replace B3 := hid_ (B3.out.fr hf3 id)
      replace H := hid_ (H.out.keep hf3)
      have hsq3 := B3.out.lt
      clear v2 hf3 hkd hfo hvin hheld
      go_upto_region 3 with (refine wpList_store_mid rfl 43 (.tmp 7) (.tmp 22) rfl w3.heap.size 0 (vwA V (.slice B' V.ents.length d')) rfl rfl (new_there w3 _ vwZ) view_size7 (by simp [Value.oneCell']) ?_; obtain ⟨w4, hw4⟩ : ∃ z, z = (w3.alloc (.cells vwZ 43)).setCells w3.heap.size 0 (vwA V (.slice B' V.ents.length d')).toList := ⟨_, rfl⟩; change wpList _ _ _ _ _ ((w3.alloc (.cells vwZ 43)).setCells w3.heap.size 0 (vwA V (.slice B' V.ents.length d')).toList); rw [← hw4]; have P4 : Hid (Blk w4 w3.heap.size 43 (vwA V (.slice B' V.ents.length d')) ∧ Fr none_ w3 w4) := hid_ (by rw [hw4]; exact new_copy w3 _ vwZ (vwA V (.slice B' V.ents.length d')).toList rfl); clear hw4)
      replace F := hid_ (F.out.then_none P4.out.2)
      replace BC := hid_ (BC.out.fr P4.out.2 id)
      replace B2 := hid_ (B2.out.fr P4.out.2 id)
      replace B3 := hid_ (B3.out.fr P4.out.2 id)
      replace H := hid_ (H.out.keep P4.out.2)
      have F14 := hid_ (F13.out.then_none P4.out.2)
      replace BP := hid_ (BP.out.fr P4.out.2 id)
      have hs4 := P4.out.1.lt
      have hso4 := B3.out.lt
      cases hsm : c.some_ with
      | false =>
        have HSM := hid_ hsm
        clear hsm
        have hS0 : (fun w' : World => (Blk w' w1.heap.size 45 (pzA P) ∧ Blk w' w3.heap.size 43 (vwA V (.slice B' V.ents.length d')) ∧ Blk w' w.heap.size 75 (czA c)) ∧ Fr none_ w w') w4.drew := ⟨⟨BP.out.drew, P4.out.1.drew, BC.out.drew⟩, F.out.drew⟩
        refine wp_region_U (m := 14) (S := fun w' : World => (Blk w' w1.heap.size 45 (pzA P) ∧ Blk w' w3.heap.size 43 (vwA V (.slice B' V.ents.length d')) ∧ Blk w' w.heap.size 75 (czA c)) ∧ Fr none_ w w') (by kernel_rfl) ?_
        refine wpAnyU_take2 (i := 0) (v := _) rfl (by kernel_rfl) (by kernel_rfl) (by kernel_rfl) (by kernel_rfl) (fun _ _ _ h => h) (yieldsIf_load_mid (by kernel_rfl) 45 (.tmp 5) rfl w1.heap.size 0 rfl (pzA P).toList _ (fun w' hS i v hv => Blk.range7 (l := (pzA P).toList) hS.1.1 i v hv) Try.underlying45 rfl page_size) hS0 ?_
        refine wpAnyU_take2 (i := 7) (v := _) rfl (by kernel_rfl) (by kernel_rfl) (by kernel_rfl) (by kernel_rfl) (fun _ _ _ h => h) (yieldsIf_load_mid (by kernel_rfl) 43 (.tmp 7) rfl w3.heap.size 0 (by kernel_rfl) ((vwA V (.slice B' V.ents.length d')) : Array Value).toList _ (fun w' hS i v hv => Blk.range7 (l := ((vwA V (.slice B' V.ents.length d')) : Array Value).toList) hS.1.2.1 i v hv) Try.underlying43 rfl view_size7) hS0 ?_
        refine wpAnyU_take2 (i := 1) (v := .pointer (some ⟨w.heap.size, 3, none⟩)) rfl (by kernel_rfl) (by kernel_rfl) (by kernel_rfl) (by kernel_rfl) (fun _ _ _ h => h) (.inl ⟨by kernel_rfl, fun w' hS => by kernel_rfl⟩) hS0 ?_
        refine wpAnyU_take2 (i := 2) (v := .bool false) rfl (by kernel_rfl) (by kernel_rfl) (by kernel_rfl) (by kernel_rfl) (fun _ _ _ h => h) (.inl ⟨by kernel_rfl, fun w' hS => by have s_ : w'.cell? ⟨w.heap.size, 3, none⟩ = some (.bool false) := (by rw [← HSM.out]; exact hS.1.2.2.cell' rfl); clear hS; go_simp⟩) hS0 ?_
        refine wpAnyU_take2 (i := 3) (v := .bool false) rfl (by kernel_rfl) (by kernel_rfl) (by kernel_rfl) (by kernel_rfl) (fun _ _ _ h => h) (.inl ⟨by kernel_rfl, fun w' hS => by kernel_rfl⟩) hS0 ?_
        refine wpAnyU_take2 (i := 4) (v := undef) rfl (by kernel_rfl) (by kernel_rfl) (by kernel_rfl) (by kernel_rfl) (fun _ _ _ h => h) (.inr ⟨by kernel_rfl, rfl⟩) hS0 ?_
        refine wpAnyU_take2 (i := 5) (v := undef) rfl (by kernel_rfl) (by kernel_rfl) (by kernel_rfl) (by kernel_rfl) (fun _ _ _ h => h) (.inr ⟨by kernel_rfl, rfl⟩) hS0 ?_
        refine wpAnyU_take2 (i := 6) (v := .bool false) rfl (by kernel_rfl) (by kernel_rfl) (by kernel_rfl) (by kernel_rfl) (fun _ _ _ h => h) (.inl ⟨by kernel_rfl, fun w' hS => by kernel_rfl⟩) hS0 ?_
        refine wpAnyU_take2 (i := 8) (v := .agg (azA (⟨false, 1, 0, 0, V, B', d'⟩ : Az))) rfl (by kernel_rfl) (by kernel_rfl) (by kernel_rfl) (by kernel_rfl) (fun _ _ _ h => h) (.inl ⟨by kernel_rfl, fun w' hS => by kernel_rfl⟩) hS0 ?_
        refine wpAnyU_take2 (i := 9) (v := .nilIface) rfl (by kernel_rfl) (by kernel_rfl) (by kernel_rfl) (by kernel_rfl) (fun _ _ _ h => h) (.inl ⟨by kernel_rfl, fun w' hS => by kernel_rfl⟩) hS0 ?_
        refine wpAnyU_take2 (i := 10) (v := .bool true) rfl (by kernel_rfl) (by kernel_rfl) (by kernel_rfl) (by kernel_rfl) (fun _ _ _ h => h) (.inl ⟨by kernel_rfl, fun w' hS => by kernel_rfl⟩) hS0 ?_
        clear hS0
        refine wpAnyU_name7 ?_
        intro a_ ha
        have HA := hid_ ha
        clear ha
        refine wpAnyU_one7 (i := 11) rfl rfl (by kernel_rfl) ?_
        refine wp_store_mid 45 (.tmp 2) (.tmp 24) rfl (w.heap.size + 1) 0 (pzA P) (by rw [HA.out]; kernel_rfl) (by rw [HA.out]; kernel_rfl) (B2.out.drew.there7 rfl) page_size HALL.out ?_
        have ov := B2.out.drew.over7 (pzA P).toList rfl
        obtain ⟨w5, hw5⟩ : ∃ z, z = w4.drew.setCells (w.heap.size + 1) 0 (pzA P).toList := ⟨_, rfl⟩
        rw [← hw5] at ov ⊢
        clear hw5
        have OV := hid_ ov
        clear ov
        have S5 := hid_ (And.intro (And.intro (BP.out.drew.fr OV.out.2 (only_ne (by omega))) (And.intro (P4.out.1.drew.fr OV.out.2 (only_ne (by omega))) (BC.out.drew.fr OV.out.2 (only_ne (by omega))))) (F.out.drew.then_only OV.out.2 (.inr (by omega))))
        have C5 := hid_ (B3.out.drew.fr OV.out.2 (only_ne (by omega)))
        refine ⟨.inr S5.out, ?_⟩
        refine wpAnyU_one7 (i := 12) rfl rfl (by kernel_rfl) ?_
        refine wp_store_mid 77 (.tmp 3) (.tmp 32) rfl (w.heap.size + 1 + 1) 0 (azA (⟨false, 1, 0, 0, V, B', d'⟩ : Az)) (by rw [HA.out]; kernel_rfl) (by rw [HA.out]; kernel_rfl) (C5.out.there7 rfl) above_size7 (by simp [Value.oneCell']) ?_
        have ov := C5.out.over7 (azA (⟨false, 1, 0, 0, V, B', d'⟩ : Az)).toList rfl
        obtain ⟨w6, hw6⟩ : ∃ z, z = w5.setCells (w.heap.size + 1 + 1) 0 (azA (⟨false, 1, 0, 0, V, B', d'⟩ : Az)).toList := ⟨_, rfl⟩
        rw [← hw6] at ov ⊢
        clear hw6
        have OW := hid_ ov
        clear ov
        have S6 := hid_ (And.intro (And.intro (S5.out.1.1.fr OW.out.2 (only_ne (by omega))) (And.intro (S5.out.1.2.1.fr OW.out.2 (only_ne (by omega))) (S5.out.1.2.2.fr OW.out.2 (only_ne (by omega))))) (S5.out.2.then_only OW.out.2 (.inr (by omega))))
        have D6 := hid_ (OV.out.1.fr OW.out.2 (only_ne (by omega)))
        refine ⟨.inr S6.out, ?_⟩
        refine wpAnyU_take2 (i := 13) (v := .bool true) rfl (by kernel_rfl) (by kernel_rfl) (by kernel_rfl) (by kernel_rfl) (fun _ _ _ h => h) (.inl ⟨rfl, fun w' hS => by rw [HA.out]; kernel_rfl⟩) S6.out ?_
        refine wpAnyU_name7 ?_
        intro b_ hb
        have HB := hid_ hb
        clear hb
        have Q2 : b_.tmps.getD 2 undef = .pointer (some ⟨w.heap.size + 1, 0, none⟩) := by rw [HB.out, HA.out]; kernel_rfl
        have Q3 : b_.tmps.getD 3 undef = .pointer (some ⟨w.heap.size + 1 + 1, 0, none⟩) := by rw [HB.out, HA.out]; kernel_rfl
        have Q4 : b_.tmps.getD 4 undef = .bool true := by rw [HB.out, HA.out]; kernel_rfl
        have QD : b_.defers = [] := by rw [HB.out, HA.out]; kernel_rfl
        clear HA HB
        refine wpAnyU_done (by kernel_rfl) ?_ _
        go_wp2
        refine bodyPost_ret (results_cell_cell_tmp7 b_.tmps w6 rfl (w.heap.size + 1) 0 (pzA P).toList _ Q2 (Blk.range7 (l := (pzA P).toList) D6.out) Try.underlying45 rfl page_size (w.heap.size + 1 + 1) 0 (azA (⟨false, 1, 0, 0, V, B', d'⟩ : Az)).toList _ Q3 (Blk.range7 (l := (azA (⟨false, 1, 0, 0, V, B', d'⟩ : Az)).toList) OW.out.1) Try.underlying77 rfl above_size7) QD ⟨pzA P, (⟨false, 1, 0, 0, V, B', d'⟩ : Az), true, (by rw [Q4]), rfl, HALL.out, ?_, (fun h => by cases h), S6.out.2, ?_, ?_⟩
        · exact (((VI.out.keep P4.out.2).keep (Fr.refl none_ w4).drew).farZ B2.out.drew OV.out.2).farA C5.out OW.out.2
        · exact fun _ => ⟨P, rfl, (by have h4 := POK.out w4.drew F14.out.drew; exact ⟨h4.low, h4.high, h4.rows, (h4.iv.farZ B2.out.drew OV.out.2).farA C5.out OW.out.2, h4.nc⟩), by rw [HPE.out], by rw [HPE.out], by rw [HPE.out]; exact HOF.out⟩
        · show false = (c.some_ && (foldU (L2.map (·.R))).isSome)
          simp [HSM.out, HFO.out]
      | true =>
        have HSM := hid_ hsm
        clear hsm
        have hS0 : (fun w' : World => (Blk w' w1.heap.size 45 (pzA P) ∧ Blk w' w3.heap.size 43 (vwA V (.slice B' V.ents.length d')) ∧ Blk w' w.heap.size 75 (czA c)) ∧ Fr none_ w w') w4.drew := ⟨⟨BP.out.drew, P4.out.1.drew, BC.out.drew⟩, F.out.drew⟩
        refine wp_region_U (m := 14) (S := fun w' : World => (Blk w' w1.heap.size 45 (pzA P) ∧ Blk w' w3.heap.size 43 (vwA V (.slice B' V.ents.length d')) ∧ Blk w' w.heap.size 75 (czA c)) ∧ Fr none_ w w') (by kernel_rfl) ?_
        refine wpAnyU_take2 (i := 0) (v := _) rfl (by kernel_rfl) (by kernel_rfl) (by kernel_rfl) (by kernel_rfl) (fun _ _ _ h => h) (yieldsIf_load_mid (by kernel_rfl) 45 (.tmp 5) rfl w1.heap.size 0 rfl (pzA P).toList _ (fun w' hS i v hv => Blk.range7 (l := (pzA P).toList) hS.1.1 i v hv) Try.underlying45 rfl page_size) hS0 ?_
        refine wpAnyU_take2 (i := 7) (v := _) rfl (by kernel_rfl) (by kernel_rfl) (by kernel_rfl) (by kernel_rfl) (fun _ _ _ h => h) (yieldsIf_load_mid (by kernel_rfl) 43 (.tmp 7) rfl w3.heap.size 0 (by kernel_rfl) ((vwA V (.slice B' V.ents.length d')) : Array Value).toList _ (fun w' hS i v hv => Blk.range7 (l := ((vwA V (.slice B' V.ents.length d')) : Array Value).toList) hS.1.2.1 i v hv) Try.underlying43 rfl view_size7) hS0 ?_
        refine wpAnyU_take2 (i := 1) (v := .pointer (some ⟨w.heap.size, 3, none⟩)) rfl (by kernel_rfl) (by kernel_rfl) (by kernel_rfl) (by kernel_rfl) (fun _ _ _ h => h) (.inl ⟨by kernel_rfl, fun w' hS => by kernel_rfl⟩) hS0 ?_
        refine wpAnyU_take2 (i := 2) (v := .bool true) rfl (by kernel_rfl) (by kernel_rfl) (by kernel_rfl) (by kernel_rfl) (fun _ _ _ h => h) (.inl ⟨by kernel_rfl, fun w' hS => by have s_ : w'.cell? ⟨w.heap.size, 3, none⟩ = some (.bool true) := (by rw [← HSM.out]; exact hS.1.2.2.cell' rfl); clear hS; go_simp⟩) hS0 ?_
        refine wpAnyU_take2 (i := 3) (v := .bool true) rfl (by kernel_rfl) (by kernel_rfl) (by kernel_rfl) (by kernel_rfl) (fun _ _ _ h => h) (.inl ⟨by kernel_rfl, fun w' hS => by kernel_rfl⟩) hS0 ?_
        refine wpAnyU_take2 (i := 4) (v := .nilIface) rfl (by kernel_rfl) (by kernel_rfl) (by kernel_rfl) (by kernel_rfl) (fun _ _ _ h => h) (.inl ⟨by kernel_rfl, fun w' hS => by kernel_rfl⟩) hS0 ?_
        refine wpAnyU_take2 (i := 5) (v := .bool true) rfl (by kernel_rfl) (by kernel_rfl) (by kernel_rfl) (by kernel_rfl) (fun _ _ _ h => h) (.inl ⟨by kernel_rfl, fun w' hS => by kernel_rfl⟩) hS0 ?_
        refine wpAnyU_take2 (i := 6) (v := .bool true) rfl (by kernel_rfl) (by kernel_rfl) (by kernel_rfl) (by kernel_rfl) (fun _ _ _ h => h) (.inl ⟨by kernel_rfl, fun w' hS => by kernel_rfl⟩) hS0 ?_
        refine wpAnyU_take2 (i := 8) (v := .agg (azA (⟨true, 1, 0, 0, V, B', d'⟩ : Az))) rfl (by kernel_rfl) (by kernel_rfl) (by kernel_rfl) (by kernel_rfl) (fun _ _ _ h => h) (.inl ⟨by kernel_rfl, fun w' hS => by kernel_rfl⟩) hS0 ?_
        refine wpAnyU_take2 (i := 9) (v := .nilIface) rfl (by kernel_rfl) (by kernel_rfl) (by kernel_rfl) (by kernel_rfl) (fun _ _ _ h => h) (.inl ⟨by kernel_rfl, fun w' hS => by kernel_rfl⟩) hS0 ?_
        refine wpAnyU_take2 (i := 10) (v := .bool true) rfl (by kernel_rfl) (by kernel_rfl) (by kernel_rfl) (by kernel_rfl) (fun _ _ _ h => h) (.inl ⟨by kernel_rfl, fun w' hS => by kernel_rfl⟩) hS0 ?_
        clear hS0
        refine wpAnyU_name7 ?_
        intro a_ ha
        have HA := hid_ ha
        clear ha
        refine wpAnyU_one7 (i := 11) rfl rfl (by kernel_rfl) ?_
        refine wp_store_mid 45 (.tmp 2) (.tmp 24) rfl (w.heap.size + 1) 0 (pzA P) (by rw [HA.out]; kernel_rfl) (by rw [HA.out]; kernel_rfl) (B2.out.drew.there7 rfl) page_size HALL.out ?_
        have ov := B2.out.drew.over7 (pzA P).toList rfl
        obtain ⟨w5, hw5⟩ : ∃ z, z = w4.drew.setCells (w.heap.size + 1) 0 (pzA P).toList := ⟨_, rfl⟩
        rw [← hw5] at ov ⊢
        clear hw5
        have OV := hid_ ov
        clear ov
        have S5 := hid_ (And.intro (And.intro (BP.out.drew.fr OV.out.2 (only_ne (by omega))) (And.intro (P4.out.1.drew.fr OV.out.2 (only_ne (by omega))) (BC.out.drew.fr OV.out.2 (only_ne (by omega))))) (F.out.drew.then_only OV.out.2 (.inr (by omega))))
        have C5 := hid_ (B3.out.drew.fr OV.out.2 (only_ne (by omega)))
        refine ⟨.inr S5.out, ?_⟩
        refine wpAnyU_one7 (i := 12) rfl rfl (by kernel_rfl) ?_
        refine wp_store_mid 77 (.tmp 3) (.tmp 32) rfl (w.heap.size + 1 + 1) 0 (azA (⟨true, 1, 0, 0, V, B', d'⟩ : Az)) (by rw [HA.out]; kernel_rfl) (by rw [HA.out]; kernel_rfl) (C5.out.there7 rfl) above_size7 (by simp [Value.oneCell']) ?_
        have ov := C5.out.over7 (azA (⟨true, 1, 0, 0, V, B', d'⟩ : Az)).toList rfl
        obtain ⟨w6, hw6⟩ : ∃ z, z = w5.setCells (w.heap.size + 1 + 1) 0 (azA (⟨true, 1, 0, 0, V, B', d'⟩ : Az)).toList := ⟨_, rfl⟩
        rw [← hw6] at ov ⊢
        clear hw6
        have OW := hid_ ov
        clear ov
        have S6 := hid_ (And.intro (And.intro (S5.out.1.1.fr OW.out.2 (only_ne (by omega))) (And.intro (S5.out.1.2.1.fr OW.out.2 (only_ne (by omega))) (S5.out.1.2.2.fr OW.out.2 (only_ne (by omega))))) (S5.out.2.then_only OW.out.2 (.inr (by omega))))
        have D6 := hid_ (OV.out.1.fr OW.out.2 (only_ne (by omega)))
        refine ⟨.inr S6.out, ?_⟩
        refine wpAnyU_take2 (i := 13) (v := .bool true) rfl (by kernel_rfl) (by kernel_rfl) (by kernel_rfl) (by kernel_rfl) (fun _ _ _ h => h) (.inl ⟨rfl, fun w' hS => by rw [HA.out]; kernel_rfl⟩) S6.out ?_
        refine wpAnyU_name7 ?_
        intro b_ hb
        have HB := hid_ hb
        clear hb
        have Q2 : b_.tmps.getD 2 undef = .pointer (some ⟨w.heap.size + 1, 0, none⟩) := by rw [HB.out, HA.out]; kernel_rfl
        have Q3 : b_.tmps.getD 3 undef = .pointer (some ⟨w.heap.size + 1 + 1, 0, none⟩) := by rw [HB.out, HA.out]; kernel_rfl
        have Q4 : b_.tmps.getD 4 undef = .bool true := by rw [HB.out, HA.out]; kernel_rfl
        have QD : b_.defers = [] := by rw [HB.out, HA.out]; kernel_rfl
        clear HA HB
        refine wpAnyU_done (by kernel_rfl) ?_ _
        go_wp2
        refine bodyPost_ret (results_cell_cell_tmp7 b_.tmps w6 rfl (w.heap.size + 1) 0 (pzA P).toList _ Q2 (Blk.range7 (l := (pzA P).toList) D6.out) Try.underlying45 rfl page_size (w.heap.size + 1 + 1) 0 (azA (⟨true, 1, 0, 0, V, B', d'⟩ : Az)).toList _ Q3 (Blk.range7 (l := (azA (⟨true, 1, 0, 0, V, B', d'⟩ : Az)).toList) OW.out.1) Try.underlying77 rfl above_size7) QD ⟨pzA P, (⟨true, 1, 0, 0, V, B', d'⟩ : Az), true, (by rw [Q4]), rfl, HALL.out, ?_, (fun _ => HFO.out), S6.out.2, ?_, ?_⟩
        · exact (((VI.out.keep P4.out.2).keep (Fr.refl none_ w4).drew).farZ B2.out.drew OV.out.2).farA C5.out OW.out.2
        · exact fun _ => ⟨P, rfl, (by have h4 := POK.out w4.drew F14.out.drew; exact ⟨h4.low, h4.high, h4.rows, (h4.iv.farZ B2.out.drew OV.out.2).farA C5.out OW.out.2, h4.nc⟩), by rw [HPE.out], by rw [HPE.out], by rw [HPE.out]; exact HOF.out⟩
        · show true = (c.some_ && (foldU (L2.map (·.R))).isSome)
          simp [HSM.out, HFO.out]
    · have BP := hid_ (P2.out.1.fr hf3 id)
      have F13 := hid_ (F12.out.then_none hf3)
      have HNO := hid_ (foldU_no hno)
      replace F := hid_ (F.out.then_none hf3)
      replace BC := hid_ (BC.out.fr hf3 id)
      replace B2 := hid_ (B2.out.fr hf3 id)
      replace B3 := hid_ (B3.out.fr hf3 id)
      replace H := hid_ (H.out.keep hf3)
      have hsq3 := B3.out.lt
      clear v2 hf3 hq2 hno
      go_upto_region 3 with (refine wpList_store_mid rfl 43 (.tmp 7) (.tmp 22) rfl w3.heap.size 0 (vwA Vw.zero (.slice none 0 0)) rfl rfl (new_there w3 _ vwZ) view_size7 (by simp [Value.oneCell']) ?_; obtain ⟨w4, hw4⟩ : ∃ z, z = (w3.alloc (.cells vwZ 43)).setCells w3.heap.size 0 (vwA Vw.zero (.slice none 0 0)).toList := ⟨_, rfl⟩; change wpList _ _ _ _ _ ((w3.alloc (.cells vwZ 43)).setCells w3.heap.size 0 (vwA Vw.zero (.slice none 0 0)).toList); rw [← hw4]; have P4 : Hid (Blk w4 w3.heap.size 43 (vwA Vw.zero (.slice none 0 0)) ∧ Fr none_ w3 w4) := hid_ (by rw [hw4]; exact new_copy w3 _ vwZ (vwA Vw.zero (.slice none 0 0)).toList rfl); clear hw4)
      replace F := hid_ (F.out.then_none P4.out.2)
      replace BC := hid_ (BC.out.fr P4.out.2 id)
      replace B2 := hid_ (B2.out.fr P4.out.2 id)
      replace B3 := hid_ (B3.out.fr P4.out.2 id)
      replace H := hid_ (H.out.keep P4.out.2)
      have F14 := hid_ (F13.out.then_none P4.out.2)
      replace BP := hid_ (BP.out.fr P4.out.2 id)
      have hs4 := P4.out.1.lt
      have hso4 := B3.out.lt
      cases hsm : c.some_ with
      | false =>
        have HSM := hid_ hsm
        clear hsm
        have hS0 : (fun w' : World => (Blk w' w1.heap.size 45 (pzA P) ∧ Blk w' w3.heap.size 43 (vwA Vw.zero (.slice none 0 0)) ∧ Blk w' w.heap.size 75 (czA c)) ∧ Fr none_ w w') w4.drew := ⟨⟨BP.out.drew, P4.out.1.drew, BC.out.drew⟩, F.out.drew⟩
        refine wp_region_U (m := 14) (S := fun w' : World => (Blk w' w1.heap.size 45 (pzA P) ∧ Blk w' w3.heap.size 43 (vwA Vw.zero (.slice none 0 0)) ∧ Blk w' w.heap.size 75 (czA c)) ∧ Fr none_ w w') (by kernel_rfl) ?_
        refine wpAnyU_take2 (i := 0) (v := _) rfl (by kernel_rfl) (by kernel_rfl) (by kernel_rfl) (by kernel_rfl) (fun _ _ _ h => h) (yieldsIf_load_mid (by kernel_rfl) 45 (.tmp 5) rfl w1.heap.size 0 rfl (pzA P).toList _ (fun w' hS i v hv => Blk.range7 (l := (pzA P).toList) hS.1.1 i v hv) Try.underlying45 rfl page_size) hS0 ?_
        refine wpAnyU_take2 (i := 7) (v := _) rfl (by kernel_rfl) (by kernel_rfl) (by kernel_rfl) (by kernel_rfl) (fun _ _ _ h => h) (yieldsIf_load_mid (by kernel_rfl) 43 (.tmp 7) rfl w3.heap.size 0 (by kernel_rfl) ((vwA Vw.zero (.slice none 0 0)) : Array Value).toList _ (fun w' hS i v hv => Blk.range7 (l := ((vwA Vw.zero (.slice none 0 0)) : Array Value).toList) hS.1.2.1 i v hv) Try.underlying43 rfl view_size7) hS0 ?_
        refine wpAnyU_take2 (i := 1) (v := .pointer (some ⟨w.heap.size, 3, none⟩)) rfl (by kernel_rfl) (by kernel_rfl) (by kernel_rfl) (by kernel_rfl) (fun _ _ _ h => h) (.inl ⟨by kernel_rfl, fun w' hS => by kernel_rfl⟩) hS0 ?_
        refine wpAnyU_take2 (i := 2) (v := .bool false) rfl (by kernel_rfl) (by kernel_rfl) (by kernel_rfl) (by kernel_rfl) (fun _ _ _ h => h) (.inl ⟨by kernel_rfl, fun w' hS => by have s_ : w'.cell? ⟨w.heap.size, 3, none⟩ = some (.bool false) := (by rw [← HSM.out]; exact hS.1.2.2.cell' rfl); clear hS; go_simp⟩) hS0 ?_
        refine wpAnyU_take2 (i := 3) (v := .bool false) rfl (by kernel_rfl) (by kernel_rfl) (by kernel_rfl) (by kernel_rfl) (fun _ _ _ h => h) (.inl ⟨by kernel_rfl, fun w' hS => by kernel_rfl⟩) hS0 ?_
        refine wpAnyU_take2 (i := 4) (v := undef) rfl (by kernel_rfl) (by kernel_rfl) (by kernel_rfl) (by kernel_rfl) (fun _ _ _ h => h) (.inr ⟨by kernel_rfl, rfl⟩) hS0 ?_
        refine wpAnyU_take2 (i := 5) (v := undef) rfl (by kernel_rfl) (by kernel_rfl) (by kernel_rfl) (by kernel_rfl) (fun _ _ _ h => h) (.inr ⟨by kernel_rfl, rfl⟩) hS0 ?_
        refine wpAnyU_take2 (i := 6) (v := .bool false) rfl (by kernel_rfl) (by kernel_rfl) (by kernel_rfl) (by kernel_rfl) (fun _ _ _ h => h) (.inl ⟨by kernel_rfl, fun w' hS => by kernel_rfl⟩) hS0 ?_
        refine wpAnyU_take2 (i := 8) (v := .agg (azA (⟨false, 1, 0, 0, Vw.zero, none, 0⟩ : Az))) rfl (by kernel_rfl) (by kernel_rfl) (by kernel_rfl) (by kernel_rfl) (fun _ _ _ h => h) (.inl ⟨by kernel_rfl, fun w' hS => by kernel_rfl⟩) hS0 ?_
        refine wpAnyU_take2 (i := 9) (v := .nilIface) rfl (by kernel_rfl) (by kernel_rfl) (by kernel_rfl) (by kernel_rfl) (fun _ _ _ h => h) (.inl ⟨by kernel_rfl, fun w' hS => by kernel_rfl⟩) hS0 ?_
        refine wpAnyU_take2 (i := 10) (v := .bool true) rfl (by kernel_rfl) (by kernel_rfl) (by kernel_rfl) (by kernel_rfl) (fun _ _ _ h => h) (.inl ⟨by kernel_rfl, fun w' hS => by kernel_rfl⟩) hS0 ?_
        clear hS0
        refine wpAnyU_name7 ?_
        intro a_ ha
        have HA := hid_ ha
        clear ha
        refine wpAnyU_one7 (i := 11) rfl rfl (by kernel_rfl) ?_
        refine wp_store_mid 45 (.tmp 2) (.tmp 24) rfl (w.heap.size + 1) 0 (pzA P) (by rw [HA.out]; kernel_rfl) (by rw [HA.out]; kernel_rfl) (B2.out.drew.there7 rfl) page_size HALL.out ?_
        have ov := B2.out.drew.over7 (pzA P).toList rfl
        obtain ⟨w5, hw5⟩ : ∃ z, z = w4.drew.setCells (w.heap.size + 1) 0 (pzA P).toList := ⟨_, rfl⟩
        rw [← hw5] at ov ⊢
        clear hw5
        have OV := hid_ ov
        clear ov
        have S5 := hid_ (And.intro (And.intro (BP.out.drew.fr OV.out.2 (only_ne (by omega))) (And.intro (P4.out.1.drew.fr OV.out.2 (only_ne (by omega))) (BC.out.drew.fr OV.out.2 (only_ne (by omega))))) (F.out.drew.then_only OV.out.2 (.inr (by omega))))
        have C5 := hid_ (B3.out.drew.fr OV.out.2 (only_ne (by omega)))
        refine ⟨.inr S5.out, ?_⟩
        refine wpAnyU_one7 (i := 12) rfl rfl (by kernel_rfl) ?_
        refine wp_store_mid 77 (.tmp 3) (.tmp 32) rfl (w.heap.size + 1 + 1) 0 (azA (⟨false, 1, 0, 0, Vw.zero, none, 0⟩ : Az)) (by rw [HA.out]; kernel_rfl) (by rw [HA.out]; kernel_rfl) (C5.out.there7 rfl) above_size7 (by simp [Value.oneCell']) ?_
        have ov := C5.out.over7 (azA (⟨false, 1, 0, 0, Vw.zero, none, 0⟩ : Az)).toList rfl
        obtain ⟨w6, hw6⟩ : ∃ z, z = w5.setCells (w.heap.size + 1 + 1) 0 (azA (⟨false, 1, 0, 0, Vw.zero, none, 0⟩ : Az)).toList := ⟨_, rfl⟩
        rw [← hw6] at ov ⊢
        clear hw6
        have OW := hid_ ov
        clear ov
        have S6 := hid_ (And.intro (And.intro (S5.out.1.1.fr OW.out.2 (only_ne (by omega))) (And.intro (S5.out.1.2.1.fr OW.out.2 (only_ne (by omega))) (S5.out.1.2.2.fr OW.out.2 (only_ne (by omega))))) (S5.out.2.then_only OW.out.2 (.inr (by omega))))
        have D6 := hid_ (OV.out.1.fr OW.out.2 (only_ne (by omega)))
        refine ⟨.inr S6.out, ?_⟩
        refine wpAnyU_take2 (i := 13) (v := .bool true) rfl (by kernel_rfl) (by kernel_rfl) (by kernel_rfl) (by kernel_rfl) (fun _ _ _ h => h) (.inl ⟨rfl, fun w' hS => by rw [HA.out]; kernel_rfl⟩) S6.out ?_
        refine wpAnyU_name7 ?_
        intro b_ hb
        have HB := hid_ hb
        clear hb
        have Q2 : b_.tmps.getD 2 undef = .pointer (some ⟨w.heap.size + 1, 0, none⟩) := by rw [HB.out, HA.out]; kernel_rfl
        have Q3 : b_.tmps.getD 3 undef = .pointer (some ⟨w.heap.size + 1 + 1, 0, none⟩) := by rw [HB.out, HA.out]; kernel_rfl
        have Q4 : b_.tmps.getD 4 undef = .bool true := by rw [HB.out, HA.out]; kernel_rfl
        have QD : b_.defers = [] := by rw [HB.out, HA.out]; kernel_rfl
        clear HA HB
        refine wpAnyU_done (by kernel_rfl) ?_ _
        go_wp2
        refine bodyPost_ret (results_cell_cell_tmp7 b_.tmps w6 rfl (w.heap.size + 1) 0 (pzA P).toList _ Q2 (Blk.range7 (l := (pzA P).toList) D6.out) Try.underlying45 rfl page_size (w.heap.size + 1 + 1) 0 (azA (⟨false, 1, 0, 0, Vw.zero, none, 0⟩ : Az)).toList _ Q3 (Blk.range7 (l := (azA (⟨false, 1, 0, 0, Vw.zero, none, 0⟩ : Az)).toList) OW.out.1) Try.underlying77 rfl above_size7) QD ⟨pzA P, (⟨false, 1, 0, 0, Vw.zero, none, 0⟩ : Az), true, (by rw [Q4]), rfl, HALL.out, ?_, (fun h => by cases h), S6.out.2, ?_, ?_⟩
        · exact VwIn.zero _
        · exact fun _ => ⟨P, rfl, (by have h4 := POK.out w4.drew F14.out.drew; exact ⟨h4.low, h4.high, h4.rows, (h4.iv.farZ B2.out.drew OV.out.2).farA C5.out OW.out.2, h4.nc⟩), by rw [HPE.out], by rw [HPE.out], by rw [HPE.out]; exact HOF.out⟩
        · show false = (c.some_ && (foldU (L2.map (·.R))).isSome)
          simp [HSM.out, HNO.out]
      | true =>
        have HSM := hid_ hsm
        clear hsm
        have hS0 : (fun w' : World => (Blk w' w1.heap.size 45 (pzA P) ∧ Blk w' w3.heap.size 43 (vwA Vw.zero (.slice none 0 0)) ∧ Blk w' w.heap.size 75 (czA c)) ∧ Fr none_ w w') w4.drew := ⟨⟨BP.out.drew, P4.out.1.drew, BC.out.drew⟩, F.out.drew⟩
        refine wp_region_U (m := 14) (S := fun w' : World => (Blk w' w1.heap.size 45 (pzA P) ∧ Blk w' w3.heap.size 43 (vwA Vw.zero (.slice none 0 0)) ∧ Blk w' w.heap.size 75 (czA c)) ∧ Fr none_ w w') (by kernel_rfl) ?_
        refine wpAnyU_take2 (i := 0) (v := _) rfl (by kernel_rfl) (by kernel_rfl) (by kernel_rfl) (by kernel_rfl) (fun _ _ _ h => h) (yieldsIf_load_mid (by kernel_rfl) 45 (.tmp 5) rfl w1.heap.size 0 rfl (pzA P).toList _ (fun w' hS i v hv => Blk.range7 (l := (pzA P).toList) hS.1.1 i v hv) Try.underlying45 rfl page_size) hS0 ?_
        refine wpAnyU_take2 (i := 7) (v := _) rfl (by kernel_rfl) (by kernel_rfl) (by kernel_rfl) (by kernel_rfl) (fun _ _ _ h => h) (yieldsIf_load_mid (by kernel_rfl) 43 (.tmp 7) rfl w3.heap.size 0 (by kernel_rfl) ((vwA Vw.zero (.slice none 0 0)) : Array Value).toList _ (fun w' hS i v hv => Blk.range7 (l := ((vwA Vw.zero (.slice none 0 0)) : Array Value).toList) hS.1.2.1 i v hv) Try.underlying43 rfl view_size7) hS0 ?_
        refine wpAnyU_take2 (i := 1) (v := .pointer (some ⟨w.heap.size, 3, none⟩)) rfl (by kernel_rfl) (by kernel_rfl) (by kernel_rfl) (by kernel_rfl) (fun _ _ _ h => h) (.inl ⟨by kernel_rfl, fun w' hS => by kernel_rfl⟩) hS0 ?_
        refine wpAnyU_take2 (i := 2) (v := .bool true) rfl (by kernel_rfl) (by kernel_rfl) (by kernel_rfl) (by kernel_rfl) (fun _ _ _ h => h) (.inl ⟨by kernel_rfl, fun w' hS => by have s_ : w'.cell? ⟨w.heap.size, 3, none⟩ = some (.bool true) := (by rw [← HSM.out]; exact hS.1.2.2.cell' rfl); clear hS; go_simp⟩) hS0 ?_
        refine wpAnyU_take2 (i := 3) (v := .bool true) rfl (by kernel_rfl) (by kernel_rfl) (by kernel_rfl) (by kernel_rfl) (fun _ _ _ h => h) (.inl ⟨by kernel_rfl, fun w' hS => by kernel_rfl⟩) hS0 ?_
        refine wpAnyU_take2 (i := 4) (v := errV q2) rfl (by kernel_rfl) (by kernel_rfl) (by kernel_rfl) (by kernel_rfl) (fun _ _ _ h => h) (.inl ⟨by kernel_rfl, fun w' hS => by kernel_rfl⟩) hS0 ?_
        refine wpAnyU_take2 (i := 5) (v := .bool false) rfl (by kernel_rfl) (by kernel_rfl) (by kernel_rfl) (by kernel_rfl) (fun _ _ _ h => h) (.inl ⟨by kernel_rfl, fun w' hS => by kernel_rfl⟩) hS0 ?_
        refine wpAnyU_take2 (i := 6) (v := .bool false) rfl (by kernel_rfl) (by kernel_rfl) (by kernel_rfl) (by kernel_rfl) (fun _ _ _ h => h) (.inl ⟨by kernel_rfl, fun w' hS => by kernel_rfl⟩) hS0 ?_
        refine wpAnyU_take2 (i := 8) (v := .agg (azA (⟨false, 1, 0, 0, Vw.zero, none, 0⟩ : Az))) rfl (by kernel_rfl) (by kernel_rfl) (by kernel_rfl) (by kernel_rfl) (fun _ _ _ h => h) (.inl ⟨by kernel_rfl, fun w' hS => by kernel_rfl⟩) hS0 ?_
        refine wpAnyU_take2 (i := 9) (v := .nilIface) rfl (by kernel_rfl) (by kernel_rfl) (by kernel_rfl) (by kernel_rfl) (fun _ _ _ h => h) (.inl ⟨by kernel_rfl, fun w' hS => by kernel_rfl⟩) hS0 ?_
        refine wpAnyU_take2 (i := 10) (v := .bool true) rfl (by kernel_rfl) (by kernel_rfl) (by kernel_rfl) (by kernel_rfl) (fun _ _ _ h => h) (.inl ⟨by kernel_rfl, fun w' hS => by kernel_rfl⟩) hS0 ?_
        clear hS0
        refine wpAnyU_name7 ?_
        intro a_ ha
        have HA := hid_ ha
        clear ha
        refine wpAnyU_one7 (i := 11) rfl rfl (by kernel_rfl) ?_
        refine wp_store_mid 45 (.tmp 2) (.tmp 24) rfl (w.heap.size + 1) 0 (pzA P) (by rw [HA.out]; kernel_rfl) (by rw [HA.out]; kernel_rfl) (B2.out.drew.there7 rfl) page_size HALL.out ?_
        have ov := B2.out.drew.over7 (pzA P).toList rfl
        obtain ⟨w5, hw5⟩ : ∃ z, z = w4.drew.setCells (w.heap.size + 1) 0 (pzA P).toList := ⟨_, rfl⟩
        rw [← hw5] at ov ⊢
        clear hw5
        have OV := hid_ ov
        clear ov
        have S5 := hid_ (And.intro (And.intro (BP.out.drew.fr OV.out.2 (only_ne (by omega))) (And.intro (P4.out.1.drew.fr OV.out.2 (only_ne (by omega))) (BC.out.drew.fr OV.out.2 (only_ne (by omega))))) (F.out.drew.then_only OV.out.2 (.inr (by omega))))
        have C5 := hid_ (B3.out.drew.fr OV.out.2 (only_ne (by omega)))
        refine ⟨.inr S5.out, ?_⟩
        refine wpAnyU_one7 (i := 12) rfl rfl (by kernel_rfl) ?_
        refine wp_store_mid 77 (.tmp 3) (.tmp 32) rfl (w.heap.size + 1 + 1) 0 (azA (⟨false, 1, 0, 0, Vw.zero, none, 0⟩ : Az)) (by rw [HA.out]; kernel_rfl) (by rw [HA.out]; kernel_rfl) (C5.out.there7 rfl) above_size7 (by simp [Value.oneCell']) ?_
        have ov := C5.out.over7 (azA (⟨false, 1, 0, 0, Vw.zero, none, 0⟩ : Az)).toList rfl
        obtain ⟨w6, hw6⟩ : ∃ z, z = w5.setCells (w.heap.size + 1 + 1) 0 (azA (⟨false, 1, 0, 0, Vw.zero, none, 0⟩ : Az)).toList := ⟨_, rfl⟩
        rw [← hw6] at ov ⊢
        clear hw6
        have OW := hid_ ov
        clear ov
        have S6 := hid_ (And.intro (And.intro (S5.out.1.1.fr OW.out.2 (only_ne (by omega))) (And.intro (S5.out.1.2.1.fr OW.out.2 (only_ne (by omega))) (S5.out.1.2.2.fr OW.out.2 (only_ne (by omega))))) (S5.out.2.then_only OW.out.2 (.inr (by omega))))
        have D6 := hid_ (OV.out.1.fr OW.out.2 (only_ne (by omega)))
        refine ⟨.inr S6.out, ?_⟩
        refine wpAnyU_take2 (i := 13) (v := .bool true) rfl (by kernel_rfl) (by kernel_rfl) (by kernel_rfl) (by kernel_rfl) (fun _ _ _ h => h) (.inl ⟨rfl, fun w' hS => by rw [HA.out]; kernel_rfl⟩) S6.out ?_
        refine wpAnyU_name7 ?_
        intro b_ hb
        have HB := hid_ hb
        clear hb
        have Q2 : b_.tmps.getD 2 undef = .pointer (some ⟨w.heap.size + 1, 0, none⟩) := by rw [HB.out, HA.out]; kernel_rfl
        have Q3 : b_.tmps.getD 3 undef = .pointer (some ⟨w.heap.size + 1 + 1, 0, none⟩) := by rw [HB.out, HA.out]; kernel_rfl
        have Q4 : b_.tmps.getD 4 undef = .bool true := by rw [HB.out, HA.out]; kernel_rfl
        have QD : b_.defers = [] := by rw [HB.out, HA.out]; kernel_rfl
        clear HA HB
        refine wpAnyU_done (by kernel_rfl) ?_ _
        go_wp2
        refine bodyPost_ret (results_cell_cell_tmp7 b_.tmps w6 rfl (w.heap.size + 1) 0 (pzA P).toList _ Q2 (Blk.range7 (l := (pzA P).toList) D6.out) Try.underlying45 rfl page_size (w.heap.size + 1 + 1) 0 (azA (⟨false, 1, 0, 0, Vw.zero, none, 0⟩ : Az)).toList _ Q3 (Blk.range7 (l := (azA (⟨false, 1, 0, 0, Vw.zero, none, 0⟩ : Az)).toList) OW.out.1) Try.underlying77 rfl above_size7) QD ⟨pzA P, (⟨false, 1, 0, 0, Vw.zero, none, 0⟩ : Az), true, (by rw [Q4]), rfl, HALL.out, ?_, (fun h => by cases h), S6.out.2, ?_, ?_⟩
        · exact VwIn.zero _
        · exact fun _ => ⟨P, rfl, (by have h4 := POK.out w4.drew F14.out.drew; exact ⟨h4.low, h4.high, h4.rows, (h4.iv.farZ B2.out.drew OV.out.2).farA C5.out OW.out.2, h4.nc⟩), by rw [HPE.out], by rw [HPE.out], by rw [HPE.out]; exact HOF.out⟩
        · show false = (c.some_ && (foldU (L2.map (·.R))).isSome)
          simp [HSM.out, HNO.out]
  · clear hof hq
    replace F := hid_ (F.out.then_none hf1)
    replace BC := hid_ (BC.out.fr hf1 id)
    replace B2 := hid_ (B2.out.fr hf1 id)
    replace B3 := hid_ (B3.out.fr hf1 id)
    replace H := hid_ (H.out.keep hf1)
    have hsq1 := B3.out.lt
    clear hf1 v0 v1
    go_upto_region 2 with (refine wpList_store_mid rfl 45 (.tmp 5) (.tmp 16) rfl w1.heap.size 0 (pgZ) rfl rfl (new_there w1 _ pgZ) page_size (by simp [Value.oneCell']) ?_; obtain ⟨w2, hw2⟩ : ∃ z, z = (w1.alloc (.cells pgZ 45)).setCells w1.heap.size 0 (pgZ).toList := ⟨_, rfl⟩; change wpList _ _ _ _ _ ((w1.alloc (.cells pgZ 45)).setCells w1.heap.size 0 (pgZ).toList); rw [← hw2]; have P2 : Hid (Blk w2 w1.heap.size 45 (pgZ) ∧ Fr none_ w1 w2) := hid_ (by rw [hw2]; exact new_copy w1 _ pgZ (pgZ).toList rfl); clear hw2)
    skip
    replace F := hid_ (F.out.then_none P2.out.2)
    replace BC := hid_ (BC.out.fr P2.out.2 id)
    replace B2 := hid_ (B2.out.fr P2.out.2 id)
    replace B3 := hid_ (B3.out.fr P2.out.2 id)
    replace H := hid_ (H.out.keep P2.out.2)
    have hs2 := P2.out.1.lt
    have v2 : w2.cell? ⟨w.heap.size, 2, none⟩ = some (.slice c.A2 c.n2 c.c2) := BC.out.cell' rfl
    go_wp2_with fail
    refine (fold_ok c.A2 c.n2 c.c2 L2 w2 (H.out.i2.few (few_ents HF.out.d)) (by omega) (fun C hC => by have := few_ents HF.out.d C hC; omega)).mono ?_
    rintro e w3 (⟨V, B', d', hkd, hfo, rfl, hvin, hheld, hf3⟩ | ⟨q2, hq2, hno, rfl, hf3⟩)
    · have BP := hid_ (P2.out.1.fr hf3 id)
      have VI := hid_ hvin
      have HFO := hid_ hfo
      replace F := hid_ (F.out.then_none hf3)
      replace BC := hid_ (BC.out.fr hf3 id)
      replace B2 := hid_ (B2.out.fr hf3 id)
      replace B3 := hid_ (B3.out.fr hf3 id)
      replace H := hid_ (H.out.keep hf3)
      have hsq3 := B3.out.lt
      clear v2 hf3 hkd hfo hvin hheld
      go_upto_region 3 with (refine wpList_store_mid rfl 43 (.tmp 7) (.tmp 22) rfl w3.heap.size 0 (vwA V (.slice B' V.ents.length d')) rfl rfl (new_there w3 _ vwZ) view_size7 (by simp [Value.oneCell']) ?_; obtain ⟨w4, hw4⟩ : ∃ z, z = (w3.alloc (.cells vwZ 43)).setCells w3.heap.size 0 (vwA V (.slice B' V.ents.length d')).toList := ⟨_, rfl⟩; change wpList _ _ _ _ _ ((w3.alloc (.cells vwZ 43)).setCells w3.heap.size 0 (vwA V (.slice B' V.ents.length d')).toList); rw [← hw4]; have P4 : Hid (Blk w4 w3.heap.size 43 (vwA V (.slice B' V.ents.length d')) ∧ Fr none_ w3 w4) := hid_ (by rw [hw4]; exact new_copy w3 _ vwZ (vwA V (.slice B' V.ents.length d')).toList rfl); clear hw4)
      replace F := hid_ (F.out.then_none P4.out.2)
      replace BC := hid_ (BC.out.fr P4.out.2 id)
      replace B2 := hid_ (B2.out.fr P4.out.2 id)
      replace B3 := hid_ (B3.out.fr P4.out.2 id)
      replace H := hid_ (H.out.keep P4.out.2)
      replace BP := hid_ (BP.out.fr P4.out.2 id)
      have hs4 := P4.out.1.lt
      have hso4 := B3.out.lt
      cases hsm : c.some_ with
      | false =>
        have HSM := hid_ hsm
        clear hsm
        have hS0 : (fun w' : World => (Blk w' w1.heap.size 45 (pgZ) ∧ Blk w' w3.heap.size 43 (vwA V (.slice B' V.ents.length d')) ∧ Blk w' w.heap.size 75 (czA c)) ∧ Fr none_ w w') w4.drew := ⟨⟨BP.out.drew, P4.out.1.drew, BC.out.drew⟩, F.out.drew⟩
        refine wp_region_U (m := 14) (S := fun w' : World => (Blk w' w1.heap.size 45 (pgZ) ∧ Blk w' w3.heap.size 43 (vwA V (.slice B' V.ents.length d')) ∧ Blk w' w.heap.size 75 (czA c)) ∧ Fr none_ w w') (by kernel_rfl) ?_
        refine wpAnyU_take2 (i := 0) (v := _) rfl (by kernel_rfl) (by kernel_rfl) (by kernel_rfl) (by kernel_rfl) (fun _ _ _ h => h) (yieldsIf_load_mid (by kernel_rfl) 45 (.tmp 5) rfl w1.heap.size 0 rfl (pgZ).toList _ (fun w' hS i v hv => Blk.range7 (l := (pgZ).toList) hS.1.1 i v hv) Try.underlying45 rfl page_size) hS0 ?_
        refine wpAnyU_take2 (i := 7) (v := _) rfl (by kernel_rfl) (by kernel_rfl) (by kernel_rfl) (by kernel_rfl) (fun _ _ _ h => h) (yieldsIf_load_mid (by kernel_rfl) 43 (.tmp 7) rfl w3.heap.size 0 (by kernel_rfl) ((vwA V (.slice B' V.ents.length d')) : Array Value).toList _ (fun w' hS i v hv => Blk.range7 (l := ((vwA V (.slice B' V.ents.length d')) : Array Value).toList) hS.1.2.1 i v hv) Try.underlying43 rfl view_size7) hS0 ?_
        refine wpAnyU_take2 (i := 1) (v := .pointer (some ⟨w.heap.size, 3, none⟩)) rfl (by kernel_rfl) (by kernel_rfl) (by kernel_rfl) (by kernel_rfl) (fun _ _ _ h => h) (.inl ⟨by kernel_rfl, fun w' hS => by kernel_rfl⟩) hS0 ?_
        refine wpAnyU_take2 (i := 2) (v := .bool false) rfl (by kernel_rfl) (by kernel_rfl) (by kernel_rfl) (by kernel_rfl) (fun _ _ _ h => h) (.inl ⟨by kernel_rfl, fun w' hS => by have s_ : w'.cell? ⟨w.heap.size, 3, none⟩ = some (.bool false) := (by rw [← HSM.out]; exact hS.1.2.2.cell' rfl); clear hS; go_simp⟩) hS0 ?_
        refine wpAnyU_take2 (i := 3) (v := .bool false) rfl (by kernel_rfl) (by kernel_rfl) (by kernel_rfl) (by kernel_rfl) (fun _ _ _ h => h) (.inl ⟨by kernel_rfl, fun w' hS => by kernel_rfl⟩) hS0 ?_
        refine wpAnyU_take2 (i := 4) (v := undef) rfl (by kernel_rfl) (by kernel_rfl) (by kernel_rfl) (by kernel_rfl) (fun _ _ _ h => h) (.inr ⟨by kernel_rfl, rfl⟩) hS0 ?_
        refine wpAnyU_take2 (i := 5) (v := undef) rfl (by kernel_rfl) (by kernel_rfl) (by kernel_rfl) (by kernel_rfl) (fun _ _ _ h => h) (.inr ⟨by kernel_rfl, rfl⟩) hS0 ?_
        refine wpAnyU_take2 (i := 6) (v := .bool false) rfl (by kernel_rfl) (by kernel_rfl) (by kernel_rfl) (by kernel_rfl) (fun _ _ _ h => h) (.inl ⟨by kernel_rfl, fun w' hS => by kernel_rfl⟩) hS0 ?_
        refine wpAnyU_take2 (i := 8) (v := .agg (azA (⟨false, 1, 0, 0, V, B', d'⟩ : Az))) rfl (by kernel_rfl) (by kernel_rfl) (by kernel_rfl) (by kernel_rfl) (fun _ _ _ h => h) (.inl ⟨by kernel_rfl, fun w' hS => by kernel_rfl⟩) hS0 ?_
        refine wpAnyU_take2 (i := 9) (v := errV q) rfl (by kernel_rfl) (by kernel_rfl) (by kernel_rfl) (by kernel_rfl) (fun _ _ _ h => h) (.inl ⟨by kernel_rfl, fun w' hS => by kernel_rfl⟩) hS0 ?_
        refine wpAnyU_take2 (i := 10) (v := .bool false) rfl (by kernel_rfl) (by kernel_rfl) (by kernel_rfl) (by kernel_rfl) (fun _ _ _ h => h) (.inl ⟨by kernel_rfl, fun w' hS => by kernel_rfl⟩) hS0 ?_
        clear hS0
        refine wpAnyU_name7 ?_
        intro a_ ha
        have HA := hid_ ha
        clear ha
        refine wpAnyU_one7 (i := 11) rfl rfl (by kernel_rfl) ?_
        refine wp_store_mid 45 (.tmp 2) (.tmp 24) rfl (w.heap.size + 1) 0 (pgZ) (by rw [HA.out]; kernel_rfl) (by rw [HA.out]; kernel_rfl) (B2.out.drew.there7 rfl) page_size (by simp [Value.oneCell']) ?_
        have ov := B2.out.drew.over7 (pgZ).toList rfl
        obtain ⟨w5, hw5⟩ : ∃ z, z = w4.drew.setCells (w.heap.size + 1) 0 (pgZ).toList := ⟨_, rfl⟩
        rw [← hw5] at ov ⊢
        clear hw5
        have OV := hid_ ov
        clear ov
        have S5 := hid_ (And.intro (And.intro (BP.out.drew.fr OV.out.2 (only_ne (by omega))) (And.intro (P4.out.1.drew.fr OV.out.2 (only_ne (by omega))) (BC.out.drew.fr OV.out.2 (only_ne (by omega))))) (F.out.drew.then_only OV.out.2 (.inr (by omega))))
        have C5 := hid_ (B3.out.drew.fr OV.out.2 (only_ne (by omega)))
        refine ⟨.inr S5.out, ?_⟩
        refine wpAnyU_one7 (i := 12) rfl rfl (by kernel_rfl) ?_
        refine wp_store_mid 77 (.tmp 3) (.tmp 32) rfl (w.heap.size + 1 + 1) 0 (azA (⟨false, 1, 0, 0, V, B', d'⟩ : Az)) (by rw [HA.out]; kernel_rfl) (by rw [HA.out]; kernel_rfl) (C5.out.there7 rfl) above_size7 (by simp [Value.oneCell']) ?_
        have ov := C5.out.over7 (azA (⟨false, 1, 0, 0, V, B', d'⟩ : Az)).toList rfl
        obtain ⟨w6, hw6⟩ : ∃ z, z = w5.setCells (w.heap.size + 1 + 1) 0 (azA (⟨false, 1, 0, 0, V, B', d'⟩ : Az)).toList := ⟨_, rfl⟩
        rw [← hw6] at ov ⊢
        clear hw6
        have OW := hid_ ov
        clear ov
        have S6 := hid_ (And.intro (And.intro (S5.out.1.1.fr OW.out.2 (only_ne (by omega))) (And.intro (S5.out.1.2.1.fr OW.out.2 (only_ne (by omega))) (S5.out.1.2.2.fr OW.out.2 (only_ne (by omega))))) (S5.out.2.then_only OW.out.2 (.inr (by omega))))
        have D6 := hid_ (OV.out.1.fr OW.out.2 (only_ne (by omega)))
        refine ⟨.inr S6.out, ?_⟩
        refine wpAnyU_take2 (i := 13) (v := .bool false) rfl (by kernel_rfl) (by kernel_rfl) (by kernel_rfl) (by kernel_rfl) (fun _ _ _ h => h) (.inl ⟨rfl, fun w' hS => by rw [HA.out]; kernel_rfl⟩) S6.out ?_
        refine wpAnyU_name7 ?_
        intro b_ hb
        have HB := hid_ hb
        clear hb
        have Q2 : b_.tmps.getD 2 undef = .pointer (some ⟨w.heap.size + 1, 0, none⟩) := by rw [HB.out, HA.out]; kernel_rfl
        have Q3 : b_.tmps.getD 3 undef = .pointer (some ⟨w.heap.size + 1 + 1, 0, none⟩) := by rw [HB.out, HA.out]; kernel_rfl
        have Q4 : b_.tmps.getD 4 undef = .bool false := by rw [HB.out, HA.out]; kernel_rfl
        have QD : b_.defers = [] := by rw [HB.out, HA.out]; kernel_rfl
        clear HA HB
        refine wpAnyU_done (by kernel_rfl) ?_ _
        go_wp2
        refine bodyPost_ret (results_cell_cell_tmp7 b_.tmps w6 rfl (w.heap.size + 1) 0 (pgZ).toList _ Q2 (Blk.range7 (l := (pgZ).toList) D6.out) Try.underlying45 rfl page_size (w.heap.size + 1 + 1) 0 (azA (⟨false, 1, 0, 0, V, B', d'⟩ : Az)).toList _ Q3 (Blk.range7 (l := (azA (⟨false, 1, 0, 0, V, B', d'⟩ : Az)).toList) OW.out.1) Try.underlying77 rfl above_size7) QD ⟨pgZ, (⟨false, 1, 0, 0, V, B', d'⟩ : Az), false, (by rw [Q4]), rfl, by simp [Value.oneCell'], ?_, (fun h => by cases h), S6.out.2, ?_, ?_⟩
        · exact (((VI.out.keep P4.out.2).keep (Fr.refl none_ w4).drew).farZ B2.out.drew OV.out.2).farA C5.out OW.out.2
        · exact fun h => by cases h
        · show false = (c.some_ && (foldU (L2.map (·.R))).isSome)
          simp [HSM.out, HFO.out]
      | true =>
        have HSM := hid_ hsm
        clear hsm
        have hS0 : (fun w' : World => (Blk w' w1.heap.size 45 (pgZ) ∧ Blk w' w3.heap.size 43 (vwA V (.slice B' V.ents.length d')) ∧ Blk w' w.heap.size 75 (czA c)) ∧ Fr none_ w w') w4.drew := ⟨⟨BP.out.drew, P4.out.1.drew, BC.out.drew⟩, F.out.drew⟩
        refine wp_region_U (m := 14) (S := fun w' : World => (Blk w' w1.heap.size 45 (pgZ) ∧ Blk w' w3.heap.size 43 (vwA V (.slice B' V.ents.length d')) ∧ Blk w' w.heap.size 75 (czA c)) ∧ Fr none_ w w') (by kernel_rfl) ?_
        refine wpAnyU_take2 (i := 0) (v := _) rfl (by kernel_rfl) (by kernel_rfl) (by kernel_rfl) (by kernel_rfl) (fun _ _ _ h => h) (yieldsIf_load_mid (by kernel_rfl) 45 (.tmp 5) rfl w1.heap.size 0 rfl (pgZ).toList _ (fun w' hS i v hv => Blk.range7 (l := (pgZ).toList) hS.1.1 i v hv) Try.underlying45 rfl page_size) hS0 ?_
        refine wpAnyU_take2 (i := 7) (v := _) rfl (by kernel_rfl) (by kernel_rfl) (by kernel_rfl) (by kernel_rfl) (fun _ _ _ h => h) (yieldsIf_load_mid (by kernel_rfl) 43 (.tmp 7) rfl w3.heap.size 0 (by kernel_rfl) ((vwA V (.slice B' V.ents.length d')) : Array Value).toList _ (fun w' hS i v hv => Blk.range7 (l := ((vwA V (.slice B' V.ents.length d')) : Array Value).toList) hS.1.2.1 i v hv) Try.underlying43 rfl view_size7) hS0 ?_
        refine wpAnyU_take2 (i := 1) (v := .pointer (some ⟨w.heap.size, 3, none⟩)) rfl (by kernel_rfl) (by kernel_rfl) (by kernel_rfl) (by kernel_rfl) (fun _ _ _ h => h) (.inl ⟨by kernel_rfl, fun w' hS => by kernel_rfl⟩) hS0 ?_
        refine wpAnyU_take2 (i := 2) (v := .bool true) rfl (by kernel_rfl) (by kernel_rfl) (by kernel_rfl) (by kernel_rfl) (fun _ _ _ h => h) (.inl ⟨by kernel_rfl, fun w' hS => by have s_ : w'.cell? ⟨w.heap.size, 3, none⟩ = some (.bool true) := (by rw [← HSM.out]; exact hS.1.2.2.cell' rfl); clear hS; go_simp⟩) hS0 ?_
        refine wpAnyU_take2 (i := 3) (v := .bool true) rfl (by kernel_rfl) (by kernel_rfl) (by kernel_rfl) (by kernel_rfl) (fun _ _ _ h => h) (.inl ⟨by kernel_rfl, fun w' hS => by kernel_rfl⟩) hS0 ?_
        refine wpAnyU_take2 (i := 4) (v := .nilIface) rfl (by kernel_rfl) (by kernel_rfl) (by kernel_rfl) (by kernel_rfl) (fun _ _ _ h => h) (.inl ⟨by kernel_rfl, fun w' hS => by kernel_rfl⟩) hS0 ?_
        refine wpAnyU_take2 (i := 5) (v := .bool true) rfl (by kernel_rfl) (by kernel_rfl) (by kernel_rfl) (by kernel_rfl) (fun _ _ _ h => h) (.inl ⟨by kernel_rfl, fun w' hS => by kernel_rfl⟩) hS0 ?_
        refine wpAnyU_take2 (i := 6) (v := .bool true) rfl (by kernel_rfl) (by kernel_rfl) (by kernel_rfl) (by kernel_rfl) (fun _ _ _ h => h) (.inl ⟨by kernel_rfl, fun w' hS => by kernel_rfl⟩) hS0 ?_
        refine wpAnyU_take2 (i := 8) (v := .agg (azA (⟨true, 1, 0, 0, V, B', d'⟩ : Az))) rfl (by kernel_rfl) (by kernel_rfl) (by kernel_rfl) (by kernel_rfl) (fun _ _ _ h => h) (.inl ⟨by kernel_rfl, fun w' hS => by kernel_rfl⟩) hS0 ?_
        refine wpAnyU_take2 (i := 9) (v := errV q) rfl (by kernel_rfl) (by kernel_rfl) (by kernel_rfl) (by kernel_rfl) (fun _ _ _ h => h) (.inl ⟨by kernel_rfl, fun w' hS => by kernel_rfl⟩) hS0 ?_
        refine wpAnyU_take2 (i := 10) (v := .bool false) rfl (by kernel_rfl) (by kernel_rfl) (by kernel_rfl) (by kernel_rfl) (fun _ _ _ h => h) (.inl ⟨by kernel_rfl, fun w' hS => by kernel_rfl⟩) hS0 ?_
        clear hS0
        refine wpAnyU_name7 ?_
        intro a_ ha
        have HA := hid_ ha
        clear ha
        refine wpAnyU_one7 (i := 11) rfl rfl (by kernel_rfl) ?_
        refine wp_store_mid 45 (.tmp 2) (.tmp 24) rfl (w.heap.size + 1) 0 (pgZ) (by rw [HA.out]; kernel_rfl) (by rw [HA.out]; kernel_rfl) (B2.out.drew.there7 rfl) page_size (by simp [Value.oneCell']) ?_
        have ov := B2.out.drew.over7 (pgZ).toList rfl
        obtain ⟨w5, hw5⟩ : ∃ z, z = w4.drew.setCells (w.heap.size + 1) 0 (pgZ).toList := ⟨_, rfl⟩
        rw [← hw5] at ov ⊢
        clear hw5
        have OV := hid_ ov
        clear ov
        have S5 := hid_ (And.intro (And.intro (BP.out.drew.fr OV.out.2 (only_ne (by omega))) (And.intro (P4.out.1.drew.fr OV.out.2 (only_ne (by omega))) (BC.out.drew.fr OV.out.2 (only_ne (by omega))))) (F.out.drew.then_only OV.out.2 (.inr (by omega))))
        have C5 := hid_ (B3.out.drew.fr OV.out.2 (only_ne (by omega)))
        refine ⟨.inr S5.out, ?_⟩
        refine wpAnyU_one7 (i := 12) rfl rfl (by kernel_rfl) ?_
        refine wp_store_mid 77 (.tmp 3) (.tmp 32) rfl (w.heap.size + 1 + 1) 0 (azA (⟨true, 1, 0, 0, V, B', d'⟩ : Az)) (by rw [HA.out]; kernel_rfl) (by rw [HA.out]; kernel_rfl) (C5.out.there7 rfl) above_size7 (by simp [Value.oneCell']) ?_
        have ov := C5.out.over7 (azA (⟨true, 1, 0, 0, V, B', d'⟩ : Az)).toList rfl
        obtain ⟨w6, hw6⟩ : ∃ z, z = w5.setCells (w.heap.size + 1 + 1) 0 (azA (⟨true, 1, 0, 0, V, B', d'⟩ : Az)).toList := ⟨_, rfl⟩
        rw [← hw6] at ov ⊢
        clear hw6
        have OW := hid_ ov
        clear ov
        have S6 := hid_ (And.intro (And.intro (S5.out.1.1.fr OW.out.2 (only_ne (by omega))) (And.intro (S5.out.1.2.1.fr OW.out.2 (only_ne (by omega))) (S5.out.1.2.2.fr OW.out.2 (only_ne (by omega))))) (S5.out.2.then_only OW.out.2 (.inr (by omega))))
        have D6 := hid_ (OV.out.1.fr OW.out.2 (only_ne (by omega)))
        refine ⟨.inr S6.out, ?_⟩
        refine wpAnyU_take2 (i := 13) (v := .bool false) rfl (by kernel_rfl) (by kernel_rfl) (by kernel_rfl) (by kernel_rfl) (fun _ _ _ h => h) (.inl ⟨rfl, fun w' hS => by rw [HA.out]; kernel_rfl⟩) S6.out ?_
        refine wpAnyU_name7 ?_
        intro b_ hb
        have HB := hid_ hb
        clear hb
        have Q2 : b_.tmps.getD 2 undef = .pointer (some ⟨w.heap.size + 1, 0, none⟩) := by rw [HB.out, HA.out]; kernel_rfl
        have Q3 : b_.tmps.getD 3 undef = .pointer (some ⟨w.heap.size + 1 + 1, 0, none⟩) := by rw [HB.out, HA.out]; kernel_rfl
        have Q4 : b_.tmps.getD 4 undef = .bool false := by rw [HB.out, HA.out]; kernel_rfl
        have QD : b_.defers = [] := by rw [HB.out, HA.out]; kernel_rfl
        clear HA HB
        refine wpAnyU_done (by kernel_rfl) ?_ _
        go_wp2
        refine bodyPost_ret (results_cell_cell_tmp7 b_.tmps w6 rfl (w.heap.size + 1) 0 (pgZ).toList _ Q2 (Blk.range7 (l := (pgZ).toList) D6.out) Try.underlying45 rfl page_size (w.heap.size + 1 + 1) 0 (azA (⟨true, 1, 0, 0, V, B', d'⟩ : Az)).toList _ Q3 (Blk.range7 (l := (azA (⟨true, 1, 0, 0, V, B', d'⟩ : Az)).toList) OW.out.1) Try.underlying77 rfl above_size7) QD ⟨pgZ, (⟨true, 1, 0, 0, V, B', d'⟩ : Az), false, (by rw [Q4]), rfl, by simp [Value.oneCell'], ?_, (fun _ => HFO.out), S6.out.2, ?_, ?_⟩
        · exact (((VI.out.keep P4.out.2).keep (Fr.refl none_ w4).drew).farZ B2.out.drew OV.out.2).farA C5.out OW.out.2
        · exact fun h => by cases h
        · show true = (c.some_ && (foldU (L2.map (·.R))).isSome)
          simp [HSM.out, HFO.out]
    · have BP := hid_ (P2.out.1.fr hf3 id)
      have HNO := hid_ (foldU_no hno)
      replace F := hid_ (F.out.then_none hf3)
      replace BC := hid_ (BC.out.fr hf3 id)
      replace B2 := hid_ (B2.out.fr hf3 id)
      replace B3 := hid_ (B3.out.fr hf3 id)
      replace H := hid_ (H.out.keep hf3)
      have hsq3 := B3.out.lt
      clear v2 hf3 hq2 hno
      go_upto_region 3 with (refine wpList_store_mid rfl 43 (.tmp 7) (.tmp 22) rfl w3.heap.size 0 (vwA Vw.zero (.slice none 0 0)) rfl rfl (new_there w3 _ vwZ) view_size7 (by simp [Value.oneCell']) ?_; obtain ⟨w4, hw4⟩ : ∃ z, z = (w3.alloc (.cells vwZ 43)).setCells w3.heap.size 0 (vwA Vw.zero (.slice none 0 0)).toList := ⟨_, rfl⟩; change wpList _ _ _ _ _ ((w3.alloc (.cells vwZ 43)).setCells w3.heap.size 0 (vwA Vw.zero (.slice none 0 0)).toList); rw [← hw4]; have P4 : Hid (Blk w4 w3.heap.size 43 (vwA Vw.zero (.slice none 0 0)) ∧ Fr none_ w3 w4) := hid_ (by rw [hw4]; exact new_copy w3 _ vwZ (vwA Vw.zero (.slice none 0 0)).toList rfl); clear hw4)
      replace F := hid_ (F.out.then_none P4.out.2)
      replace BC := hid_ (BC.out.fr P4.out.2 id)
      replace B2 := hid_ (B2.out.fr P4.out.2 id)
      replace B3 := hid_ (B3.out.fr P4.out.2 id)
      replace H := hid_ (H.out.keep P4.out.2)
      replace BP := hid_ (BP.out.fr P4.out.2 id)
      have hs4 := P4.out.1.lt
      have hso4 := B3.out.lt
      cases hsm : c.some_ with
      | false =>
        have HSM := hid_ hsm
        clear hsm
        have hS0 : (fun w' : World => (Blk w' w1.heap.size 45 (pgZ) ∧ Blk w' w3.heap.size 43 (vwA Vw.zero (.slice none 0 0)) ∧ Blk w' w.heap.size 75 (czA c)) ∧ Fr none_ w w') w4.drew := ⟨⟨BP.out.drew, P4.out.1.drew, BC.out.drew⟩, F.out.drew⟩
        refine wp_region_U (m := 14) (S := fun w' : World => (Blk w' w1.heap.size 45 (pgZ) ∧ Blk w' w3.heap.size 43 (vwA Vw.zero (.slice none 0 0)) ∧ Blk w' w.heap.size 75 (czA c)) ∧ Fr none_ w w') (by kernel_rfl) ?_
        refine wpAnyU_take2 (i := 0) (v := _) rfl (by kernel_rfl) (by kernel_rfl) (by kernel_rfl) (by kernel_rfl) (fun _ _ _ h => h) (yieldsIf_load_mid (by kernel_rfl) 45 (.tmp 5) rfl w1.heap.size 0 rfl (pgZ).toList _ (fun w' hS i v hv => Blk.range7 (l := (pgZ).toList) hS.1.1 i v hv) Try.underlying45 rfl page_size) hS0 ?_
        refine wpAnyU_take2 (i := 7) (v := _) rfl (by kernel_rfl) (by kernel_rfl) (by kernel_rfl) (by kernel_rfl) (fun _ _ _ h => h) (yieldsIf_load_mid (by kernel_rfl) 43 (.tmp 7) rfl w3.heap.size 0 (by kernel_rfl) ((vwA Vw.zero (.slice none 0 0)) : Array Value).toList _ (fun w' hS i v hv => Blk.range7 (l := ((vwA Vw.zero (.slice none 0 0)) : Array Value).toList) hS.1.2.1 i v hv) Try.underlying43 rfl view_size7) hS0 ?_
        refine wpAnyU_take2 (i := 1) (v := .pointer (some ⟨w.heap.size, 3, none⟩)) rfl (by kernel_rfl) (by kernel_rfl) (by kernel_rfl) (by kernel_rfl) (fun _ _ _ h => h) (.inl ⟨by kernel_rfl, fun w' hS => by kernel_rfl⟩) hS0 ?_
        refine wpAnyU_take2 (i := 2) (v := .bool false) rfl (by kernel_rfl) (by kernel_rfl) (by kernel_rfl) (by kernel_rfl) (fun _ _ _ h => h) (.inl ⟨by kernel_rfl, fun w' hS => by have s_ : w'.cell? ⟨w.heap.size, 3, none⟩ = some (.bool false) := (by rw [← HSM.out]; exact hS.1.2.2.cell' rfl); clear hS; go_simp⟩) hS0 ?_
        refine wpAnyU_take2 (i := 3) (v := .bool false) rfl (by kernel_rfl) (by kernel_rfl) (by kernel_rfl) (by kernel_rfl) (fun _ _ _ h => h) (.inl ⟨by kernel_rfl, fun w' hS => by kernel_rfl⟩) hS0 ?_
        refine wpAnyU_take2 (i := 4) (v := undef) rfl (by kernel_rfl) (by kernel_rfl) (by kernel_rfl) (by kernel_rfl) (fun _ _ _ h => h) (.inr ⟨by kernel_rfl, rfl⟩) hS0 ?_
        refine wpAnyU_take2 (i := 5) (v := undef) rfl (by kernel_rfl) (by kernel_rfl) (by kernel_rfl) (by kernel_rfl) (fun _ _ _ h => h) (.inr ⟨by kernel_rfl, rfl⟩) hS0 ?_
        refine wpAnyU_take2 (i := 6) (v := .bool false) rfl (by kernel_rfl) (by kernel_rfl) (by kernel_rfl) (by kernel_rfl) (fun _ _ _ h => h) (.inl ⟨by kernel_rfl, fun w' hS => by kernel_rfl⟩) hS0 ?_
        refine wpAnyU_take2 (i := 8) (v := .agg (azA (⟨false, 1, 0, 0, Vw.zero, none, 0⟩ : Az))) rfl (by kernel_rfl) (by kernel_rfl) (by kernel_rfl) (by kernel_rfl) (fun _ _ _ h => h) (.inl ⟨by kernel_rfl, fun w' hS => by kernel_rfl⟩) hS0 ?_
        refine wpAnyU_take2 (i := 9) (v := errV q) rfl (by kernel_rfl) (by kernel_rfl) (by kernel_rfl) (by kernel_rfl) (fun _ _ _ h => h) (.inl ⟨by kernel_rfl, fun w' hS => by kernel_rfl⟩) hS0 ?_
        refine wpAnyU_take2 (i := 10) (v := .bool false) rfl (by kernel_rfl) (by kernel_rfl) (by kernel_rfl) (by kernel_rfl) (fun _ _ _ h => h) (.inl ⟨by kernel_rfl, fun w' hS => by kernel_rfl⟩) hS0 ?_
        clear hS0
        refine wpAnyU_name7 ?_
        intro a_ ha
        have HA := hid_ ha
        clear ha
        refine wpAnyU_one7 (i := 11) rfl rfl (by kernel_rfl) ?_
        refine wp_store_mid 45 (.tmp 2) (.tmp 24) rfl (w.heap.size + 1) 0 (pgZ) (by rw [HA.out]; kernel_rfl) (by rw [HA.out]; kernel_rfl) (B2.out.drew.there7 rfl) page_size (by simp [Value.oneCell']) ?_
        have ov := B2.out.drew.over7 (pgZ).toList rfl
        obtain ⟨w5, hw5⟩ : ∃ z, z = w4.drew.setCells (w.heap.size + 1) 0 (pgZ).toList := ⟨_, rfl⟩
        rw [← hw5] at ov ⊢
        clear hw5
        have OV := hid_ ov
        clear ov
        have S5 := hid_ (And.intro (And.intro (BP.out.drew.fr OV.out.2 (only_ne (by omega))) (And.intro (P4.out.1.drew.fr OV.out.2 (only_ne (by omega))) (BC.out.drew.fr OV.out.2 (only_ne (by omega))))) (F.out.drew.then_only OV.out.2 (.inr (by omega))))
        have C5 := hid_ (B3.out.drew.fr OV.out.2 (only_ne (by omega)))
        refine ⟨.inr S5.out, ?_⟩
        refine wpAnyU_one7 (i := 12) rfl rfl (by kernel_rfl) ?_
        refine wp_store_mid 77 (.tmp 3) (.tmp 32) rfl (w.heap.size + 1 + 1) 0 (azA (⟨false, 1, 0, 0, Vw.zero, none, 0⟩ : Az)) (by rw [HA.out]; kernel_rfl) (by rw [HA.out]; kernel_rfl) (C5.out.there7 rfl) above_size7 (by simp [Value.oneCell']) ?_
        have ov := C5.out.over7 (azA (⟨false, 1, 0, 0, Vw.zero, none, 0⟩ : Az)).toList rfl
        obtain ⟨w6, hw6⟩ : ∃ z, z = w5.setCells (w.heap.size + 1 + 1) 0 (azA (⟨false, 1, 0, 0, Vw.zero, none, 0⟩ : Az)).toList := ⟨_, rfl⟩
        rw [← hw6] at ov ⊢
        clear hw6
        have OW := hid_ ov
        clear ov
        have S6 := hid_ (And.intro (And.intro (S5.out.1.1.fr OW.out.2 (only_ne (by omega))) (And.intro (S5.out.1.2.1.fr OW.out.2 (only_ne (by omega))) (S5.out.1.2.2.fr OW.out.2 (only_ne (by omega))))) (S5.out.2.then_only OW.out.2 (.inr (by omega))))
        have D6 := hid_ (OV.out.1.fr OW.out.2 (only_ne (by omega)))
        refine ⟨.inr S6.out, ?_⟩
        refine wpAnyU_take2 (i := 13) (v := .bool false) rfl (by kernel_rfl) (by kernel_rfl) (by kernel_rfl) (by kernel_rfl) (fun _ _ _ h => h) (.inl ⟨rfl, fun w' hS => by rw [HA.out]; kernel_rfl⟩) S6.out ?_
        refine wpAnyU_name7 ?_
        intro b_ hb
        have HB := hid_ hb
        clear hb
        have Q2 : b_.tmps.getD 2 undef = .pointer (some ⟨w.heap.size + 1, 0, none⟩) := by rw [HB.out, HA.out]; kernel_rfl
        have Q3 : b_.tmps.getD 3 undef = .pointer (some ⟨w.heap.size + 1 + 1, 0, none⟩) := by rw [HB.out, HA.out]; kernel_rfl
        have Q4 : b_.tmps.getD 4 undef = .bool false := by rw [HB.out, HA.out]; kernel_rfl
        have QD : b_.defers = [] := by rw [HB.out, HA.out]; kernel_rfl
        clear HA HB
        refine wpAnyU_done (by kernel_rfl) ?_ _
        go_wp2
        refine bodyPost_ret (results_cell_cell_tmp7 b_.tmps w6 rfl (w.heap.size + 1) 0 (pgZ).toList _ Q2 (Blk.range7 (l := (pgZ).toList) D6.out) Try.underlying45 rfl page_size (w.heap.size + 1 + 1) 0 (azA (⟨false, 1, 0, 0, Vw.zero, none, 0⟩ : Az)).toList _ Q3 (Blk.range7 (l := (azA (⟨false, 1, 0, 0, Vw.zero, none, 0⟩ : Az)).toList) OW.out.1) Try.underlying77 rfl above_size7) QD ⟨pgZ, (⟨false, 1, 0, 0, Vw.zero, none, 0⟩ : Az), false, (by rw [Q4]), rfl, by simp [Value.oneCell'], ?_, (fun h => by cases h), S6.out.2, ?_, ?_⟩
        · exact VwIn.zero _
        · exact fun h => by cases h
        · show false = (c.some_ && (foldU (L2.map (·.R))).isSome)
          simp [HSM.out, HNO.out]
      | true =>
        have HSM := hid_ hsm
        clear hsm
        have hS0 : (fun w' : World => (Blk w' w1.heap.size 45 (pgZ) ∧ Blk w' w3.heap.size 43 (vwA Vw.zero (.slice none 0 0)) ∧ Blk w' w.heap.size 75 (czA c)) ∧ Fr none_ w w') w4.drew := ⟨⟨BP.out.drew, P4.out.1.drew, BC.out.drew⟩, F.out.drew⟩
        refine wp_region_U (m := 14) (S := fun w' : World => (Blk w' w1.heap.size 45 (pgZ) ∧ Blk w' w3.heap.size 43 (vwA Vw.zero (.slice none 0 0)) ∧ Blk w' w.heap.size 75 (czA c)) ∧ Fr none_ w w') (by kernel_rfl) ?_
        refine wpAnyU_take2 (i := 0) (v := _) rfl (by kernel_rfl) (by kernel_rfl) (by kernel_rfl) (by kernel_rfl) (fun _ _ _ h => h) (yieldsIf_load_mid (by kernel_rfl) 45 (.tmp 5) rfl w1.heap.size 0 rfl (pgZ).toList _ (fun w' hS i v hv => Blk.range7 (l := (pgZ).toList) hS.1.1 i v hv) Try.underlying45 rfl page_size) hS0 ?_
        refine wpAnyU_take2 (i := 7) (v := _) rfl (by kernel_rfl) (by kernel_rfl) (by kernel_rfl) (by kernel_rfl) (fun _ _ _ h => h) (yieldsIf_load_mid (by kernel_rfl) 43 (.tmp 7) rfl w3.heap.size 0 (by kernel_rfl) ((vwA Vw.zero (.slice none 0 0)) : Array Value).toList _ (fun w' hS i v hv => Blk.range7 (l := ((vwA Vw.zero (.slice none 0 0)) : Array Value).toList) hS.1.2.1 i v hv) Try.underlying43 rfl view_size7) hS0 ?_
        refine wpAnyU_take2 (i := 1) (v := .pointer (some ⟨w.heap.size, 3, none⟩)) rfl (by kernel_rfl) (by kernel_rfl) (by kernel_rfl) (by kernel_rfl) (fun _ _ _ h => h) (.inl ⟨by kernel_rfl, fun w' hS => by kernel_rfl⟩) hS0 ?_
        refine wpAnyU_take2 (i := 2) (v := .bool true) rfl (by kernel_rfl) (by kernel_rfl) (by kernel_rfl) (by kernel_rfl) (fun _ _ _ h => h) (.inl ⟨by kernel_rfl, fun w' hS => by have s_ : w'.cell? ⟨w.heap.size, 3, none⟩ = some (.bool true) := (by rw [← HSM.out]; exact hS.1.2.2.cell' rfl); clear hS; go_simp⟩) hS0 ?_
        refine wpAnyU_take2 (i := 3) (v := .bool true) rfl (by kernel_rfl) (by kernel_rfl) (by kernel_rfl) (by kernel_rfl) (fun _ _ _ h => h) (.inl ⟨by kernel_rfl, fun w' hS => by kernel_rfl⟩) hS0 ?_
        refine wpAnyU_take2 (i := 4) (v := errV q2) rfl (by kernel_rfl) (by kernel_rfl) (by kernel_rfl) (by kernel_rfl) (fun _ _ _ h => h) (.inl ⟨by kernel_rfl, fun w' hS => by kernel_rfl⟩) hS0 ?_
        refine wpAnyU_take2 (i := 5) (v := .bool false) rfl (by kernel_rfl) (by kernel_rfl) (by kernel_rfl) (by kernel_rfl) (fun _ _ _ h => h) (.inl ⟨by kernel_rfl, fun w' hS => by kernel_rfl⟩) hS0 ?_
        refine wpAnyU_take2 (i := 6) (v := .bool false) rfl (by kernel_rfl) (by kernel_rfl) (by kernel_rfl) (by kernel_rfl) (fun _ _ _ h => h) (.inl ⟨by kernel_rfl, fun w' hS => by kernel_rfl⟩) hS0 ?_
        refine wpAnyU_take2 (i := 8) (v := .agg (azA (⟨false, 1, 0, 0, Vw.zero, none, 0⟩ : Az))) rfl (by kernel_rfl) (by kernel_rfl) (by kernel_rfl) (by kernel_rfl) (fun _ _ _ h => h) (.inl ⟨by kernel_rfl, fun w' hS => by kernel_rfl⟩) hS0 ?_
        refine wpAnyU_take2 (i := 9) (v := errV q) rfl (by kernel_rfl) (by kernel_rfl) (by kernel_rfl) (by kernel_rfl) (fun _ _ _ h => h) (.inl ⟨by kernel_rfl, fun w' hS => by kernel_rfl⟩) hS0 ?_
        refine wpAnyU_take2 (i := 10) (v := .bool false) rfl (by kernel_rfl) (by kernel_rfl) (by kernel_rfl) (by kernel_rfl) (fun _ _ _ h => h) (.inl ⟨by kernel_rfl, fun w' hS => by kernel_rfl⟩) hS0 ?_
        clear hS0
        refine wpAnyU_name7 ?_
        intro a_ ha
        have HA := hid_ ha
        clear ha
        refine wpAnyU_one7 (i := 11) rfl rfl (by kernel_rfl) ?_
        refine wp_store_mid 45 (.tmp 2) (.tmp 24) rfl (w.heap.size + 1) 0 (pgZ) (by rw [HA.out]; kernel_rfl) (by rw [HA.out]; kernel_rfl) (B2.out.drew.there7 rfl) page_size (by simp [Value.oneCell']) ?_
        have ov := B2.out.drew.over7 (pgZ).toList rfl
        obtain ⟨w5, hw5⟩ : ∃ z, z = w4.drew.setCells (w.heap.size + 1) 0 (pgZ).toList := ⟨_, rfl⟩
        rw [← hw5] at ov ⊢
        clear hw5
        have OV := hid_ ov
        clear ov
        have S5 := hid_ (And.intro (And.intro (BP.out.drew.fr OV.out.2 (only_ne (by omega))) (And.intro (P4.out.1.drew.fr OV.out.2 (only_ne (by omega))) (BC.out.drew.fr OV.out.2 (only_ne (by omega))))) (F.out.drew.then_only OV.out.2 (.inr (by omega))))
        have C5 := hid_ (B3.out.drew.fr OV.out.2 (only_ne (by omega)))
        refine ⟨.inr S5.out, ?_⟩
        refine wpAnyU_one7 (i := 12) rfl rfl (by kernel_rfl) ?_
        refine wp_store_mid 77 (.tmp 3) (.tmp 32) rfl (w.heap.size + 1 + 1) 0 (azA (⟨false, 1, 0, 0, Vw.zero, none, 0⟩ : Az)) (by rw [HA.out]; kernel_rfl) (by rw [HA.out]; kernel_rfl) (C5.out.there7 rfl) above_size7 (by simp [Value.oneCell']) ?_
        have ov := C5.out.over7 (azA (⟨false, 1, 0, 0, Vw.zero, none, 0⟩ : Az)).toList rfl
        obtain ⟨w6, hw6⟩ : ∃ z, z = w5.setCells (w.heap.size + 1 + 1) 0 (azA (⟨false, 1, 0, 0, Vw.zero, none, 0⟩ : Az)).toList := ⟨_, rfl⟩
        rw [← hw6] at ov ⊢
        clear hw6
        have OW := hid_ ov
        clear ov
        have S6 := hid_ (And.intro (And.intro (S5.out.1.1.fr OW.out.2 (only_ne (by omega))) (And.intro (S5.out.1.2.1.fr OW.out.2 (only_ne (by omega))) (S5.out.1.2.2.fr OW.out.2 (only_ne (by omega))))) (S5.out.2.then_only OW.out.2 (.inr (by omega))))
        have D6 := hid_ (OV.out.1.fr OW.out.2 (only_ne (by omega)))
        refine ⟨.inr S6.out, ?_⟩
        refine wpAnyU_take2 (i := 13) (v := .bool false) rfl (by kernel_rfl) (by kernel_rfl) (by kernel_rfl) (by kernel_rfl) (fun _ _ _ h => h) (.inl ⟨rfl, fun w' hS => by rw [HA.out]; kernel_rfl⟩) S6.out ?_
        refine wpAnyU_name7 ?_
        intro b_ hb
        have HB := hid_ hb
        clear hb
        have Q2 : b_.tmps.getD 2 undef = .pointer (some ⟨w.heap.size + 1, 0, none⟩) := by rw [HB.out, HA.out]; kernel_rfl
        have Q3 : b_.tmps.getD 3 undef = .pointer (some ⟨w.heap.size + 1 + 1, 0, none⟩) := by rw [HB.out, HA.out]; kernel_rfl
        have Q4 : b_.tmps.getD 4 undef = .bool false := by rw [HB.out, HA.out]; kernel_rfl
        have QD : b_.defers = [] := by rw [HB.out, HA.out]; kernel_rfl
        clear HA HB
        refine wpAnyU_done (by kernel_rfl) ?_ _
        go_wp2
        refine bodyPost_ret (results_cell_cell_tmp7 b_.tmps w6 rfl (w.heap.size + 1) 0 (pgZ).toList _ Q2 (Blk.range7 (l := (pgZ).toList) D6.out) Try.underlying45 rfl page_size (w.heap.size + 1 + 1) 0 (azA (⟨false, 1, 0, 0, Vw.zero, none, 0⟩ : Az)).toList _ Q3 (Blk.range7 (l := (azA (⟨false, 1, 0, 0, Vw.zero, none, 0⟩ : Az)).toList) OW.out.1) Try.underlying77 rfl above_size7) QD ⟨pgZ, (⟨false, 1, 0, 0, Vw.zero, none, 0⟩ : Az), false, (by rw [Q4]), rfl, by simp [Value.oneCell'], ?_, (fun h => by cases h), S6.out.2, ?_, ?_⟩
        · exact VwIn.zero _
        · exact fun h => by cases h
        · show false = (c.some_ && (foldU (L2.map (·.R))).isSome)
          simp [HSM.out, HNO.out]
end Go.Proofs.Ytpjbncbmdfmlpaa
namespace Go.Proofs.Ytpjbncbmdfmlpaa
open Go.RowKit
set_option linter.unusedVariables false
section
variable {P : Program} {md : Region.Mode} {ops : Array Oper} {Q : Exit → Act → World → Prop} {S : World → Prop} {m fuel : Nat} {listed : Array Bool} {a : Act} {w : World} {oi oj ok : Oper}
theorem u_three (i j k : Nat) (hi : ops[i]? = some oi) (hj : ops[j]? = some oj) (hk : ops[k]? = some ok) (wi : Region.wanted oi (yielded ops a.tmps) = true) (wj : Region.wanted oj (yielded ops a.tmps) = true) (wk : Region.wanted ok (yielded ops a.tmps) = true) (hr : Region.ready md ops listed = [i, j, k])
    (h1 : Oper.wp P oi a w (fun a' w' => (m ≤ i ∨ S w') ∧ UwA P md ops Q S m fuel (listed.setIfInBounds i true) a' w') Q)
    (h2 : Oper.wp P oj a w (fun a' w' => (m ≤ j ∨ S w') ∧ UwA P md ops Q S m fuel (listed.setIfInBounds j true) a' w') Q)
    (h3 : Oper.wp P ok a w (fun a' w' => (m ≤ k ∨ S w') ∧ UwA P md ops Q S m fuel (listed.setIfInBounds k true) a' w') Q) : UwA P md ops Q S m (fuel + 1) listed a w := by
  refine ⟨wpAnyU_all hr (by simp) (fun q hq => ?_)⟩
  have hq' : q = i ∨ q = j ∨ q = k := by simpa using hq
  rcases hq' with rfl | rfl | rfl
  · unfold wpOp
    simp only [hi, wi, if_true]
    exact .inl (Oper.wp_mono (fun a' w' h' => ⟨h'.1, h'.2.h⟩) h1)
  · unfold wpOp
    simp only [hj, wj, if_true]
    exact .inl (Oper.wp_mono (fun a' w' h' => ⟨h'.1, h'.2.h⟩) h2)
  · unfold wpOp
    simp only [hk, wk, if_true]
    exact .inl (Oper.wp_mono (fun a' w' h' => ⟨h'.1, h'.2.h⟩) h3)
theorem wp_callK {K : Act → World → Prop} (f : FuncId) (vs : Array Value) (v : Value) (F : World → Prop) (hx : (execOp a.eval oi).run P w = .ok (.enter f vs) w) (hc : Calls P f vs w (fun e w' => e = .returned v ∧ F w'))
    (h : ∀ w', F w' → K (a.put oi.dst v) w') : Oper.wp P oi a w K Q := by
  unfold Oper.wp
  rw [hx, Oper.upon_enter]
  refine hc.mono ?_
  rintro e w' ⟨rfl, hF⟩
  exact h w' hF
end
end Go.Proofs.Ytpjbncbmdfmlpaa
namespace Go.Proofs.Ytpjbncbmdfmlpaa
open Go.RowKit Go.BigFrame
set_option maxRecDepth 100000
set_option linter.unusedVariables false
theorem decM_congr {P Q : Pz} {a b : Az} {key : ByteArray} {lm : L6} {writes : Bool} (h : (P.leaf, P.lv, P.iv) = (Q.leaf, Q.lv, Q.iv)) (hn : P.n = Q.n) (hc : P.nc = Q.nc) (hs : a.some_ = b.some_) (hv : a.some_ = true → a.V = b.V) : decM P a key lm writes = decM Q b key lm writes := by
  have h1 : P.leaf = Q.leaf := congrArg (fun x => x.1) h
  have h2 : P.lv = Q.lv := congrArg (fun x => x.2.1) h
  have h3 : P.iv = Q.iv := congrArg (fun x => x.2.2) h
  have hb : beyM P a key writes = beyM Q b key writes := by
    unfold beyM Pz.low Pz.high Pz.right
    rw [h1, h2, h3, ← hs]
    cases hq : a.some_ with
    | false => simp
    | true => rw [hv hq]
  have hu : upkM P a lm = upkM Q b lm := by
    unfold upkM Pz.size
    rw [h1, h2, h3, hn, hc, ← hs]
    cases hq : a.some_ with
    | false => simp
    | true => rw [hv hq]
  have hr : decR P key = decR Q key := by unfold decR; rw [h1, h3]
  unfold decM
  rw [hb, hu, hr]
  unfold Pz.low Pz.high Pz.unb
  rw [h1, h2, h3]
theorem of_in11 {P : Pz} {l : List Rc} (h : ofM l = some (P.leaf, P.lv, P.iv)) : (P.leaf = true → P.iv.ents = []) ∧ (P.leaf = false → P.lv.rows = []) ∧ (P.leaf = false → Good P.iv) := by
  unfold ofM at h
  split at h
  · cases hf : foldL l with
    | none => rw [hf] at h; cases h
    | some v =>
      rw [hf] at h
      have h1 : (true, v, Vw.zero) = (P.leaf, P.lv, P.iv) := Option.some.inj h
      have h2 : true = P.leaf := congrArg (fun x => x.1) h1
      have h3 : Vw.zero = P.iv := congrArg (fun x => x.2.2) h1
      exact ⟨(fun _ => by rw [← h3]; rfl), (fun h => by rw [← h2] at h; cases h), (fun h => by rw [← h2] at h; cases h)⟩
  · cases hf : foldU l with
    | none => rw [hf] at h; cases h
    | some v =>
      rw [hf] at h
      have h1 : (false, Lw.zero, v) = (P.leaf, P.lv, P.iv) := Option.some.inj h
      have h2 : false = P.leaf := congrArg (fun x => x.1) h1
      have h3 : Lw.zero = P.lv := congrArg (fun x => x.2.1) h1
      have h4 : v = P.iv := congrArg (fun x => x.2.2) h1
      exact ⟨(fun h => by rw [← h2] at h; cases h), (fun _ => by rw [← h3]; rfl), (fun _ => by rw [← h4]; exact fold_good hf)⟩
set_option maxHeartbeats 8000000 in
theorem decs11_law (c : Cz) (L1 L2 : List Ch) (w : World) (h : CzIn w c L1 L2) (hcp : RwCap L1) : Calls Try.prog 10 #[.agg (czA c)] w (RetQ (.bool true) w) := by
  obtain ⟨w0, hw0⟩ : ∃ z, z = w.alloc (.cells (czA c) 75) := ⟨_, rfl⟩
  have f0 : Fr none_ w w0 := by rw [hw0]; exact (Fr.refl none_ w).alloc _
  have BC := hid_ (show Blk w0 w.heap.size 75 (czA c) by rw [hw0]; exact Blk.new w _ _)
  have F := hid_ f0
  have H := hid_ (h.keep f0)
  have HCP := hid_ hcp
  clear f0 h hcp
  go_enter Try.func10, Try.ntmps10
  go_upto_region 1 with fail
  change Code.wp _ _ _ _ (w.alloc (.cells (czA c) 75))
  rw [← hw0]
  clear hw0
  go_wp2_with (refine wpList_load_mid rfl 75 (.tmp 1) rfl w.heap.size 0 rfl (czA c).toList _ (Blk.range7 (l := (czA c).toList) BC.out) Try.underlying75 rfl case_size ?_)
  refine (cfew_ok c L1 L2 w0 H.out).mono ?_
  rintro e w1 ⟨b, rfl, hb, hf⟩
  have G0 := hid_ hb
  replace F := hid_ (F.out.then_none hf)
  replace BC := hid_ (BC.out.fr hf id)
  replace H := hid_ (H.out.keep hf)
  clear hb hf
  cases b with
  | false =>
    go_wp2_with fail
    refine (awake11_ok w1).mono ?_
    rintro e w2 ⟨rfl, hf⟩
    go_wp2
    go_ret
    exact ⟨rfl, F.out.then_none hf⟩
  | true =>
    have HF := hid_ (G0.out rfl)
    clear G0
    go_wp2_with (refine wpList_load_mid rfl 75 (.tmp 1) rfl w.heap.size 0 rfl (czA c).toList _ (Blk.range7 (l := (czA c).toList) BC.out) Try.underlying75 rfl case_size ?_)
    refine (made11s_ok c L1 L2 w1 H.out HF.out).mono ?_
    rintro e w2 ⟨pv, a, ok, rfl, hsz, hoc, hvi, hfu, hf, hok, hsa⟩
    have VI := hid_ hvi
    have FU := hid_ hfu
    have SA := hid_ hsa
    have HOK := hid_ hok
    have HSZ := hid_ hsz
    have HOC := hid_ hoc
    replace F := hid_ (F.out.then_none hf)
    replace BC := hid_ (BC.out.fr hf id)
    replace H := hid_ (H.out.keep hf)
    have hsw := BC.out.lt
    clear hf hvi hfu hok hsz hoc hsa
    have hwB : Hid (w.heap.size ≤ w2.heap.size ∧ w.heap.size ≤ w2.heap.size + 1) := hid_ (by omega)
    go_upto_region 4 with (first | (obtain ⟨w3, hw3⟩ : ∃ z, z = ((w2.alloc (.cells pgZ 45)).alloc (.cells azZ 77)) := ⟨_, rfl⟩; have BZ : Hid (Blk w3 w2.heap.size 45 pgZ ∧ Blk w3 (w2.heap.size + 1) 77 azZ ∧ Fr none_ w2 w3) := hid_ (by rw [hw3]; exact ⟨(Blk.new w2 _ _).alloc _, Blk.new7 _ _ (by simp), ((Fr.refl none_ w2).alloc _).alloc _⟩); change wpList _ _ _ _ _ ((w2.alloc (.cells pgZ 45)).alloc (.cells azZ 77)); rw [← hw3]; clear hw3; refine wpList_store_mid rfl 45 (.tmp 3) (.tmp 17) rfl w2.heap.size 0 pv rfl rfl (by rw [HSZ.out]; exact BZ.out.1.there7 rfl) (by rw [HSZ.out]; exact page_size) HOC.out ?_; have ov := BZ.out.1.over7 pv.toList (by rw [Array.length_toList, HSZ.out]; rfl); obtain ⟨w4, hw4⟩ : ∃ z, z = w3.setCells w2.heap.size 0 pv.toList := ⟨_, rfl⟩; change wpList _ _ _ _ _ (w3.setCells w2.heap.size 0 pv.toList); rw [← hw4] at ov ⊢; clear hw4; have OV := hid_ ov; clear ov) | (refine wpList_store_mid rfl 77 (.tmp 4) (.tmp 18) rfl (w2.heap.size + 1) 0 (azA a) rfl rfl ((BZ.out.2.1.fr OV.out.2 (only_ne (by omega))).there7 rfl) above_size7 (by simp [Value.oneCell']) ?_; have ow := (BZ.out.2.1.fr OV.out.2 (only_ne (by omega))).over7 (azA a).toList rfl; obtain ⟨w5, hw5⟩ : ∃ z, z = w4.setCells (w2.heap.size + 1) 0 (azA a).toList := ⟨_, rfl⟩; change wpList _ _ _ _ _ (w4.setCells (w2.heap.size + 1) 0 (azA a).toList); rw [← hw5] at ow ⊢; clear hw5; have OW := hid_ ow; clear ow))
    have F5 : Hid (Fr none_ w w5) := hid_ (((F.out.then_none BZ.out.2.2).then_only OV.out.2 (.inr hwB.out.1)).then_only OW.out.2 (.inr hwB.out.2))
    have BA := hid_ OW.out.1
    have BP := hid_ (OV.out.1.fr OW.out.2 (only_ne (by omega)))
    have B5 := hid_ (((BC.out.fr BZ.out.2.2 id).fr OV.out.2 (only_ne (by omega))).fr OW.out.2 (only_ne (by omega)))
    have V5 : Hid (VwIn w5 a.V a.B a.d) := hid_ (((VI.out.keep BZ.out.2.2).farZ BZ.out.1 OV.out.2).farA (BZ.out.2.1.fr OV.out.2 (only_ne (by omega))) OW.out.2)
    clear hwB
    have f25 : Fr none_ w2 w5 := (BZ.out.2.2.then_only OV.out.2 (.inr (Nat.le_refl _))).then_only OW.out.2 (.inr (by omega))
    have H5 := hid_ (H.out.keep f25)
    clear f25
    cases ok with
    | false =>
      clear BZ OV OW
      go_wp2_with fail
      refine (awake11_ok w5).mono ?_
      rintro e w6 ⟨rfl, hf⟩
      go_wp2
      go_ret
      exact ⟨rfl, F5.out.then_none hf⟩
    | true =>
      obtain ⟨P, hpe, hpo, hpn, hpc, hpof⟩ := HOK.out rfl
      have HPE := hid_ hpe
      have PO := hid_ hpo
      have HOF := hid_ (And.intro hpn (And.intro hpc hpof))
      clear hpe hpo hpn hpc hpof
      have P5 : Hid (PzOk w5 P) := hid_ (by have h4 := PO.out; exact ⟨h4.low, h4.high, h4.rows, ((h4.iv.keep BZ.out.2.2).farZ BZ.out.1 OV.out.2).farA (BZ.out.2.1.fr OV.out.2 (only_ne (by omega))) OW.out.2, h4.nc⟩)
      have K5 := hid_ (H.out.key)
      rw [HPE.out] at BP
      have hlw2 := BP.out.lt
      have hlw3 := BA.out.lt
      clear BZ OV OW VI HOK HSZ HOC PO
      go_wp2_with (refine wpList_load_mid rfl 75 (.tmp 1) rfl w.heap.size 0 rfl (czA c).toList _ (Blk.range7 (l := (czA c).toList) B5.out) Try.underlying75 rfl case_size ?_)
      refine (known_ok c L1 L2 w5 H5.out HF.out HCP.out (by rw [HOF.out.2.2]; simp)).mono ?_
      rintro e w6 ⟨Q, a', rfl, hQ, hvr, hQn, hQc, hQof, hV', hsq, hvq, hf6⟩
      have HQO : Hid ((P.leaf, P.lv, P.iv) = (Q.leaf, Q.lv, Q.iv)) := hid_ (by have h := HOF.out.2.2; rw [hQof] at h; exact (Option.some.inj h).symm)
      have Q6 := hid_ hQ
      have W6 := hid_ hV'
      have hvv : a.some_ = true → a.V = a'.V := fun hs => (hvq _ (FU.out hs)).symm
      have hfa : a.some_ = true → Good a.V := fun hs => fold_good (FU.out hs)
      have hlen : L1.length = c.n1 := H5.out.i1.1
      have HDC : Hid (decM P a c.key c.l c.writes = decM Q a' c.key c.l c.writes) := hid_ (decM_congr HQO.out (HOF.out.1.trans hQn.symm) (HOF.out.2.1.trans (hlen.trans hQc.symm)) (SA.out.trans hsq.symm) hvv)
      have HDI : Hid (DecIn Q a') := hid_ ⟨(of_in11 hQof).1, (of_in11 hQof).2.1, (of_in11 hQof).2.2, fun hs => by have hs2 : a.some_ = true := (SA.out.trans hsq.symm).trans hs; rw [← hvv hs2]; exact hfa hs2⟩
      replace BP := hid_ (BP.out.fr hf6 id)
      replace B5 := hid_ (B5.out.fr hf6 id)
      replace P5 := hid_ (P5.out.keep hf6)
      replace F5 := hid_ (F5.out.then_none hf6)
      replace BA := hid_ (BA.out.fr hf6 id)
      replace V5 := hid_ (V5.out.keep hf6)
      have hsz6 := hf6.size
      clear hQ hQn hQc hQof hV' hf6 H5 hsq hvq hvv hfa hlen SA FU
      have hcw := B5.out.lt
      go_upto_region 7 with (first | (obtain ⟨w7, hw7⟩ : ∃ z, z = ((w6.alloc (.cells pgZ 68)).alloc (.cells azZ 91)) := ⟨_, rfl⟩; have BZ : Hid (Blk w7 w6.heap.size 68 pgZ ∧ Blk w7 (w6.heap.size + 1) 91 azZ ∧ Fr none_ w6 w7) := hid_ (by rw [hw7]; exact ⟨(Blk.new w6 _ _).alloc _, Blk.new7 _ _ (by simp), ((Fr.refl none_ w6).alloc _).alloc _⟩); change wpList _ _ _ _ _ ((w6.alloc (.cells pgZ 68)).alloc (.cells azZ 91)); rw [← hw7]; clear hw7; refine wpList_store_mid rfl 68 (.tmp 6) (.tmp 26) rfl w6.heap.size 0 (pzA Q) rfl rfl (BZ.out.1.there7 rfl) rpage_size (by simp [Value.oneCell']; exact hvr) ?_; have ov := BZ.out.1.over7 (pzA Q).toList rfl; obtain ⟨w8, hw8⟩ : ∃ z, z = w7.setCells w6.heap.size 0 (pzA Q).toList := ⟨_, rfl⟩; change wpList _ _ _ _ _ (w7.setCells w6.heap.size 0 (pzA Q).toList); rw [← hw8] at ov ⊢; clear hw8; have OV := hid_ ov; clear ov) | (refine wpList_store_mid rfl 91 (.tmp 7) (.tmp 27) rfl (w6.heap.size + 1) 0 (azA a') rfl rfl ((BZ.out.2.1.fr OV.out.2 (only_ne (by omega))).there7 rfl) rabove_size (by simp [Value.oneCell']) ?_; have ow := (BZ.out.2.1.fr OV.out.2 (only_ne (by omega))).over7 (azA a').toList rfl; obtain ⟨w9, hw9⟩ : ∃ z, z = w8.setCells (w6.heap.size + 1) 0 (azA a').toList := ⟨_, rfl⟩; change wpList _ _ _ _ _ (w8.setCells (w6.heap.size + 1) 0 (azA a').toList); rw [← hw9] at ow ⊢; clear hw9; have OW := hid_ ow; clear ow))
      have f69 : Fr none_ w6 w9 := (BZ.out.2.2.then_only OV.out.2 (.inr (Nat.le_refl _))).then_only OW.out.2 (.inr (by omega))
      have BQ := hid_ (OV.out.1.fr OW.out.2 (only_ne (by omega)))
      have BR := hid_ OW.out.1
      replace BA := hid_ (BA.out.fr f69 id)
      replace V5 := hid_ (V5.out.keep f69)
      replace W6 := hid_ (W6.out.keep f69)
      replace BP := hid_ (BP.out.fr f69 id)
      replace B5 := hid_ (B5.out.fr f69 id)
      replace P5 := hid_ (P5.out.keep f69)
      replace Q6 := hid_ (Q6.out.keep f69)
      replace F5 := hid_ (F5.out.then_none f69)
      clear f69 BZ OV OW
      obtain ⟨pk, pt, pe, pp, ph, pl, pq, hpn⟩ : ∃ (k t : Int) (e : ByteArray) (p h l : Int) (q : ByteArray), decM P a c.key c.l c.writes = ⟨k, t, e, p, h, l, q⟩ := ⟨_, _, _, _, _, _, _, rfl⟩
      have HPN := hid_ hpn.symm
      have HQN : Hid (decM Q a' c.key c.l c.writes = (⟨pk, pt, pe, pp, ph, pl, pq⟩ : Pn)) := hid_ (by rw [← hpn]; exact HDC.out.symm)
      clear hpn HDC
      obtain ⟨gp, hgp⟩ : ∃ g, g = w2.heap.size := ⟨_, rfl⟩
      obtain ⟨gq, hgq⟩ : ∃ g, g = w6.heap.size := ⟨_, rfl⟩
      rw [← hgp] at BP BA
      rw [← hgq] at BQ BR
      rw [← hgp, ← hgq]
      clear hgp hgq
      (try go_frame)
      go_cut [8, 9] (fun u v wq => ∃ g1 g2, u = .pointer (some ⟨g1, 0, none⟩) ∧ v = .pointer (some ⟨g2, 0, none⟩) ∧ Blk wq g1 81 (pnA (⟨pk, pt, pe, pp, ph, pl, pq⟩ : Pn)) ∧ Blk wq g2 94 (pnA (⟨pk, pt, pe, pp, ph, pl, pq⟩ : Pn)) ∧ Fr none_ w9 wq)
      case first =>
        have hS0 : (fun w' : World => Fr none_ w9 w') w9.drew := (Fr.refl none_ w9).drew
        refine wp_region_u 22 (fun w' : World => Fr none_ w9 w') (by kernel_rfl) ?_
        have k4 : w9.cell? ⟨w.heap.size, 4, none⟩ = some (.string c.key) := B5.out.cell' rfl
        have k11 : w9.cell? ⟨w.heap.size, 11, none⟩ = some (.bool c.writes) := B5.out.cell' rfl
        refine u_take 0 (some 28) (.agg (pzA P)) rfl rfl (by kernel_rfl) (by kernel_rfl) (by kernel_rfl) (by kernel_rfl) (fun _ _ _ h => h) (yieldsIf_load_mid (by kernel_rfl) 45 (.tmp 3) rfl gp 0 (by kernel_rfl) (pzA P).toList _ (fun w' hS => Blk.range7 (l := (pzA P).toList) (BP.out.fr hS id)) Try.underlying45 rfl page_size) hS0 ?_
        go_frame
        refine u_take 1 (some 29) (.agg (azA a)) rfl rfl (by kernel_rfl) (by kernel_rfl) (by kernel_rfl) (by kernel_rfl) (fun _ _ _ h => h) (yieldsIf_load_mid (by kernel_rfl) 77 (.tmp 4) rfl (gp + 1) 0 (by kernel_rfl) (azA a).toList _ (fun w' hS => Blk.range7 (l := (azA a).toList) (BA.out.fr hS id)) Try.underlying77 rfl above_size7) hS0 ?_
        go_frame
        refine u_take 2 (some 30) (.pointer (some ⟨w.heap.size, 4, none⟩)) rfl rfl (by kernel_rfl) (by kernel_rfl) (by kernel_rfl) (by kernel_rfl) (fun _ _ _ h => h) (y_val (by kernel_rfl) (fun w' hS => by kernel_rfl)) hS0 ?_
        go_frame
        refine u_take 3 (some 31) (.string c.key) rfl rfl (by kernel_rfl) (by kernel_rfl) (by kernel_rfl) (by kernel_rfl) (fun _ _ _ h => h) (y_cell 9 (.tmp 30) ⟨w.heap.size, 4, none⟩ _ (by kernel_rfl) rfl (by kernel_rfl) (fun w' hS => cellFr k4 hS) Try.underlying9 rfl) hS0 ?_
        go_frame
        refine u_take 4 (some 32) (.pointer (some ⟨w.heap.size, 5, none⟩)) rfl rfl (by kernel_rfl) (by kernel_rfl) (by kernel_rfl) (by kernel_rfl) (fun _ _ _ h => h) (y_val (by kernel_rfl) (fun w' hS => by kernel_rfl)) hS0 ?_
        go_frame
        refine u_take 5 (some 33) (.agg (l6A c.l)) rfl rfl (by kernel_rfl) (by kernel_rfl) (by kernel_rfl) (by kernel_rfl) (fun _ _ _ h => h) (yieldsIf_load_mid (by kernel_rfl) 28 (.tmp 32) rfl w.heap.size 5 (by kernel_rfl) (l6A c.l).toList _ (fun w' hS => lim_range c (B5.out.fr hS id)) Try.underlying28 rfl lim_size7) hS0 ?_
        go_frame
        refine u_take 6 (some 34) (.pointer (some ⟨w.heap.size, 11, none⟩)) rfl rfl (by kernel_rfl) (by kernel_rfl) (by kernel_rfl) (by kernel_rfl) (fun _ _ _ h => h) (y_val (by kernel_rfl) (fun w' hS => by kernel_rfl)) hS0 ?_
        go_frame
        refine u_take 7 (some 35) (.bool c.writes) rfl rfl (by kernel_rfl) (by kernel_rfl) (by kernel_rfl) (by kernel_rfl) (fun _ _ _ h => h) (y_cell 4 (.tmp 34) ⟨w.heap.size, 11, none⟩ _ (by kernel_rfl) rfl (by kernel_rfl) (fun w' hS => cellFr k11 hS) Try.underlying4 rfl) hS0 ?_
        go_frame
        refine u_take 9 (some 37) (.agg (pzA Q)) rfl rfl (by kernel_rfl) (by kernel_rfl) (by kernel_rfl) (by kernel_rfl) (fun _ _ _ h => h) (yieldsIf_load_mid (by kernel_rfl) 68 (.tmp 6) rfl gq 0 (by kernel_rfl) (pzA Q).toList _ (fun w' hS => Blk.range7 (l := (pzA Q).toList) (BQ.out.fr hS id)) Try.underlying68 rfl rpage_size) hS0 ?_
        go_frame
        refine u_take 10 (some 38) (.agg (azA a')) rfl rfl (by kernel_rfl) (by kernel_rfl) (by kernel_rfl) (by kernel_rfl) (fun _ _ _ h => h) (yieldsIf_load_mid (by kernel_rfl) 91 (.tmp 7) rfl (gq + 1) 0 (by kernel_rfl) (azA a').toList _ (fun w' hS => Blk.range7 (l := (azA a').toList) (BR.out.fr hS id)) Try.underlying91 rfl rabove_size) hS0 ?_
        go_frame
        refine u_take 11 (some 39) (.pointer (some ⟨w.heap.size, 4, none⟩)) rfl rfl (by kernel_rfl) (by kernel_rfl) (by kernel_rfl) (by kernel_rfl) (fun _ _ _ h => h) (y_val (by kernel_rfl) (fun w' hS => by kernel_rfl)) hS0 ?_
        go_frame
        refine u_take 12 (some 40) (.string c.key) rfl rfl (by kernel_rfl) (by kernel_rfl) (by kernel_rfl) (by kernel_rfl) (fun _ _ _ h => h) (y_cell 9 (.tmp 39) ⟨w.heap.size, 4, none⟩ _ (by kernel_rfl) rfl (by kernel_rfl) (fun w' hS => cellFr k4 hS) Try.underlying9 rfl) hS0 ?_
        go_frame
        refine u_take 13 (some 41) (.pointer (some ⟨w.heap.size, 5, none⟩)) rfl rfl (by kernel_rfl) (by kernel_rfl) (by kernel_rfl) (by kernel_rfl) (fun _ _ _ h => h) (y_val (by kernel_rfl) (fun w' hS => by kernel_rfl)) hS0 ?_
        go_frame
        refine u_take 14 (some 42) (.agg (l6A c.l)) rfl rfl (by kernel_rfl) (by kernel_rfl) (by kernel_rfl) (by kernel_rfl) (fun _ _ _ h => h) (yieldsIf_load_mid (by kernel_rfl) 28 (.tmp 41) rfl w.heap.size 5 (by kernel_rfl) (l6A c.l).toList _ (fun w' hS => lim_range c (B5.out.fr hS id)) Try.underlying28 rfl lim_size7) hS0 ?_
        go_frame
        refine u_take 15 (some 43) (.pointer (some ⟨w.heap.size, 11, none⟩)) rfl rfl (by kernel_rfl) (by kernel_rfl) (by kernel_rfl) (by kernel_rfl) (fun _ _ _ h => h) (y_val (by kernel_rfl) (fun w' hS => by kernel_rfl)) hS0 ?_
        go_frame
        refine u_take 16 (some 44) (.bool c.writes) rfl rfl (by kernel_rfl) (by kernel_rfl) (by kernel_rfl) (by kernel_rfl) (fun _ _ _ h => h) (y_cell 4 (.tmp 43) ⟨w.heap.size, 11, none⟩ _ (by kernel_rfl) rfl (by kernel_rfl) (fun w' hS => cellFr k11 hS) Try.underlying4 rfl) hS0 ?_
        go_frame
        clear k4 k11 hS0
        obtain ⟨y0, hy0⟩ : ∃ z, z = w9.drew := ⟨_, rfl⟩
        have F0a : Hid (Fr none_ w9 y0) := hid_ (by rw [hy0]; exact (Fr.refl none_ w9).drew)
        rw [← hy0]
        clear hy0
        refine u_three 8 18 19 rfl rfl rfl (by kernel_rfl) (by kernel_rfl) (by kernel_rfl) (by kernel_rfl) ?_ ?_ ?_
        · skip
          refine wp_callK 31 #[.agg (pzA P), .agg (azA a), .string c.key, .agg (l6A c.l), .bool c.writes] (.agg (pnA (⟨pk, pt, pe, pp, ph, pl, pq⟩ : Pn))) (Fr none_ y0) (by kernel_rfl) ((decide_ok P a c.key c.l c.writes y0 (P5.out.keep F0a.out) (V5.out.keep F0a.out) K5.out (fun _ w2 hp hv => upkeep_ok P a c.l w2 hp hv)).mono (fun e w' h => ⟨by rw [h.1, ← HPN.out], h.2⟩)) ?_
          intro y1 hf
          have sy1 := hf.size
          have F2 := hid_ (F0a.out.then_none hf)
          clear hf
          refine ⟨.inr F2.out, ?_⟩
          go_frame
          refine u_three 17 18 19 rfl rfl rfl (by kernel_rfl) (by kernel_rfl) (by kernel_rfl) (by kernel_rfl) ?_ ?_ ?_
          · skip
            refine wp_callK 39 #[.agg (pzA Q), .agg (azA a'), .string c.key, .agg (l6A c.l), .bool c.writes] (.agg (pnA (⟨pk, pt, pe, pp, ph, pl, pq⟩ : Pn))) (Fr none_ y1) (by kernel_rfl) ((rdecide_ok Q a' c.key c.l c.writes y1 (Q6.out.keep F2.out) (W6.out.keep F2.out) K5.out HDI.out).mono (fun e w' h => ⟨by rw [h.1, HQN.out], h.2⟩)) ?_
            intro y3 hf
            have sy3 := hf.size
            have F4 := hid_ (F2.out.then_none hf)
            clear hf
            refine ⟨.inr F4.out, ?_⟩
            go_frame
            refine u_two 18 19 rfl rfl (by kernel_rfl) (by kernel_rfl) (by kernel_rfl) ?_ ?_
            · skip
              refine wp_known (.pointer (some ⟨y3.heap.size, 0, none⟩)) (y3.alloc (.cells pnZ 81)) (by kernel_rfl) ⟨.inr (F4.out.alloc _), ?_⟩
              go_frame
              obtain ⟨y5, hy5⟩ : ∃ z, z = y3.alloc (.cells pnZ 81) := ⟨_, rfl⟩
              have sy5 : y3.heap.size < y5.heap.size := by rw [hy5]; simp [World.size_alloc]
              have f6 : Fr none_ y3 y5 := by rw [hy5]; exact (Fr.refl none_ _).alloc _
              have B8 : Hid (Blk y5 y3.heap.size 81 pnZ) := hid_ (by rw [hy5]; exact Blk.new _ _ _)
              have F7 := hid_ (F4.out.then_none f6)
              rw [← hy5]
              clear hy5 f6
              refine u_run 19 (some 9) (.pointer (some ⟨y5.heap.size, 0, none⟩)) (y5.alloc (.cells pnZ 94)) rfl rfl (by kernel_rfl) (by kernel_rfl) (by kernel_rfl) (.inr (F7.out.alloc _)) ?_
              go_frame
              obtain ⟨y9, hy9⟩ : ∃ z, z = y5.alloc (.cells pnZ 94) := ⟨_, rfl⟩
              have sy9 : y5.heap.size < y9.heap.size := by rw [hy9]; simp [World.size_alloc]
              have f10 : Fr none_ y5 y9 := by rw [hy9]; exact (Fr.refl none_ _).alloc _
              replace B8 := hid_ (B8.out.fr f10 id)
              have B12 : Hid (Blk y9 y5.heap.size 94 pnZ) := hid_ (by rw [hy9]; exact Blk.new _ _ _)
              have F11 := hid_ (F7.out.then_none f10)
              rw [← hy9]
              clear hy9 f10
              refine u_store 20 81 (.tmp 8) (.tmp 36) (y3.heap.size) 0 (pnA (⟨pk, pt, pe, pp, ph, pl, pq⟩ : Pn)) rfl rfl (by kernel_rfl) (by kernel_rfl) rfl (by kernel_rfl) (by kernel_rfl) (B8.out.there7 rfl) plan_size (by simp [Value.oneCell']) ?_
              intro y13 hy13
              have ov := B8.out.over7 (pnA (⟨pk, pt, pe, pp, ph, pl, pq⟩ : Pn)).toList rfl
              rw [← hy13] at ov
              have B15 := hid_ ov.1
              replace B12 := hid_ (B12.out.fr ov.2 (only_ne (by omega)))
              have hge := F4.out.size
              have F14 := hid_ (F11.out.then_only ov.2 (.inr (by omega)))
              clear hy13 ov hge
              refine ⟨F14.out, ?_⟩
              refine u_store 21 94 (.tmp 9) (.tmp 45) (y5.heap.size) 0 (pnA (⟨pk, pt, pe, pp, ph, pl, pq⟩ : Pn)) rfl rfl (by kernel_rfl) (by kernel_rfl) rfl (by kernel_rfl) (by kernel_rfl) (B12.out.there7 rfl) rplan_size (by simp [Value.oneCell']) ?_
              intro y16 hy16
              have ov := B12.out.over7 (pnA (⟨pk, pt, pe, pp, ph, pl, pq⟩ : Pn)).toList rfl
              rw [← hy16] at ov
              have B18 := hid_ ov.1
              replace B15 := hid_ (B15.out.fr ov.2 (only_ne (by omega)))
              have hge := F7.out.size
              have F17 := hid_ (F14.out.then_only ov.2 (.inr (by omega)))
              clear hy16 ov hge
              refine ⟨F17.out, ?_⟩
              refine u_done (by kernel_rfl) ?_
              (try simp only [Exit.then])
              (try go_frame)
              (first | (rename_i hKm; refine hKm _ _ ?_) | (rename_i hKm _; refine hKm _ _ ?_) | (rename_i hKm _ _; refine hKm _ _ ?_) | (rename_i hKm _ _ _; refine hKm _ _ ?_))
              go_meet
              case rel => exact ⟨_, _, rfl, rfl, B15.out, B18.out, F17.out⟩
            · skip
              refine wp_known (.pointer (some ⟨y3.heap.size, 0, none⟩)) (y3.alloc (.cells pnZ 94)) (by kernel_rfl) ⟨.inr (F4.out.alloc _), ?_⟩
              go_frame
              obtain ⟨y19, hy19⟩ : ∃ z, z = y3.alloc (.cells pnZ 94) := ⟨_, rfl⟩
              have sy19 : y3.heap.size < y19.heap.size := by rw [hy19]; simp [World.size_alloc]
              have f20 : Fr none_ y3 y19 := by rw [hy19]; exact (Fr.refl none_ _).alloc _
              have B22 : Hid (Blk y19 y3.heap.size 94 pnZ) := hid_ (by rw [hy19]; exact Blk.new _ _ _)
              have F21 := hid_ (F4.out.then_none f20)
              rw [← hy19]
              clear hy19 f20
              refine u_run 18 (some 8) (.pointer (some ⟨y19.heap.size, 0, none⟩)) (y19.alloc (.cells pnZ 81)) rfl rfl (by kernel_rfl) (by kernel_rfl) (by kernel_rfl) (.inr (F21.out.alloc _)) ?_
              go_frame
              obtain ⟨y23, hy23⟩ : ∃ z, z = y19.alloc (.cells pnZ 81) := ⟨_, rfl⟩
              have sy23 : y19.heap.size < y23.heap.size := by rw [hy23]; simp [World.size_alloc]
              have f24 : Fr none_ y19 y23 := by rw [hy23]; exact (Fr.refl none_ _).alloc _
              replace B22 := hid_ (B22.out.fr f24 id)
              have B26 : Hid (Blk y23 y19.heap.size 81 pnZ) := hid_ (by rw [hy23]; exact Blk.new _ _ _)
              have F25 := hid_ (F21.out.then_none f24)
              rw [← hy23]
              clear hy23 f24
              refine u_store 20 81 (.tmp 8) (.tmp 36) (y19.heap.size) 0 (pnA (⟨pk, pt, pe, pp, ph, pl, pq⟩ : Pn)) rfl rfl (by kernel_rfl) (by kernel_rfl) rfl (by kernel_rfl) (by kernel_rfl) (B26.out.there7 rfl) plan_size (by simp [Value.oneCell']) ?_
              intro y27 hy27
              have ov := B26.out.over7 (pnA (⟨pk, pt, pe, pp, ph, pl, pq⟩ : Pn)).toList rfl
              rw [← hy27] at ov
              have B29 := hid_ ov.1
              replace B22 := hid_ (B22.out.fr ov.2 (only_ne (by omega)))
              have hge := F21.out.size
              have F28 := hid_ (F25.out.then_only ov.2 (.inr (by omega)))
              clear hy27 ov hge
              refine ⟨F28.out, ?_⟩
              refine u_store 21 94 (.tmp 9) (.tmp 45) (y3.heap.size) 0 (pnA (⟨pk, pt, pe, pp, ph, pl, pq⟩ : Pn)) rfl rfl (by kernel_rfl) (by kernel_rfl) rfl (by kernel_rfl) (by kernel_rfl) (B22.out.there7 rfl) rplan_size (by simp [Value.oneCell']) ?_
              intro y30 hy30
              have ov := B22.out.over7 (pnA (⟨pk, pt, pe, pp, ph, pl, pq⟩ : Pn)).toList rfl
              rw [← hy30] at ov
              have B32 := hid_ ov.1
              replace B29 := hid_ (B29.out.fr ov.2 (only_ne (by omega)))
              have hge := F4.out.size
              have F31 := hid_ (F28.out.then_only ov.2 (.inr (by omega)))
              clear hy30 ov hge
              refine ⟨F31.out, ?_⟩
              refine u_done (by kernel_rfl) ?_
              (try simp only [Exit.then])
              (try go_frame)
              (first | (rename_i hKm; refine hKm _ _ ?_) | (rename_i hKm _; refine hKm _ _ ?_) | (rename_i hKm _ _; refine hKm _ _ ?_) | (rename_i hKm _ _ _; refine hKm _ _ ?_))
              go_meet
              case rel => exact ⟨_, _, rfl, rfl, B29.out, B32.out, F31.out⟩
          · skip
            refine wp_known (.pointer (some ⟨y1.heap.size, 0, none⟩)) (y1.alloc (.cells pnZ 81)) (by kernel_rfl) ⟨.inr (F2.out.alloc _), ?_⟩
            go_frame
            obtain ⟨y33, hy33⟩ : ∃ z, z = y1.alloc (.cells pnZ 81) := ⟨_, rfl⟩
            have sy33 : y1.heap.size < y33.heap.size := by rw [hy33]; simp [World.size_alloc]
            have f34 : Fr none_ y1 y33 := by rw [hy33]; exact (Fr.refl none_ _).alloc _
            have B36 : Hid (Blk y33 y1.heap.size 81 pnZ) := hid_ (by rw [hy33]; exact Blk.new _ _ _)
            have F35 := hid_ (F2.out.then_none f34)
            rw [← hy33]
            clear hy33 f34
            refine u_two 17 19 rfl rfl (by kernel_rfl) (by kernel_rfl) (by kernel_rfl) ?_ ?_
            · skip
              refine wp_callK 39 #[.agg (pzA Q), .agg (azA a'), .string c.key, .agg (l6A c.l), .bool c.writes] (.agg (pnA (⟨pk, pt, pe, pp, ph, pl, pq⟩ : Pn))) (Fr none_ y33) (by kernel_rfl) ((rdecide_ok Q a' c.key c.l c.writes y33 (Q6.out.keep F35.out) (W6.out.keep F35.out) K5.out HDI.out).mono (fun e w' h => ⟨by rw [h.1, HQN.out], h.2⟩)) ?_
              intro y37 hf
              have sy37 := hf.size
              replace B36 := hid_ (B36.out.fr hf id)
              have F38 := hid_ (F35.out.then_none hf)
              clear hf
              refine ⟨.inr F38.out, ?_⟩
              go_frame
              refine u_run 19 (some 9) (.pointer (some ⟨y37.heap.size, 0, none⟩)) (y37.alloc (.cells pnZ 94)) rfl rfl (by kernel_rfl) (by kernel_rfl) (by kernel_rfl) (.inr (F38.out.alloc _)) ?_
              go_frame
              obtain ⟨y39, hy39⟩ : ∃ z, z = y37.alloc (.cells pnZ 94) := ⟨_, rfl⟩
              have sy39 : y37.heap.size < y39.heap.size := by rw [hy39]; simp [World.size_alloc]
              have f40 : Fr none_ y37 y39 := by rw [hy39]; exact (Fr.refl none_ _).alloc _
              replace B36 := hid_ (B36.out.fr f40 id)
              have B42 : Hid (Blk y39 y37.heap.size 94 pnZ) := hid_ (by rw [hy39]; exact Blk.new _ _ _)
              have F41 := hid_ (F38.out.then_none f40)
              rw [← hy39]
              clear hy39 f40
              refine u_store 20 81 (.tmp 8) (.tmp 36) (y1.heap.size) 0 (pnA (⟨pk, pt, pe, pp, ph, pl, pq⟩ : Pn)) rfl rfl (by kernel_rfl) (by kernel_rfl) rfl (by kernel_rfl) (by kernel_rfl) (B36.out.there7 rfl) plan_size (by simp [Value.oneCell']) ?_
              intro y43 hy43
              have ov := B36.out.over7 (pnA (⟨pk, pt, pe, pp, ph, pl, pq⟩ : Pn)).toList rfl
              rw [← hy43] at ov
              have B45 := hid_ ov.1
              replace B42 := hid_ (B42.out.fr ov.2 (only_ne (by omega)))
              have hge := F2.out.size
              have F44 := hid_ (F41.out.then_only ov.2 (.inr (by omega)))
              clear hy43 ov hge
              refine ⟨F44.out, ?_⟩
              refine u_store 21 94 (.tmp 9) (.tmp 45) (y37.heap.size) 0 (pnA (⟨pk, pt, pe, pp, ph, pl, pq⟩ : Pn)) rfl rfl (by kernel_rfl) (by kernel_rfl) rfl (by kernel_rfl) (by kernel_rfl) (B42.out.there7 rfl) rplan_size (by simp [Value.oneCell']) ?_
              intro y46 hy46
              have ov := B42.out.over7 (pnA (⟨pk, pt, pe, pp, ph, pl, pq⟩ : Pn)).toList rfl
              rw [← hy46] at ov
              have B48 := hid_ ov.1
              replace B45 := hid_ (B45.out.fr ov.2 (only_ne (by omega)))
              have hge := F38.out.size
              have F47 := hid_ (F44.out.then_only ov.2 (.inr (by omega)))
              clear hy46 ov hge
              refine ⟨F47.out, ?_⟩
              refine u_done (by kernel_rfl) ?_
              (try simp only [Exit.then])
              (try go_frame)
              (first | (rename_i hKm; refine hKm _ _ ?_) | (rename_i hKm _; refine hKm _ _ ?_) | (rename_i hKm _ _; refine hKm _ _ ?_) | (rename_i hKm _ _ _; refine hKm _ _ ?_))
              go_meet
              case rel => exact ⟨_, _, rfl, rfl, B45.out, B48.out, F47.out⟩
            · skip
              refine wp_known (.pointer (some ⟨y33.heap.size, 0, none⟩)) (y33.alloc (.cells pnZ 94)) (by kernel_rfl) ⟨.inr (F35.out.alloc _), ?_⟩
              go_frame
              obtain ⟨y49, hy49⟩ : ∃ z, z = y33.alloc (.cells pnZ 94) := ⟨_, rfl⟩
              have sy49 : y33.heap.size < y49.heap.size := by rw [hy49]; simp [World.size_alloc]
              have f50 : Fr none_ y33 y49 := by rw [hy49]; exact (Fr.refl none_ _).alloc _
              replace B36 := hid_ (B36.out.fr f50 id)
              have B52 : Hid (Blk y49 y33.heap.size 94 pnZ) := hid_ (by rw [hy49]; exact Blk.new _ _ _)
              have F51 := hid_ (F35.out.then_none f50)
              rw [← hy49]
              clear hy49 f50
              refine u_call 17 (some 45) 39 #[.agg (pzA Q), .agg (azA a'), .string c.key, .agg (l6A c.l), .bool c.writes] (.agg (pnA (⟨pk, pt, pe, pp, ph, pl, pq⟩ : Pn))) (Fr none_ y49) rfl rfl (by kernel_rfl) (by kernel_rfl) (by kernel_rfl) ((rdecide_ok Q a' c.key c.l c.writes y49 (Q6.out.keep F51.out) (W6.out.keep F51.out) K5.out HDI.out).mono (fun e w' h => ⟨by rw [h.1, HQN.out], h.2⟩)) ?_
              intro y53 hf
              have sy53 := hf.size
              replace B36 := hid_ (B36.out.fr hf id)
              replace B52 := hid_ (B52.out.fr hf id)
              have F54 := hid_ (F51.out.then_none hf)
              clear hf
              refine ⟨F54.out, ?_⟩
              go_frame
              refine u_store 20 81 (.tmp 8) (.tmp 36) (y1.heap.size) 0 (pnA (⟨pk, pt, pe, pp, ph, pl, pq⟩ : Pn)) rfl rfl (by kernel_rfl) (by kernel_rfl) rfl (by kernel_rfl) (by kernel_rfl) (B36.out.there7 rfl) plan_size (by simp [Value.oneCell']) ?_
              intro y55 hy55
              have ov := B36.out.over7 (pnA (⟨pk, pt, pe, pp, ph, pl, pq⟩ : Pn)).toList rfl
              rw [← hy55] at ov
              have B57 := hid_ ov.1
              replace B52 := hid_ (B52.out.fr ov.2 (only_ne (by omega)))
              have hge := F2.out.size
              have F56 := hid_ (F54.out.then_only ov.2 (.inr (by omega)))
              clear hy55 ov hge
              refine ⟨F56.out, ?_⟩
              refine u_store 21 94 (.tmp 9) (.tmp 45) (y33.heap.size) 0 (pnA (⟨pk, pt, pe, pp, ph, pl, pq⟩ : Pn)) rfl rfl (by kernel_rfl) (by kernel_rfl) rfl (by kernel_rfl) (by kernel_rfl) (B52.out.there7 rfl) rplan_size (by simp [Value.oneCell']) ?_
              intro y58 hy58
              have ov := B52.out.over7 (pnA (⟨pk, pt, pe, pp, ph, pl, pq⟩ : Pn)).toList rfl
              rw [← hy58] at ov
              have B60 := hid_ ov.1
              replace B57 := hid_ (B57.out.fr ov.2 (only_ne (by omega)))
              have hge := F35.out.size
              have F59 := hid_ (F56.out.then_only ov.2 (.inr (by omega)))
              clear hy58 ov hge
              refine ⟨F59.out, ?_⟩
              refine u_done (by kernel_rfl) ?_
              (try simp only [Exit.then])
              (try go_frame)
              (first | (rename_i hKm; refine hKm _ _ ?_) | (rename_i hKm _; refine hKm _ _ ?_) | (rename_i hKm _ _; refine hKm _ _ ?_) | (rename_i hKm _ _ _; refine hKm _ _ ?_))
              go_meet
              case rel => exact ⟨_, _, rfl, rfl, B57.out, B60.out, F59.out⟩
          · skip
            refine wp_known (.pointer (some ⟨y1.heap.size, 0, none⟩)) (y1.alloc (.cells pnZ 94)) (by kernel_rfl) ⟨.inr (F2.out.alloc _), ?_⟩
            go_frame
            obtain ⟨y61, hy61⟩ : ∃ z, z = y1.alloc (.cells pnZ 94) := ⟨_, rfl⟩
            have sy61 : y1.heap.size < y61.heap.size := by rw [hy61]; simp [World.size_alloc]
            have f62 : Fr none_ y1 y61 := by rw [hy61]; exact (Fr.refl none_ _).alloc _
            have B64 : Hid (Blk y61 y1.heap.size 94 pnZ) := hid_ (by rw [hy61]; exact Blk.new _ _ _)
            have F63 := hid_ (F2.out.then_none f62)
            rw [← hy61]
            clear hy61 f62
            refine u_two 17 18 rfl rfl (by kernel_rfl) (by kernel_rfl) (by kernel_rfl) ?_ ?_
            · skip
              refine wp_callK 39 #[.agg (pzA Q), .agg (azA a'), .string c.key, .agg (l6A c.l), .bool c.writes] (.agg (pnA (⟨pk, pt, pe, pp, ph, pl, pq⟩ : Pn))) (Fr none_ y61) (by kernel_rfl) ((rdecide_ok Q a' c.key c.l c.writes y61 (Q6.out.keep F63.out) (W6.out.keep F63.out) K5.out HDI.out).mono (fun e w' h => ⟨by rw [h.1, HQN.out], h.2⟩)) ?_
              intro y65 hf
              have sy65 := hf.size
              replace B64 := hid_ (B64.out.fr hf id)
              have F66 := hid_ (F63.out.then_none hf)
              clear hf
              refine ⟨.inr F66.out, ?_⟩
              go_frame
              refine u_run 18 (some 8) (.pointer (some ⟨y65.heap.size, 0, none⟩)) (y65.alloc (.cells pnZ 81)) rfl rfl (by kernel_rfl) (by kernel_rfl) (by kernel_rfl) (.inr (F66.out.alloc _)) ?_
              go_frame
              obtain ⟨y67, hy67⟩ : ∃ z, z = y65.alloc (.cells pnZ 81) := ⟨_, rfl⟩
              have sy67 : y65.heap.size < y67.heap.size := by rw [hy67]; simp [World.size_alloc]
              have f68 : Fr none_ y65 y67 := by rw [hy67]; exact (Fr.refl none_ _).alloc _
              replace B64 := hid_ (B64.out.fr f68 id)
              have B70 : Hid (Blk y67 y65.heap.size 81 pnZ) := hid_ (by rw [hy67]; exact Blk.new _ _ _)
              have F69 := hid_ (F66.out.then_none f68)
              rw [← hy67]
              clear hy67 f68
              refine u_store 20 81 (.tmp 8) (.tmp 36) (y65.heap.size) 0 (pnA (⟨pk, pt, pe, pp, ph, pl, pq⟩ : Pn)) rfl rfl (by kernel_rfl) (by kernel_rfl) rfl (by kernel_rfl) (by kernel_rfl) (B70.out.there7 rfl) plan_size (by simp [Value.oneCell']) ?_
              intro y71 hy71
              have ov := B70.out.over7 (pnA (⟨pk, pt, pe, pp, ph, pl, pq⟩ : Pn)).toList rfl
              rw [← hy71] at ov
              have B73 := hid_ ov.1
              replace B64 := hid_ (B64.out.fr ov.2 (only_ne (by omega)))
              have hge := F66.out.size
              have F72 := hid_ (F69.out.then_only ov.2 (.inr (by omega)))
              clear hy71 ov hge
              refine ⟨F72.out, ?_⟩
              refine u_store 21 94 (.tmp 9) (.tmp 45) (y1.heap.size) 0 (pnA (⟨pk, pt, pe, pp, ph, pl, pq⟩ : Pn)) rfl rfl (by kernel_rfl) (by kernel_rfl) rfl (by kernel_rfl) (by kernel_rfl) (B64.out.there7 rfl) rplan_size (by simp [Value.oneCell']) ?_
              intro y74 hy74
              have ov := B64.out.over7 (pnA (⟨pk, pt, pe, pp, ph, pl, pq⟩ : Pn)).toList rfl
              rw [← hy74] at ov
              have B76 := hid_ ov.1
              replace B73 := hid_ (B73.out.fr ov.2 (only_ne (by omega)))
              have hge := F2.out.size
              have F75 := hid_ (F72.out.then_only ov.2 (.inr (by omega)))
              clear hy74 ov hge
              refine ⟨F75.out, ?_⟩
              refine u_done (by kernel_rfl) ?_
              (try simp only [Exit.then])
              (try go_frame)
              (first | (rename_i hKm; refine hKm _ _ ?_) | (rename_i hKm _; refine hKm _ _ ?_) | (rename_i hKm _ _; refine hKm _ _ ?_) | (rename_i hKm _ _ _; refine hKm _ _ ?_))
              go_meet
              case rel => exact ⟨_, _, rfl, rfl, B73.out, B76.out, F75.out⟩
            · skip
              refine wp_known (.pointer (some ⟨y61.heap.size, 0, none⟩)) (y61.alloc (.cells pnZ 81)) (by kernel_rfl) ⟨.inr (F63.out.alloc _), ?_⟩
              go_frame
              obtain ⟨y77, hy77⟩ : ∃ z, z = y61.alloc (.cells pnZ 81) := ⟨_, rfl⟩
              have sy77 : y61.heap.size < y77.heap.size := by rw [hy77]; simp [World.size_alloc]
              have f78 : Fr none_ y61 y77 := by rw [hy77]; exact (Fr.refl none_ _).alloc _
              replace B64 := hid_ (B64.out.fr f78 id)
              have B80 : Hid (Blk y77 y61.heap.size 81 pnZ) := hid_ (by rw [hy77]; exact Blk.new _ _ _)
              have F79 := hid_ (F63.out.then_none f78)
              rw [← hy77]
              clear hy77 f78
              refine u_call 17 (some 45) 39 #[.agg (pzA Q), .agg (azA a'), .string c.key, .agg (l6A c.l), .bool c.writes] (.agg (pnA (⟨pk, pt, pe, pp, ph, pl, pq⟩ : Pn))) (Fr none_ y77) rfl rfl (by kernel_rfl) (by kernel_rfl) (by kernel_rfl) ((rdecide_ok Q a' c.key c.l c.writes y77 (Q6.out.keep F79.out) (W6.out.keep F79.out) K5.out HDI.out).mono (fun e w' h => ⟨by rw [h.1, HQN.out], h.2⟩)) ?_
              intro y81 hf
              have sy81 := hf.size
              replace B64 := hid_ (B64.out.fr hf id)
              replace B80 := hid_ (B80.out.fr hf id)
              have F82 := hid_ (F79.out.then_none hf)
              clear hf
              refine ⟨F82.out, ?_⟩
              go_frame
              refine u_store 20 81 (.tmp 8) (.tmp 36) (y61.heap.size) 0 (pnA (⟨pk, pt, pe, pp, ph, pl, pq⟩ : Pn)) rfl rfl (by kernel_rfl) (by kernel_rfl) rfl (by kernel_rfl) (by kernel_rfl) (B80.out.there7 rfl) plan_size (by simp [Value.oneCell']) ?_
              intro y83 hy83
              have ov := B80.out.over7 (pnA (⟨pk, pt, pe, pp, ph, pl, pq⟩ : Pn)).toList rfl
              rw [← hy83] at ov
              have B85 := hid_ ov.1
              replace B64 := hid_ (B64.out.fr ov.2 (only_ne (by omega)))
              have hge := F63.out.size
              have F84 := hid_ (F82.out.then_only ov.2 (.inr (by omega)))
              clear hy83 ov hge
              refine ⟨F84.out, ?_⟩
              refine u_store 21 94 (.tmp 9) (.tmp 45) (y1.heap.size) 0 (pnA (⟨pk, pt, pe, pp, ph, pl, pq⟩ : Pn)) rfl rfl (by kernel_rfl) (by kernel_rfl) rfl (by kernel_rfl) (by kernel_rfl) (B64.out.there7 rfl) rplan_size (by simp [Value.oneCell']) ?_
              intro y86 hy86
              have ov := B64.out.over7 (pnA (⟨pk, pt, pe, pp, ph, pl, pq⟩ : Pn)).toList rfl
              rw [← hy86] at ov
              have B88 := hid_ ov.1
              replace B85 := hid_ (B85.out.fr ov.2 (only_ne (by omega)))
              have hge := F2.out.size
              have F87 := hid_ (F84.out.then_only ov.2 (.inr (by omega)))
              clear hy86 ov hge
              refine ⟨F87.out, ?_⟩
              refine u_done (by kernel_rfl) ?_
              (try simp only [Exit.then])
              (try go_frame)
              (first | (rename_i hKm; refine hKm _ _ ?_) | (rename_i hKm _; refine hKm _ _ ?_) | (rename_i hKm _ _; refine hKm _ _ ?_) | (rename_i hKm _ _ _; refine hKm _ _ ?_))
              go_meet
              case rel => exact ⟨_, _, rfl, rfl, B85.out, B88.out, F87.out⟩
        · skip
          refine wp_known (.pointer (some ⟨y0.heap.size, 0, none⟩)) (y0.alloc (.cells pnZ 81)) (by kernel_rfl) ⟨.inr (F0a.out.alloc _), ?_⟩
          go_frame
          obtain ⟨y89, hy89⟩ : ∃ z, z = y0.alloc (.cells pnZ 81) := ⟨_, rfl⟩
          have sy89 : y0.heap.size < y89.heap.size := by rw [hy89]; simp [World.size_alloc]
          have f90 : Fr none_ y0 y89 := by rw [hy89]; exact (Fr.refl none_ _).alloc _
          have B92 : Hid (Blk y89 y0.heap.size 81 pnZ) := hid_ (by rw [hy89]; exact Blk.new _ _ _)
          have F91 := hid_ (F0a.out.then_none f90)
          rw [← hy89]
          clear hy89 f90
          refine u_two 8 19 rfl rfl (by kernel_rfl) (by kernel_rfl) (by kernel_rfl) ?_ ?_
          · skip
            refine wp_callK 31 #[.agg (pzA P), .agg (azA a), .string c.key, .agg (l6A c.l), .bool c.writes] (.agg (pnA (⟨pk, pt, pe, pp, ph, pl, pq⟩ : Pn))) (Fr none_ y89) (by kernel_rfl) ((decide_ok P a c.key c.l c.writes y89 (P5.out.keep F91.out) (V5.out.keep F91.out) K5.out (fun _ w2 hp hv => upkeep_ok P a c.l w2 hp hv)).mono (fun e w' h => ⟨by rw [h.1, ← HPN.out], h.2⟩)) ?_
            intro y93 hf
            have sy93 := hf.size
            replace B92 := hid_ (B92.out.fr hf id)
            have F94 := hid_ (F91.out.then_none hf)
            clear hf
            refine ⟨.inr F94.out, ?_⟩
            go_frame
            refine u_two 17 19 rfl rfl (by kernel_rfl) (by kernel_rfl) (by kernel_rfl) ?_ ?_
            · skip
              refine wp_callK 39 #[.agg (pzA Q), .agg (azA a'), .string c.key, .agg (l6A c.l), .bool c.writes] (.agg (pnA (⟨pk, pt, pe, pp, ph, pl, pq⟩ : Pn))) (Fr none_ y93) (by kernel_rfl) ((rdecide_ok Q a' c.key c.l c.writes y93 (Q6.out.keep F94.out) (W6.out.keep F94.out) K5.out HDI.out).mono (fun e w' h => ⟨by rw [h.1, HQN.out], h.2⟩)) ?_
              intro y95 hf
              have sy95 := hf.size
              replace B92 := hid_ (B92.out.fr hf id)
              have F96 := hid_ (F94.out.then_none hf)
              clear hf
              refine ⟨.inr F96.out, ?_⟩
              go_frame
              refine u_run 19 (some 9) (.pointer (some ⟨y95.heap.size, 0, none⟩)) (y95.alloc (.cells pnZ 94)) rfl rfl (by kernel_rfl) (by kernel_rfl) (by kernel_rfl) (.inr (F96.out.alloc _)) ?_
              go_frame
              obtain ⟨y97, hy97⟩ : ∃ z, z = y95.alloc (.cells pnZ 94) := ⟨_, rfl⟩
              have sy97 : y95.heap.size < y97.heap.size := by rw [hy97]; simp [World.size_alloc]
              have f98 : Fr none_ y95 y97 := by rw [hy97]; exact (Fr.refl none_ _).alloc _
              replace B92 := hid_ (B92.out.fr f98 id)
              have B100 : Hid (Blk y97 y95.heap.size 94 pnZ) := hid_ (by rw [hy97]; exact Blk.new _ _ _)
              have F99 := hid_ (F96.out.then_none f98)
              rw [← hy97]
              clear hy97 f98
              refine u_store 20 81 (.tmp 8) (.tmp 36) (y0.heap.size) 0 (pnA (⟨pk, pt, pe, pp, ph, pl, pq⟩ : Pn)) rfl rfl (by kernel_rfl) (by kernel_rfl) rfl (by kernel_rfl) (by kernel_rfl) (B92.out.there7 rfl) plan_size (by simp [Value.oneCell']) ?_
              intro y101 hy101
              have ov := B92.out.over7 (pnA (⟨pk, pt, pe, pp, ph, pl, pq⟩ : Pn)).toList rfl
              rw [← hy101] at ov
              have B103 := hid_ ov.1
              replace B100 := hid_ (B100.out.fr ov.2 (only_ne (by omega)))
              have hge := F0a.out.size
              have F102 := hid_ (F99.out.then_only ov.2 (.inr (by omega)))
              clear hy101 ov hge
              refine ⟨F102.out, ?_⟩
              refine u_store 21 94 (.tmp 9) (.tmp 45) (y95.heap.size) 0 (pnA (⟨pk, pt, pe, pp, ph, pl, pq⟩ : Pn)) rfl rfl (by kernel_rfl) (by kernel_rfl) rfl (by kernel_rfl) (by kernel_rfl) (B100.out.there7 rfl) rplan_size (by simp [Value.oneCell']) ?_
              intro y104 hy104
              have ov := B100.out.over7 (pnA (⟨pk, pt, pe, pp, ph, pl, pq⟩ : Pn)).toList rfl
              rw [← hy104] at ov
              have B106 := hid_ ov.1
              replace B103 := hid_ (B103.out.fr ov.2 (only_ne (by omega)))
              have hge := F96.out.size
              have F105 := hid_ (F102.out.then_only ov.2 (.inr (by omega)))
              clear hy104 ov hge
              refine ⟨F105.out, ?_⟩
              refine u_done (by kernel_rfl) ?_
              (try simp only [Exit.then])
              (try go_frame)
              (first | (rename_i hKm; refine hKm _ _ ?_) | (rename_i hKm _; refine hKm _ _ ?_) | (rename_i hKm _ _; refine hKm _ _ ?_) | (rename_i hKm _ _ _; refine hKm _ _ ?_))
              go_meet
              case rel => exact ⟨_, _, rfl, rfl, B103.out, B106.out, F105.out⟩
            · skip
              refine wp_known (.pointer (some ⟨y93.heap.size, 0, none⟩)) (y93.alloc (.cells pnZ 94)) (by kernel_rfl) ⟨.inr (F94.out.alloc _), ?_⟩
              go_frame
              obtain ⟨y107, hy107⟩ : ∃ z, z = y93.alloc (.cells pnZ 94) := ⟨_, rfl⟩
              have sy107 : y93.heap.size < y107.heap.size := by rw [hy107]; simp [World.size_alloc]
              have f108 : Fr none_ y93 y107 := by rw [hy107]; exact (Fr.refl none_ _).alloc _
              replace B92 := hid_ (B92.out.fr f108 id)
              have B110 : Hid (Blk y107 y93.heap.size 94 pnZ) := hid_ (by rw [hy107]; exact Blk.new _ _ _)
              have F109 := hid_ (F94.out.then_none f108)
              rw [← hy107]
              clear hy107 f108
              refine u_call 17 (some 45) 39 #[.agg (pzA Q), .agg (azA a'), .string c.key, .agg (l6A c.l), .bool c.writes] (.agg (pnA (⟨pk, pt, pe, pp, ph, pl, pq⟩ : Pn))) (Fr none_ y107) rfl rfl (by kernel_rfl) (by kernel_rfl) (by kernel_rfl) ((rdecide_ok Q a' c.key c.l c.writes y107 (Q6.out.keep F109.out) (W6.out.keep F109.out) K5.out HDI.out).mono (fun e w' h => ⟨by rw [h.1, HQN.out], h.2⟩)) ?_
              intro y111 hf
              have sy111 := hf.size
              replace B92 := hid_ (B92.out.fr hf id)
              replace B110 := hid_ (B110.out.fr hf id)
              have F112 := hid_ (F109.out.then_none hf)
              clear hf
              refine ⟨F112.out, ?_⟩
              go_frame
              refine u_store 20 81 (.tmp 8) (.tmp 36) (y0.heap.size) 0 (pnA (⟨pk, pt, pe, pp, ph, pl, pq⟩ : Pn)) rfl rfl (by kernel_rfl) (by kernel_rfl) rfl (by kernel_rfl) (by kernel_rfl) (B92.out.there7 rfl) plan_size (by simp [Value.oneCell']) ?_
              intro y113 hy113
              have ov := B92.out.over7 (pnA (⟨pk, pt, pe, pp, ph, pl, pq⟩ : Pn)).toList rfl
              rw [← hy113] at ov
              have B115 := hid_ ov.1
              replace B110 := hid_ (B110.out.fr ov.2 (only_ne (by omega)))
              have hge := F0a.out.size
              have F114 := hid_ (F112.out.then_only ov.2 (.inr (by omega)))
              clear hy113 ov hge
              refine ⟨F114.out, ?_⟩
              refine u_store 21 94 (.tmp 9) (.tmp 45) (y93.heap.size) 0 (pnA (⟨pk, pt, pe, pp, ph, pl, pq⟩ : Pn)) rfl rfl (by kernel_rfl) (by kernel_rfl) rfl (by kernel_rfl) (by kernel_rfl) (B110.out.there7 rfl) rplan_size (by simp [Value.oneCell']) ?_
              intro y116 hy116
              have ov := B110.out.over7 (pnA (⟨pk, pt, pe, pp, ph, pl, pq⟩ : Pn)).toList rfl
              rw [← hy116] at ov
              have B118 := hid_ ov.1
              replace B115 := hid_ (B115.out.fr ov.2 (only_ne (by omega)))
              have hge := F94.out.size
              have F117 := hid_ (F114.out.then_only ov.2 (.inr (by omega)))
              clear hy116 ov hge
              refine ⟨F117.out, ?_⟩
              refine u_done (by kernel_rfl) ?_
              (try simp only [Exit.then])
              (try go_frame)
              (first | (rename_i hKm; refine hKm _ _ ?_) | (rename_i hKm _; refine hKm _ _ ?_) | (rename_i hKm _ _; refine hKm _ _ ?_) | (rename_i hKm _ _ _; refine hKm _ _ ?_))
              go_meet
              case rel => exact ⟨_, _, rfl, rfl, B115.out, B118.out, F117.out⟩
          · skip
            refine wp_known (.pointer (some ⟨y89.heap.size, 0, none⟩)) (y89.alloc (.cells pnZ 94)) (by kernel_rfl) ⟨.inr (F91.out.alloc _), ?_⟩
            go_frame
            obtain ⟨y119, hy119⟩ : ∃ z, z = y89.alloc (.cells pnZ 94) := ⟨_, rfl⟩
            have sy119 : y89.heap.size < y119.heap.size := by rw [hy119]; simp [World.size_alloc]
            have f120 : Fr none_ y89 y119 := by rw [hy119]; exact (Fr.refl none_ _).alloc _
            replace B92 := hid_ (B92.out.fr f120 id)
            have B122 : Hid (Blk y119 y89.heap.size 94 pnZ) := hid_ (by rw [hy119]; exact Blk.new _ _ _)
            have F121 := hid_ (F91.out.then_none f120)
            rw [← hy119]
            clear hy119 f120
            refine u_call 8 (some 36) 31 #[.agg (pzA P), .agg (azA a), .string c.key, .agg (l6A c.l), .bool c.writes] (.agg (pnA (⟨pk, pt, pe, pp, ph, pl, pq⟩ : Pn))) (Fr none_ y119) rfl rfl (by kernel_rfl) (by kernel_rfl) (by kernel_rfl) ((decide_ok P a c.key c.l c.writes y119 (P5.out.keep F121.out) (V5.out.keep F121.out) K5.out (fun _ w2 hp hv => upkeep_ok P a c.l w2 hp hv)).mono (fun e w' h => ⟨by rw [h.1, ← HPN.out], h.2⟩)) ?_
            intro y123 hf
            have sy123 := hf.size
            replace B92 := hid_ (B92.out.fr hf id)
            replace B122 := hid_ (B122.out.fr hf id)
            have F124 := hid_ (F121.out.then_none hf)
            clear hf
            refine ⟨F124.out, ?_⟩
            go_frame
            refine u_call 17 (some 45) 39 #[.agg (pzA Q), .agg (azA a'), .string c.key, .agg (l6A c.l), .bool c.writes] (.agg (pnA (⟨pk, pt, pe, pp, ph, pl, pq⟩ : Pn))) (Fr none_ y123) rfl rfl (by kernel_rfl) (by kernel_rfl) (by kernel_rfl) ((rdecide_ok Q a' c.key c.l c.writes y123 (Q6.out.keep F124.out) (W6.out.keep F124.out) K5.out HDI.out).mono (fun e w' h => ⟨by rw [h.1, HQN.out], h.2⟩)) ?_
            intro y125 hf
            have sy125 := hf.size
            replace B92 := hid_ (B92.out.fr hf id)
            replace B122 := hid_ (B122.out.fr hf id)
            have F126 := hid_ (F124.out.then_none hf)
            clear hf
            refine ⟨F126.out, ?_⟩
            go_frame
            refine u_store 20 81 (.tmp 8) (.tmp 36) (y0.heap.size) 0 (pnA (⟨pk, pt, pe, pp, ph, pl, pq⟩ : Pn)) rfl rfl (by kernel_rfl) (by kernel_rfl) rfl (by kernel_rfl) (by kernel_rfl) (B92.out.there7 rfl) plan_size (by simp [Value.oneCell']) ?_
            intro y127 hy127
            have ov := B92.out.over7 (pnA (⟨pk, pt, pe, pp, ph, pl, pq⟩ : Pn)).toList rfl
            rw [← hy127] at ov
            have B129 := hid_ ov.1
            replace B122 := hid_ (B122.out.fr ov.2 (only_ne (by omega)))
            have hge := F0a.out.size
            have F128 := hid_ (F126.out.then_only ov.2 (.inr (by omega)))
            clear hy127 ov hge
            refine ⟨F128.out, ?_⟩
            refine u_store 21 94 (.tmp 9) (.tmp 45) (y89.heap.size) 0 (pnA (⟨pk, pt, pe, pp, ph, pl, pq⟩ : Pn)) rfl rfl (by kernel_rfl) (by kernel_rfl) rfl (by kernel_rfl) (by kernel_rfl) (B122.out.there7 rfl) rplan_size (by simp [Value.oneCell']) ?_
            intro y130 hy130
            have ov := B122.out.over7 (pnA (⟨pk, pt, pe, pp, ph, pl, pq⟩ : Pn)).toList rfl
            rw [← hy130] at ov
            have B132 := hid_ ov.1
            replace B129 := hid_ (B129.out.fr ov.2 (only_ne (by omega)))
            have hge := F91.out.size
            have F131 := hid_ (F128.out.then_only ov.2 (.inr (by omega)))
            clear hy130 ov hge
            refine ⟨F131.out, ?_⟩
            refine u_done (by kernel_rfl) ?_
            (try simp only [Exit.then])
            (try go_frame)
            (first | (rename_i hKm; refine hKm _ _ ?_) | (rename_i hKm _; refine hKm _ _ ?_) | (rename_i hKm _ _; refine hKm _ _ ?_) | (rename_i hKm _ _ _; refine hKm _ _ ?_))
            go_meet
            case rel => exact ⟨_, _, rfl, rfl, B129.out, B132.out, F131.out⟩
        · skip
          refine wp_known (.pointer (some ⟨y0.heap.size, 0, none⟩)) (y0.alloc (.cells pnZ 94)) (by kernel_rfl) ⟨.inr (F0a.out.alloc _), ?_⟩
          go_frame
          obtain ⟨y133, hy133⟩ : ∃ z, z = y0.alloc (.cells pnZ 94) := ⟨_, rfl⟩
          have sy133 : y0.heap.size < y133.heap.size := by rw [hy133]; simp [World.size_alloc]
          have f134 : Fr none_ y0 y133 := by rw [hy133]; exact (Fr.refl none_ _).alloc _
          have B136 : Hid (Blk y133 y0.heap.size 94 pnZ) := hid_ (by rw [hy133]; exact Blk.new _ _ _)
          have F135 := hid_ (F0a.out.then_none f134)
          rw [← hy133]
          clear hy133 f134
          refine u_two 8 18 rfl rfl (by kernel_rfl) (by kernel_rfl) (by kernel_rfl) ?_ ?_
          · skip
            refine wp_callK 31 #[.agg (pzA P), .agg (azA a), .string c.key, .agg (l6A c.l), .bool c.writes] (.agg (pnA (⟨pk, pt, pe, pp, ph, pl, pq⟩ : Pn))) (Fr none_ y133) (by kernel_rfl) ((decide_ok P a c.key c.l c.writes y133 (P5.out.keep F135.out) (V5.out.keep F135.out) K5.out (fun _ w2 hp hv => upkeep_ok P a c.l w2 hp hv)).mono (fun e w' h => ⟨by rw [h.1, ← HPN.out], h.2⟩)) ?_
            intro y137 hf
            have sy137 := hf.size
            replace B136 := hid_ (B136.out.fr hf id)
            have F138 := hid_ (F135.out.then_none hf)
            clear hf
            refine ⟨.inr F138.out, ?_⟩
            go_frame
            refine u_two 17 18 rfl rfl (by kernel_rfl) (by kernel_rfl) (by kernel_rfl) ?_ ?_
            · skip
              refine wp_callK 39 #[.agg (pzA Q), .agg (azA a'), .string c.key, .agg (l6A c.l), .bool c.writes] (.agg (pnA (⟨pk, pt, pe, pp, ph, pl, pq⟩ : Pn))) (Fr none_ y137) (by kernel_rfl) ((rdecide_ok Q a' c.key c.l c.writes y137 (Q6.out.keep F138.out) (W6.out.keep F138.out) K5.out HDI.out).mono (fun e w' h => ⟨by rw [h.1, HQN.out], h.2⟩)) ?_
              intro y139 hf
              have sy139 := hf.size
              replace B136 := hid_ (B136.out.fr hf id)
              have F140 := hid_ (F138.out.then_none hf)
              clear hf
              refine ⟨.inr F140.out, ?_⟩
              go_frame
              refine u_run 18 (some 8) (.pointer (some ⟨y139.heap.size, 0, none⟩)) (y139.alloc (.cells pnZ 81)) rfl rfl (by kernel_rfl) (by kernel_rfl) (by kernel_rfl) (.inr (F140.out.alloc _)) ?_
              go_frame
              obtain ⟨y141, hy141⟩ : ∃ z, z = y139.alloc (.cells pnZ 81) := ⟨_, rfl⟩
              have sy141 : y139.heap.size < y141.heap.size := by rw [hy141]; simp [World.size_alloc]
              have f142 : Fr none_ y139 y141 := by rw [hy141]; exact (Fr.refl none_ _).alloc _
              replace B136 := hid_ (B136.out.fr f142 id)
              have B144 : Hid (Blk y141 y139.heap.size 81 pnZ) := hid_ (by rw [hy141]; exact Blk.new _ _ _)
              have F143 := hid_ (F140.out.then_none f142)
              rw [← hy141]
              clear hy141 f142
              refine u_store 20 81 (.tmp 8) (.tmp 36) (y139.heap.size) 0 (pnA (⟨pk, pt, pe, pp, ph, pl, pq⟩ : Pn)) rfl rfl (by kernel_rfl) (by kernel_rfl) rfl (by kernel_rfl) (by kernel_rfl) (B144.out.there7 rfl) plan_size (by simp [Value.oneCell']) ?_
              intro y145 hy145
              have ov := B144.out.over7 (pnA (⟨pk, pt, pe, pp, ph, pl, pq⟩ : Pn)).toList rfl
              rw [← hy145] at ov
              have B147 := hid_ ov.1
              replace B136 := hid_ (B136.out.fr ov.2 (only_ne (by omega)))
              have hge := F140.out.size
              have F146 := hid_ (F143.out.then_only ov.2 (.inr (by omega)))
              clear hy145 ov hge
              refine ⟨F146.out, ?_⟩
              refine u_store 21 94 (.tmp 9) (.tmp 45) (y0.heap.size) 0 (pnA (⟨pk, pt, pe, pp, ph, pl, pq⟩ : Pn)) rfl rfl (by kernel_rfl) (by kernel_rfl) rfl (by kernel_rfl) (by kernel_rfl) (B136.out.there7 rfl) rplan_size (by simp [Value.oneCell']) ?_
              intro y148 hy148
              have ov := B136.out.over7 (pnA (⟨pk, pt, pe, pp, ph, pl, pq⟩ : Pn)).toList rfl
              rw [← hy148] at ov
              have B150 := hid_ ov.1
              replace B147 := hid_ (B147.out.fr ov.2 (only_ne (by omega)))
              have hge := F0a.out.size
              have F149 := hid_ (F146.out.then_only ov.2 (.inr (by omega)))
              clear hy148 ov hge
              refine ⟨F149.out, ?_⟩
              refine u_done (by kernel_rfl) ?_
              (try simp only [Exit.then])
              (try go_frame)
              (first | (rename_i hKm; refine hKm _ _ ?_) | (rename_i hKm _; refine hKm _ _ ?_) | (rename_i hKm _ _; refine hKm _ _ ?_) | (rename_i hKm _ _ _; refine hKm _ _ ?_))
              go_meet
              case rel => exact ⟨_, _, rfl, rfl, B147.out, B150.out, F149.out⟩
            · skip
              refine wp_known (.pointer (some ⟨y137.heap.size, 0, none⟩)) (y137.alloc (.cells pnZ 81)) (by kernel_rfl) ⟨.inr (F138.out.alloc _), ?_⟩
              go_frame
              obtain ⟨y151, hy151⟩ : ∃ z, z = y137.alloc (.cells pnZ 81) := ⟨_, rfl⟩
              have sy151 : y137.heap.size < y151.heap.size := by rw [hy151]; simp [World.size_alloc]
              have f152 : Fr none_ y137 y151 := by rw [hy151]; exact (Fr.refl none_ _).alloc _
              replace B136 := hid_ (B136.out.fr f152 id)
              have B154 : Hid (Blk y151 y137.heap.size 81 pnZ) := hid_ (by rw [hy151]; exact Blk.new _ _ _)
              have F153 := hid_ (F138.out.then_none f152)
              rw [← hy151]
              clear hy151 f152
              refine u_call 17 (some 45) 39 #[.agg (pzA Q), .agg (azA a'), .string c.key, .agg (l6A c.l), .bool c.writes] (.agg (pnA (⟨pk, pt, pe, pp, ph, pl, pq⟩ : Pn))) (Fr none_ y151) rfl rfl (by kernel_rfl) (by kernel_rfl) (by kernel_rfl) ((rdecide_ok Q a' c.key c.l c.writes y151 (Q6.out.keep F153.out) (W6.out.keep F153.out) K5.out HDI.out).mono (fun e w' h => ⟨by rw [h.1, HQN.out], h.2⟩)) ?_
              intro y155 hf
              have sy155 := hf.size
              replace B136 := hid_ (B136.out.fr hf id)
              replace B154 := hid_ (B154.out.fr hf id)
              have F156 := hid_ (F153.out.then_none hf)
              clear hf
              refine ⟨F156.out, ?_⟩
              go_frame
              refine u_store 20 81 (.tmp 8) (.tmp 36) (y137.heap.size) 0 (pnA (⟨pk, pt, pe, pp, ph, pl, pq⟩ : Pn)) rfl rfl (by kernel_rfl) (by kernel_rfl) rfl (by kernel_rfl) (by kernel_rfl) (B154.out.there7 rfl) plan_size (by simp [Value.oneCell']) ?_
              intro y157 hy157
              have ov := B154.out.over7 (pnA (⟨pk, pt, pe, pp, ph, pl, pq⟩ : Pn)).toList rfl
              rw [← hy157] at ov
              have B159 := hid_ ov.1
              replace B136 := hid_ (B136.out.fr ov.2 (only_ne (by omega)))
              have hge := F138.out.size
              have F158 := hid_ (F156.out.then_only ov.2 (.inr (by omega)))
              clear hy157 ov hge
              refine ⟨F158.out, ?_⟩
              refine u_store 21 94 (.tmp 9) (.tmp 45) (y0.heap.size) 0 (pnA (⟨pk, pt, pe, pp, ph, pl, pq⟩ : Pn)) rfl rfl (by kernel_rfl) (by kernel_rfl) rfl (by kernel_rfl) (by kernel_rfl) (B136.out.there7 rfl) rplan_size (by simp [Value.oneCell']) ?_
              intro y160 hy160
              have ov := B136.out.over7 (pnA (⟨pk, pt, pe, pp, ph, pl, pq⟩ : Pn)).toList rfl
              rw [← hy160] at ov
              have B162 := hid_ ov.1
              replace B159 := hid_ (B159.out.fr ov.2 (only_ne (by omega)))
              have hge := F0a.out.size
              have F161 := hid_ (F158.out.then_only ov.2 (.inr (by omega)))
              clear hy160 ov hge
              refine ⟨F161.out, ?_⟩
              refine u_done (by kernel_rfl) ?_
              (try simp only [Exit.then])
              (try go_frame)
              (first | (rename_i hKm; refine hKm _ _ ?_) | (rename_i hKm _; refine hKm _ _ ?_) | (rename_i hKm _ _; refine hKm _ _ ?_) | (rename_i hKm _ _ _; refine hKm _ _ ?_))
              go_meet
              case rel => exact ⟨_, _, rfl, rfl, B159.out, B162.out, F161.out⟩
          · skip
            refine wp_known (.pointer (some ⟨y133.heap.size, 0, none⟩)) (y133.alloc (.cells pnZ 81)) (by kernel_rfl) ⟨.inr (F135.out.alloc _), ?_⟩
            go_frame
            obtain ⟨y163, hy163⟩ : ∃ z, z = y133.alloc (.cells pnZ 81) := ⟨_, rfl⟩
            have sy163 : y133.heap.size < y163.heap.size := by rw [hy163]; simp [World.size_alloc]
            have f164 : Fr none_ y133 y163 := by rw [hy163]; exact (Fr.refl none_ _).alloc _
            replace B136 := hid_ (B136.out.fr f164 id)
            have B166 : Hid (Blk y163 y133.heap.size 81 pnZ) := hid_ (by rw [hy163]; exact Blk.new _ _ _)
            have F165 := hid_ (F135.out.then_none f164)
            rw [← hy163]
            clear hy163 f164
            refine u_call 8 (some 36) 31 #[.agg (pzA P), .agg (azA a), .string c.key, .agg (l6A c.l), .bool c.writes] (.agg (pnA (⟨pk, pt, pe, pp, ph, pl, pq⟩ : Pn))) (Fr none_ y163) rfl rfl (by kernel_rfl) (by kernel_rfl) (by kernel_rfl) ((decide_ok P a c.key c.l c.writes y163 (P5.out.keep F165.out) (V5.out.keep F165.out) K5.out (fun _ w2 hp hv => upkeep_ok P a c.l w2 hp hv)).mono (fun e w' h => ⟨by rw [h.1, ← HPN.out], h.2⟩)) ?_
            intro y167 hf
            have sy167 := hf.size
            replace B136 := hid_ (B136.out.fr hf id)
            replace B166 := hid_ (B166.out.fr hf id)
            have F168 := hid_ (F165.out.then_none hf)
            clear hf
            refine ⟨F168.out, ?_⟩
            go_frame
            refine u_call 17 (some 45) 39 #[.agg (pzA Q), .agg (azA a'), .string c.key, .agg (l6A c.l), .bool c.writes] (.agg (pnA (⟨pk, pt, pe, pp, ph, pl, pq⟩ : Pn))) (Fr none_ y167) rfl rfl (by kernel_rfl) (by kernel_rfl) (by kernel_rfl) ((rdecide_ok Q a' c.key c.l c.writes y167 (Q6.out.keep F168.out) (W6.out.keep F168.out) K5.out HDI.out).mono (fun e w' h => ⟨by rw [h.1, HQN.out], h.2⟩)) ?_
            intro y169 hf
            have sy169 := hf.size
            replace B136 := hid_ (B136.out.fr hf id)
            replace B166 := hid_ (B166.out.fr hf id)
            have F170 := hid_ (F168.out.then_none hf)
            clear hf
            refine ⟨F170.out, ?_⟩
            go_frame
            refine u_store 20 81 (.tmp 8) (.tmp 36) (y133.heap.size) 0 (pnA (⟨pk, pt, pe, pp, ph, pl, pq⟩ : Pn)) rfl rfl (by kernel_rfl) (by kernel_rfl) rfl (by kernel_rfl) (by kernel_rfl) (B166.out.there7 rfl) plan_size (by simp [Value.oneCell']) ?_
            intro y171 hy171
            have ov := B166.out.over7 (pnA (⟨pk, pt, pe, pp, ph, pl, pq⟩ : Pn)).toList rfl
            rw [← hy171] at ov
            have B173 := hid_ ov.1
            replace B136 := hid_ (B136.out.fr ov.2 (only_ne (by omega)))
            have hge := F135.out.size
            have F172 := hid_ (F170.out.then_only ov.2 (.inr (by omega)))
            clear hy171 ov hge
            refine ⟨F172.out, ?_⟩
            refine u_store 21 94 (.tmp 9) (.tmp 45) (y0.heap.size) 0 (pnA (⟨pk, pt, pe, pp, ph, pl, pq⟩ : Pn)) rfl rfl (by kernel_rfl) (by kernel_rfl) rfl (by kernel_rfl) (by kernel_rfl) (B136.out.there7 rfl) rplan_size (by simp [Value.oneCell']) ?_
            intro y174 hy174
            have ov := B136.out.over7 (pnA (⟨pk, pt, pe, pp, ph, pl, pq⟩ : Pn)).toList rfl
            rw [← hy174] at ov
            have B176 := hid_ ov.1
            replace B173 := hid_ (B173.out.fr ov.2 (only_ne (by omega)))
            have hge := F0a.out.size
            have F175 := hid_ (F172.out.then_only ov.2 (.inr (by omega)))
            clear hy174 ov hge
            refine ⟨F175.out, ?_⟩
            refine u_done (by kernel_rfl) ?_
            (try simp only [Exit.then])
            (try go_frame)
            (first | (rename_i hKm; refine hKm _ _ ?_) | (rename_i hKm _; refine hKm _ _ ?_) | (rename_i hKm _ _; refine hKm _ _ ?_) | (rename_i hKm _ _ _; refine hKm _ _ ?_))
            go_meet
            case rel => exact ⟨_, _, rfl, rfl, B173.out, B176.out, F175.out⟩
      case rest =>
      obtain ⟨g1, g2, rfl, rfl, hx, hy, hf⟩ := hcut
      obtain ⟨w10, rfl⟩ : ∃ z : World, z = wc := ⟨_, rfl⟩
      have BX := hid_ hx
      have BY := hid_ hy
      have F10 := hid_ (F5.out.then_none hf)
      clear hx hy hf
      have y0 : w10.cell? ⟨g2, 0, none⟩ = some (.int .i64 pk) := BY.out.cell' rfl
      have y1 : w10.cell? ⟨g2, 1, none⟩ = some (.int .i64 pt) := BY.out.cell' rfl
      have y2 : w10.cell? ⟨g2, 2, none⟩ = some (.string pe) := BY.out.cell' rfl
      have y3 : w10.cell? ⟨g2, 3, none⟩ = some (.int .i64 pp) := BY.out.cell' rfl
      have y4 : w10.cell? ⟨g2, 4, none⟩ = some (.int .i64 ph) := BY.out.cell' rfl
      have y5 : w10.cell? ⟨g2, 5, none⟩ = some (.int .i64 pl) := BY.out.cell' rfl
      have y6 : w10.cell? ⟨g2, 6, none⟩ = some (.string pq) := BY.out.cell' rfl
      go_wp2_with (refine wpList_load_mid rfl 81 (.tmp 8) rfl g1 0 rfl (pnA (⟨pk, pt, pe, pp, ph, pl, pq⟩ : Pn)).toList _ (Blk.range7 (l := (pnA (⟨pk, pt, pe, pp, ph, pl, pq⟩ : Pn)).toList) BX.out) Try.underlying81 rfl plan_size ?_)
      refine (awake11_ok w10).mono ?_
      rintro e w11 ⟨rfl, hf⟩
      go_wp2
      go_ret
      exact ⟨rfl, F10.out.then_none hf⟩
end Go.Proofs.Ytpjbncbmdfmlpaa
namespace Go.Proofs.Ytpjbncbmdfmlpaa
open Go.RowKit Go.BigFrame Go.ChangeShapes Go.WideShapes
set_option maxRecDepth 100000
set_option linter.unusedVariables false

set_option maxHeartbeats 1000000 in
theorem ins_of3 {H : Type} {enc : TypeId × Value → H} {w : World} {A : Option Addr} {n : Nat} (h : RecordAt enc w A n) : ∃ L, InReads w A n L ∧ RwIn L ∧ RwCap L := by
  rcases Nat.eq_zero_or_pos n with h0 | h0
  · subst h0; exact ⟨[], ⟨rfl, fun h => absurd h (by omega)⟩, (fun C hC => by simp at hC), fun C hC => by simp at hC⟩
  · obtain ⟨b, off, hA, hb, hc⟩ := h h0
    obtain ⟨L, hl, hL⟩ := choose_list (α := Ch) (P := fun k C => (w.rangeAt b (off + k * 15) (recL C) ∧ ChIn w C) ∧ ((SzOk C.R.val ∧ ∀ p ∈ C.R.rows, SzOk p.1 ∧ SzOk p.2) ∧ C.R.rows.length ≤ C.c ∧ C.c ≤ maxLen)) n (fun k hk => by
      obtain ⟨x0, x1, x2, x3, x4, x5, x6, x7, x8, x9, x10, x11, x12, x13, x14, w0, w1, w2, w4, w5, w6, w7, w8, w9, w10, w11, w12, w13, w14, h0, h1, h2, h3, h4, h5, h6, h7, h8, h9, h10, h11, h12, h13, h14⟩ := hc k hk
      obtain ⟨A5, n5, c5, L5, rfl, q1, q2, r5⟩ := rows_conf2 w5
      obtain ⟨A6, n6, c6, L6, rfl, p1, p2, -, r6⟩ := ents_conf w6
      have ks : ∀ p ∈ L6, SzOk p.1 := fun p hp => by
        obtain ⟨j, hj⟩ := List.mem_iff_getElem?.1 hp
        obtain ⟨_, _, _, _, hc⟩ := r6.2 (by have := (List.getElem?_eq_some_iff.1 hj).1; have := r6.1; omega)
        exact szOk_of (hc j p hj).1.1
      have kr : ∀ p ∈ L5, SzOk p.1 ∧ SzOk p.2 := fun p hp => by
        obtain ⟨j, hj⟩ := List.mem_iff_getElem?.1 hp
        obtain ⟨_, _, _, _, hc⟩ := r5.2 (by have := (List.getElem?_eq_some_iff.1 hj).1; have := r5.1; omega)
        exact ⟨szOk_of (hc j p hj).1.1, szOk_of (hc j p hj).1.2⟩
      obtain rfl := r5.1
      obtain rfl := r6.1
      refine ⟨⟨⟨x0, x1, x2, x3, x4, L5, L6, x7, x8, x9, x10, x11, x12, x13, x14⟩, A5, c5, A6, c6⟩, ⟨fun j v hv => ?_, ⟨r5.reads, r6.reads⟩, szOk_of w1, szOk_of w2, szOk_of w7, szOk_of w12, ks, p1, p2, by show L5.length ≤ _; omega⟩, ⟨szOk_of w8, kr⟩, (by show L5.length ≤ c5; exact q1), (by show c5 ≤ maxLen; unfold maxLen; omega)⟩
      match j, hv with
      | 0, hv => have e : some (.int .i64 x0) = some v := hv; rw [← Option.some.inj e]; exact h0
      | 1, hv => have e : some (.string x1) = some v := hv; rw [← Option.some.inj e]; exact h1
      | 2, hv => have e : some (.string x2) = some v := hv; rw [← Option.some.inj e]; exact h2
      | 3, hv => have e : some (.bool x3) = some v := hv; rw [← Option.some.inj e]; exact h3
      | 4, hv => have e : some (.int .i64 x4) = some v := hv; rw [← Option.some.inj e]; exact h4
      | 5, hv => have e : some (.slice A5 L5.length c5) = some v := hv; rw [← Option.some.inj e]; exact h5
      | 6, hv => have e : some (.slice A6 L6.length c6) = some v := hv; rw [← Option.some.inj e]; exact h6
      | 7, hv => have e : some (.string x7) = some v := hv; rw [← Option.some.inj e]; exact h7
      | 8, hv => have e : some (.string x8) = some v := hv; rw [← Option.some.inj e]; exact h8
      | 9, hv => have e : some (.int .i64 x9) = some v := hv; rw [← Option.some.inj e]; exact h9
      | 10, hv => have e : some (.int .i64 x10) = some v := hv; rw [← Option.some.inj e]; exact h10
      | 11, hv => have e : some (.int .i64 x11) = some v := hv; rw [← Option.some.inj e]; exact h11
      | 12, hv => have e : some (.string x12) = some v := hv; rw [← Option.some.inj e]; exact h12
      | 13, hv => have e : some (.int .i64 x13) = some v := hv; rw [← Option.some.inj e]; exact h13
      | 14, hv => have e : some (.int .i64 x14) = some v := hv; rw [← Option.some.inj e]; exact h14
      | j + 15, hv => simp at hv)
    exact ⟨L, ⟨hl, fun _ => ⟨b, off, hA, hb, fun k C hC => (hL k C hC).1⟩⟩, fun C hC => by obtain ⟨k, hk⟩ := List.mem_iff_getElem?.1 hC; exact (hL k C hk).2.1, fun C hC => by obtain ⟨k, hk⟩ := List.mem_iff_getElem?.1 hC; exact (hL k C hk).2.2⟩
theorem recs_conf3 {H : Type} {enc : TypeId × Value → H} {w : World} {v : Value} (h : Conf enc Try.prog w (.slice 34) v) : ∃ A n c L, v = .slice A n c ∧ n ≤ c ∧ c ≤ maxLen ∧ InReads w A n L ∧ RwIn L ∧ RwCap L := by
  obtain ⟨fuel, d, ps, ht, hlt, hwt⟩ := h
  obtain ⟨A, n, c, rfl, h1, h2, h3, h4, h5⟩ := open_list 6 Try.underlying34 ht hlt hwt (by rw [leaves_Record]; rfl) (by rw [leaves_Record, cells_Record]; rfl)
  obtain ⟨L, hL⟩ := ins_of3 (Record_at h5)
  exact ⟨A, n, c, L, rfl, h1, h2, hL.1, hL.2.1, hL.2.2⟩

theorem casec11_i {H : Type} {enc : TypeId × Value → H} {f : FuncId} (law : ∀ (c : Cz) (L1 L2 : List Ch) (w : World), CzIn w c L1 L2 → RwCap L1 → Calls Try.prog f #[.agg (czA c)] w (RetQ (.bool true) w))
    (x0 : Int) (x1 x2 : Value) (x3 : Bool) (x4 : ByteArray) (x5 x6 x7 x8 x9 x10 : Int) (x11 : Bool) (w : World) (h1 : Conf enc Try.prog w (.slice 34) x1) (h2 : Conf enc Try.prog w (.slice 34) x2) (h4 : x4.size ≤ reachBytes) :
    Calls Try.prog f #[.agg #[.int .i64 x0, x1, x2, .bool x3, .string x4, .int .i64 x5, .int .i64 x6, .int .i64 x7, .int .i64 x8, .int .i64 x9, .int .i64 x10, .bool x11]] w fun e w' => e = .returned (.bool true) ∧ Fr none_ w w' := by
  obtain ⟨A1, n1, c1, L1, rfl, a1, b1, i1, r1, p1⟩ := recs_conf3 h1
  obtain ⟨A2, n2, c2, L2, rfl, a2, b2, i2, r2, -⟩ := recs_conf3 h2
  exact law ⟨x0, A1, n1, c1, A2, n2, c2, x3, x4, ⟨x5, x6, x7, x8, x9, x10⟩, x11⟩ L1 L2 w ⟨i1, r1, Nat.le_trans a1 b1, i2, r2, Nat.le_trans a2 b2, szOk_of h4⟩ p1
end Go.Proofs.Ytpjbncbmdfmlpaa
namespace Go.Proofs.Ytpjbncbmdfmlpaa
open Go.ChangeShapes Go.WideShapes Go.RowKit
set_option maxRecDepth 100000
set_option linter.unusedVariables false
namespace PPlanDecides

theorem law {H : Type} (enc : TypeId × Value → H) : LawWalk enc Try.prog 10 Try.f10.params.toList (fun _ => True) := by
  intro W args ds ps base hA hval hlt hsz hX
  rw [Try.params10] at hA hval hsz
  obtain ⟨v0, vs0, d0, ds0, p0, q0, hargs, rfl, rfl, h0, r0⟩ := trodAll_cons hA
  obtain ⟨rfl, rfl, rfl⟩ := trodAll_nil r0
  obtain rfl : args = #[v0] := by cases args; simp_all
  have hw : ∀ y ∈ DataW.weightsEach Try.prog [75] [d0], y ≤ reachBytes := fun y hy => by simpa using List.all_eq_true.1 hsz y hy
  have w0 : ∀ y ∈ d0.weights Try.prog 75, y ≤ reachBytes := fun y hy => hw y (by simp [DataW.weightsEach, hy])
  have l0 : ∀ p ∈ p0, p.block < W.heap.size := fun p hp => hlt p (by simp [hp])
  obtain ⟨a0_0, a0_1, a0_2, a0_3, a0_4, a0_5, a0_6, a0_7, a0_8, a0_9, a0_10, a0_11, rfl, wa0_0, wa0_1, wa0_2, wa0_3, wa0_4, wa0_5, wa0_6, wa0_7, wa0_8, wa0_9⟩ := open_Case11 (hval 0 _ v0 rfl rfl) h0 l0 w0
  exact (casec11_i decs11_law a0_0 a0_1 a0_2 a0_3 a0_4 a0_5 a0_6 a0_7 a0_8 a0_9 a0_10 a0_11 W wa0_1 wa0_2 wa0_3).mono fun e W' ⟨he, hf⟩ => ⟨he, hf.below0⟩

theorem lifted (os : Os) (started : os.Started) (H : Type) (enc : TypeId × Value → H) :
    ReturnsInHanded {} Try.checked os 10 .any (Rows.planDecidesSpec.pre6 enc Try.prog Try.f10 Rows.planDecidesRow.domain false) (Rows.planDecidesSpec.post enc Try.prog Try.f10 false true false false) :=
  lift_plain (C := Try.checked) (by kernel_rfl) started (by kernel_rfl) Try.func10 (by kernel_rfl) (by kernel_rfl) rfl Try.underlying4 rfl
    (fun ds h => by
      match ds, h with
      | [d0], _ => rfl)
    (ChangeSpec.witness6 (enc := enc) (C := Try.checked) false ⟨#[], #[.agg #[.int .i64 0, .slice none 0 0, .slice none 0 0, .bool false, .string ⟨#[]⟩, .int .i64 0, .int .i64 0, .int .i64 0, .int .i64 0, .int .i64 0, .int .i64 0, .bool false]], []⟩ 8 (by kernel_rfl) (by kernel_rfl) (by kernel_rfl) (by kernel_rfl))
    (law enc)

theorem row_holds : Rows.PlanDecidesSaid :=
  OpenClaim.holds_of_wide 10 Try.f10 rfl rfl rfl rfl rfl rfl rfl ⟨rfl, rfl, rfl, rfl, rfl⟩ rfl rfl rfl rfl rfl (by kernel_rfl) Try.func10 (by kernel_rfl)
    (of_decide_eq_true (by kernel_rfl)) (by unfold Func.isWrapper; rw [if_neg (of_decide_eq_false (by kernel_rfl))]; exact ⟨rfl, rfl⟩)
    (fun os started H enc _ => lifted os started H enc)
#print axioms row_holds
end PPlanDecides
end Go.Proofs.Ytpjbncbmdfmlpaa

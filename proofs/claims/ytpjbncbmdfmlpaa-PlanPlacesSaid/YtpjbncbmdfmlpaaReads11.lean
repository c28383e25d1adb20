/- PlanReads of layer 11. Written by gen_reads11.py. -/
import Derived.Test.YtpjbncbmdfmlpaaMade11
namespace Go.Proofs.Ytpjbncbmdfmlpaa
open Go.RowKit Go.BigFrame
set_option maxRecDepth 100000
set_option linter.unusedVariables false

theorem dec_reads (P : Pz) (a : Az) (key : ByteArray) (l : L6) : (decM P a key l false).kind = 1 ∨ (decM P a key l false).kind = 2 ∨ (decM P a key l false).kind = 3 ∨ (decM P a key l false).kind = 10 := by
  unfold decM
  split
  · exact .inr (.inr (.inl rfl))
  · rw [if_neg (by simp)]
    split
    · unfold beyM
      split
      · exact .inr (.inr (.inl rfl))
      · rw [if_neg (by simp)]; exact .inr (.inl rfl)
    · rw [if_neg (by simp)]
      show (decR P key).kind = _ ∨ _
      unfold decR
      split
      · exact .inr (.inr (.inr rfl))
      · split
        · exact .inl rfl
        · exact .inr (.inr (.inl rfl))
theorem pn_field0 (p : Pn) (w : World) : (Instr.field 81 (.agg (pnA p)) 0).run Try.prog w = .ok (.int .i64 p.kind) w := by kernel_rfl
theorem lim_range (c : Cz) {w : World} {g : Nat} (h : Blk w g 75 (czA c)) : w.rangeAt g 5 (l6A c.l).toList := fun j v hv => by
  match j, hv with
  | 0, hv => have e : some _ = some v := hv; rw [← e]; exact h.cell' rfl
  | 1, hv => have e : some _ = some v := hv; rw [← e]; exact h.cell' rfl
  | 2, hv => have e : some _ = some v := hv; rw [← e]; exact h.cell' rfl
  | 3, hv => have e : some _ = some v := hv; rw [← e]; exact h.cell' rfl
  | 4, hv => have e : some _ = some v := hv; rw [← e]; exact h.cell' rfl
  | 5, hv => have e : some _ = some v := hv; rw [← e]; exact h.cell' rfl
  | k + 6, hv => simp at hv
set_option maxHeartbeats 8000000 in
theorem reads11_law (c : Cz) (L1 L2 : List Ch) (w : World) (h : CzIn w c L1 L2) : Calls Try.prog 6 #[.agg (czA c)] w (RetQ (.bool true) w) := by
  obtain ⟨w0, hw0⟩ : ∃ z, z = w.alloc (.cells (czA c) 75) := ⟨_, rfl⟩
  have f0 : Fr none_ w w0 := by rw [hw0]; exact (Fr.refl none_ w).alloc _
  have BC := hid_ (show Blk w0 w.heap.size 75 (czA c) by rw [hw0]; exact Blk.new w _ _)
  have F := hid_ f0
  have H := hid_ (h.keep f0)
  clear f0 h
  go_enter Try.func6, Try.ntmps6
  go_upto_region 1 with fail
  change Code.wp _ _ _ _ (w.alloc (.cells (czA c) 75))
  rw [← hw0]
  clear hw0
  go_wp2_with (refine wpList_load_mid rfl 75 (.tmp 1) rfl w.heap.size 0 rfl (czA c).toList _ (Blk.range7 (l := (czA c).toList) BC.out) Try.underlying75 rfl case_size ?_)
  refine (cfew_ok c L1 L2 w0 H.out).mono ?_
  rintro e w1 ⟨b, rfl, hb, hf⟩
  have G0 := hid_ hb
  replace F := hid_ (F.out.then_none hf)
  replace BC := hid_ (BC.out.fr hf id)
  replace H := hid_ (H.out.keep hf)
  clear hb hf
  cases b with
  | false =>
    go_wp2_with fail
    refine (awake11_ok w1).mono ?_
    rintro e w2 ⟨rfl, hf⟩
    go_wp2
    go_ret
    exact ⟨rfl, F.out.then_none hf⟩
  | true =>
    have HF := hid_ (G0.out rfl)
    clear G0
    go_wp2_with (refine wpList_load_mid rfl 75 (.tmp 1) rfl w.heap.size 0 rfl (czA c).toList _ (Blk.range7 (l := (czA c).toList) BC.out) Try.underlying75 rfl case_size ?_)
    refine (made11_ok c L1 L2 w1 H.out HF.out).mono ?_
    rintro e w2 ⟨pv, a, ok, rfl, hsz, hoc, hvi, hfu, hf, hok⟩
    have VI := hid_ hvi
    have FU := hid_ hfu
    have HOK := hid_ hok
    have HSZ := hid_ hsz
    have HOC := hid_ hoc
    replace F := hid_ (F.out.then_none hf)
    replace BC := hid_ (BC.out.fr hf id)
    replace H := hid_ (H.out.keep hf)
    have hsw := BC.out.lt
    clear hf hvi hfu hok hsz hoc
    have hwB : Hid (w.heap.size ≤ w2.heap.size ∧ w.heap.size ≤ w2.heap.size + 1) := hid_ (by omega)
    go_upto_region 4 with (first | (obtain ⟨w3, hw3⟩ : ∃ z, z = ((w2.alloc (.cells pgZ 45)).alloc (.cells azZ 77)) := ⟨_, rfl⟩; have BZ : Hid (Blk w3 w2.heap.size 45 pgZ ∧ Blk w3 (w2.heap.size + 1) 77 azZ ∧ Fr none_ w2 w3) := hid_ (by rw [hw3]; exact ⟨(Blk.new w2 _ _).alloc _, Blk.new7 _ _ (by simp), ((Fr.refl none_ w2).alloc _).alloc _⟩); change wpList _ _ _ _ _ ((w2.alloc (.cells pgZ 45)).alloc (.cells azZ 77)); rw [← hw3]; clear hw3; refine wpList_store_mid rfl 45 (.tmp 3) (.tmp 13) rfl w2.heap.size 0 pv rfl rfl (by rw [HSZ.out]; exact BZ.out.1.there7 rfl) (by rw [HSZ.out]; exact page_size) HOC.out ?_; have ov := BZ.out.1.over7 pv.toList (by rw [Array.length_toList, HSZ.out]; rfl); obtain ⟨w4, hw4⟩ : ∃ z, z = w3.setCells w2.heap.size 0 pv.toList := ⟨_, rfl⟩; change wpList _ _ _ _ _ (w3.setCells w2.heap.size 0 pv.toList); rw [← hw4] at ov ⊢; clear hw4; have OV := hid_ ov; clear ov) | (refine wpList_store_mid rfl 77 (.tmp 4) (.tmp 14) rfl (w2.heap.size + 1) 0 (azA a) rfl rfl ((BZ.out.2.1.fr OV.out.2 (only_ne (by omega))).there7 rfl) above_size7 (by simp [Value.oneCell']) ?_; have ow := (BZ.out.2.1.fr OV.out.2 (only_ne (by omega))).over7 (azA a).toList rfl; obtain ⟨w5, hw5⟩ : ∃ z, z = w4.setCells (w2.heap.size + 1) 0 (azA a).toList := ⟨_, rfl⟩; change wpList _ _ _ _ _ (w4.setCells (w2.heap.size + 1) 0 (azA a).toList); rw [← hw5] at ow ⊢; clear hw5; have OW := hid_ ow; clear ow))
    have F5 : Hid (Fr none_ w w5) := hid_ (((F.out.then_none BZ.out.2.2).then_only OV.out.2 (.inr hwB.out.1)).then_only OW.out.2 (.inr hwB.out.2))
    have BA := hid_ OW.out.1
    have BP := hid_ (OV.out.1.fr OW.out.2 (only_ne (by omega)))
    have B5 := hid_ (((BC.out.fr BZ.out.2.2 id).fr OV.out.2 (only_ne (by omega))).fr OW.out.2 (only_ne (by omega)))
    have V5 : Hid (VwIn w5 a.V a.B a.d) := hid_ (((VI.out.keep BZ.out.2.2).farZ BZ.out.1 OV.out.2).farA (BZ.out.2.1.fr OV.out.2 (only_ne (by omega))) OW.out.2)
    cases ok with
    | false =>
      go_wp2_with fail
      refine (awake11_ok w5).mono ?_
      rintro e w6 ⟨rfl, hf⟩
      go_wp2
      go_ret
      exact ⟨rfl, F5.out.then_none hf⟩
    | true =>
      obtain ⟨P, hpe, hpo, -⟩ := HOK.out rfl
      have HPE := hid_ hpe
      have PO := hid_ hpo
      clear hpe hpo
      have P5 : Hid (PzOk w5 P) := hid_ (by have h4 := PO.out; exact ⟨h4.low, h4.high, h4.rows, ((h4.iv.keep BZ.out.2.2).farZ BZ.out.1 OV.out.2).farA (BZ.out.2.1.fr OV.out.2 (only_ne (by omega))) OW.out.2, h4.nc⟩)
      have v4 : w5.cell? ⟨w.heap.size, 4, none⟩ = some (.string c.key) := B5.out.cell' rfl
      go_wp2_with (first | (refine wpList_load_mid rfl 45 (.tmp 3) rfl w2.heap.size 0 rfl pv.toList _ (Blk.range7 (l := pv.toList) BP.out) Try.underlying45 rfl (by rw [Array.length_toList, HSZ.out]; exact page_size) ?_) | (refine wpList_load_mid rfl 77 (.tmp 4) rfl (w2.heap.size + 1) 0 rfl (azA a).toList _ (Blk.range7 (l := (azA a).toList) BA.out) Try.underlying77 rfl above_size7 ?_) | (refine wpList_load_mid rfl 28 (.tmp 23) rfl w.heap.size 5 rfl (l6A c.l).toList _ (lim_range c B5.out) Try.underlying28 rfl lim_size7 ?_))
      rw [HPE.out]
      refine (decide_ok P a c.key c.l false w5 P5.out V5.out H.out.key (fun h => by cases h)).mono ?_
      rintro e w6 ⟨rfl, hf6⟩
      replace F5 := hid_ (F5.out.then_none hf6)
      clear hf6 v4
      have hk := dec_reads P a c.key c.l
      obtain ⟨q, hq⟩ : ∃ q, q = decM P a c.key c.l false := ⟨_, rfl⟩
      rw [← hq] at hk ⊢
      clear hq
      obtain ⟨k0, k1, k2, k3, k4, k5, k6⟩ := q
      rcases hk with h | h | h | h
      · cases h
        have hfd : ∀ w : World, (Instr.field 81 (.agg #[.int .i64 1, .int .i64 k1, .string k2, .int .i64 k3, .int .i64 k4, .int .i64 k5, .string k6]) 0).run Try.prog w = .ok (.int .i64 1) w := fun _ => by kernel_rfl
        go_wp2_with fail
        refine (awake11_ok w6).mono ?_
        rintro e w7 ⟨rfl, hf⟩
        go_wp2
        go_ret
        exact ⟨rfl, F5.out.then_none hf⟩
      · cases h
        have hfd : ∀ w : World, (Instr.field 81 (.agg #[.int .i64 2, .int .i64 k1, .string k2, .int .i64 k3, .int .i64 k4, .int .i64 k5, .string k6]) 0).run Try.prog w = .ok (.int .i64 2) w := fun _ => by kernel_rfl
        go_wp2_with fail
        refine (awake11_ok w6).mono ?_
        rintro e w7 ⟨rfl, hf⟩
        go_wp2
        go_ret
        exact ⟨rfl, F5.out.then_none hf⟩
      · cases h
        have hfd : ∀ w : World, (Instr.field 81 (.agg #[.int .i64 3, .int .i64 k1, .string k2, .int .i64 k3, .int .i64 k4, .int .i64 k5, .string k6]) 0).run Try.prog w = .ok (.int .i64 3) w := fun _ => by kernel_rfl
        go_wp2_with fail
        refine (awake11_ok w6).mono ?_
        rintro e w7 ⟨rfl, hf⟩
        go_wp2
        go_ret
        exact ⟨rfl, F5.out.then_none hf⟩
      · cases h
        have hfd : ∀ w : World, (Instr.field 81 (.agg #[.int .i64 10, .int .i64 k1, .string k2, .int .i64 k3, .int .i64 k4, .int .i64 k5, .string k6]) 0).run Try.prog w = .ok (.int .i64 10) w := fun _ => by kernel_rfl
        go_wp2_with fail
        refine (awake11_ok w6).mono ?_
        rintro e w7 ⟨rfl, hf⟩
        go_wp2
        go_ret
        exact ⟨rfl, F5.out.then_none hf⟩
end Go.Proofs.Ytpjbncbmdfmlpaa

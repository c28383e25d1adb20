/- PlanPlaces of layer 11. Written by gen_places11.py. -/
import Derived.Test.YtpjbncbmdfmlpaaEq11
namespace Go.Proofs.Ytpjbncbmdfmlpaa
open Go.RowKit Go.BigFrame
set_option maxRecDepth 100000
set_option linter.unusedVariables false
theorem eql_et (s : ByteArray) (n : Int) (w : World) : (binOp .eql 64 (.agg #[.string s, .int .i64 n]) (.agg #[.string s, .int .i64 n])).run Try.prog w = .ok (.bool true) w := by
  have h : (Op.equal 64 (.agg #[.string s, .int .i64 n]) (.agg #[.string s, .int .i64 n])).run Try.prog w = .ok true w := by
    simp only [Op.equal, Op.maxDepth]
    go_simp
  simp [binOp, h]
theorem atB_sz {L : List Et} {k : ByteArray} (h : EtsOk L) (hk : atB L k = true) : SzOk k := by
  obtain ⟨p, hp, rfl⟩ := atB_ex hk
  exact h.2 p (List.mem_of_getElem? hp)
set_option maxHeartbeats 8000000 in
theorem places11_law (c : Cz) (L1 L2 : List Ch) (w : World) (h : CzIn w c L1 L2) : Calls Try.prog 8 #[.agg (czA c)] w (RetQ (.bool true) w) := by
  obtain ⟨w0, hw0⟩ : ∃ z, z = w.alloc (.cells (czA c) 75) := ⟨_, rfl⟩
  have f0 : Fr none_ w w0 := by rw [hw0]; exact (Fr.refl none_ w).alloc _
  have BC := hid_ (show Blk w0 w.heap.size 75 (czA c) by rw [hw0]; exact Blk.new w _ _)
  have F := hid_ f0
  have H := hid_ (h.keep f0)
  clear f0 h
  go_enter Try.func8, Try.ntmps8
  go_upto_region 1 with fail
  change Code.wp _ _ _ _ (w.alloc (.cells (czA c) 75))
  rw [← hw0]
  clear hw0
  go_wp2_with (refine wpList_load_mid rfl 75 (.tmp 1) rfl w.heap.size 0 rfl (czA c).toList _ (Blk.range7 (l := (czA c).toList) BC.out) Try.underlying75 rfl case_size ?_)
  refine (cfew_ok c L1 L2 w0 H.out).mono ?_
  rintro e w1 ⟨b, rfl, hb, hf⟩
  have G0 := hid_ hb
  replace F := hid_ (F.out.then_none hf)
  replace BC := hid_ (BC.out.fr hf id)
  replace H := hid_ (H.out.keep hf)
  clear hb hf
  cases b with
  | false =>
    go_wp2_with fail
    refine (awake11_ok w1).mono ?_
    rintro e w2 ⟨rfl, hf⟩
    go_wp2
    go_ret
    exact ⟨rfl, F.out.then_none hf⟩
  | true =>
    have HF := hid_ (G0.out rfl)
    clear G0
    go_wp2_with (refine wpList_load_mid rfl 75 (.tmp 1) rfl w.heap.size 0 rfl (czA c).toList _ (Blk.range7 (l := (czA c).toList) BC.out) Try.underlying75 rfl case_size ?_)
    refine (made11_ok c L1 L2 w1 H.out HF.out).mono ?_
    rintro e w2 ⟨pv, a, ok, rfl, hsz, hoc, hvi, hfu, hf, hok⟩
    have VI := hid_ hvi
    have FU := hid_ hfu
    have HOK := hid_ hok
    have HSZ := hid_ hsz
    have HOC := hid_ hoc
    replace F := hid_ (F.out.then_none hf)
    replace BC := hid_ (BC.out.fr hf id)
    replace H := hid_ (H.out.keep hf)
    have hsw := BC.out.lt
    clear hf hvi hfu hok hsz hoc
    have hwB : Hid (w.heap.size ≤ w2.heap.size ∧ w.heap.size ≤ w2.heap.size + 1) := hid_ (by omega)
    go_upto_region 4 with (first | (obtain ⟨w3, hw3⟩ : ∃ z, z = ((w2.alloc (.cells pgZ 45)).alloc (.cells azZ 77)) := ⟨_, rfl⟩; have BZ : Hid (Blk w3 w2.heap.size 45 pgZ ∧ Blk w3 (w2.heap.size + 1) 77 azZ ∧ Fr none_ w2 w3) := hid_ (by rw [hw3]; exact ⟨(Blk.new w2 _ _).alloc _, Blk.new7 _ _ (by simp), ((Fr.refl none_ w2).alloc _).alloc _⟩); change wpList _ _ _ _ _ ((w2.alloc (.cells pgZ 45)).alloc (.cells azZ 77)); rw [← hw3]; clear hw3; refine wpList_store_mid rfl 45 (.tmp 3) (.tmp 20) rfl w2.heap.size 0 pv rfl rfl (by rw [HSZ.out]; exact BZ.out.1.there7 rfl) (by rw [HSZ.out]; exact page_size) HOC.out ?_; have ov := BZ.out.1.over7 pv.toList (by rw [Array.length_toList, HSZ.out]; rfl); obtain ⟨w4, hw4⟩ : ∃ z, z = w3.setCells w2.heap.size 0 pv.toList := ⟨_, rfl⟩; change wpList _ _ _ _ _ (w3.setCells w2.heap.size 0 pv.toList); rw [← hw4] at ov ⊢; clear hw4; have OV := hid_ ov; clear ov) | (refine wpList_store_mid rfl 77 (.tmp 4) (.tmp 21) rfl (w2.heap.size + 1) 0 (azA a) rfl rfl ((BZ.out.2.1.fr OV.out.2 (only_ne (by omega))).there7 rfl) above_size7 (by simp [Value.oneCell']) ?_; have ow := (BZ.out.2.1.fr OV.out.2 (only_ne (by omega))).over7 (azA a).toList rfl; obtain ⟨w5, hw5⟩ : ∃ z, z = w4.setCells (w2.heap.size + 1) 0 (azA a).toList := ⟨_, rfl⟩; change wpList _ _ _ _ _ (w4.setCells (w2.heap.size + 1) 0 (azA a).toList); rw [← hw5] at ow ⊢; clear hw5; have OW := hid_ ow; clear ow))
    have F5 : Hid (Fr none_ w w5) := hid_ (((F.out.then_none BZ.out.2.2).then_only OV.out.2 (.inr hwB.out.1)).then_only OW.out.2 (.inr hwB.out.2))
    have BA := hid_ OW.out.1
    have BP := hid_ (OV.out.1.fr OW.out.2 (only_ne (by omega)))
    have B5 := hid_ (((BC.out.fr BZ.out.2.2 id).fr OV.out.2 (only_ne (by omega))).fr OW.out.2 (only_ne (by omega)))
    have V5 : Hid (VwIn w5 a.V a.B a.d) := hid_ (((VI.out.keep BZ.out.2.2).farZ BZ.out.1 OV.out.2).farA (BZ.out.2.1.fr OV.out.2 (only_ne (by omega))) OW.out.2)
    clear hwB
    cases ok with
    | false =>
      go_wp2_with fail
      refine (awake11_ok w5).mono ?_
      rintro e w6 ⟨rfl, hf⟩
      go_wp2
      go_ret
      exact ⟨rfl, F5.out.then_none hf⟩
    | true =>
      obtain ⟨P, hpe, hpo, hpn, hpc, hpof⟩ := HOK.out rfl
      have HPE := hid_ hpe
      have PO := hid_ hpo
      clear hpe hpo hpn hpc hpof
      have P5 : Hid (PzOk w5 P) := hid_ (by have h4 := PO.out; exact ⟨h4.low, h4.high, h4.rows, ((h4.iv.keep BZ.out.2.2).farZ BZ.out.1 OV.out.2).farA (BZ.out.2.1.fr OV.out.2 (only_ne (by omega))) OW.out.2, h4.nc⟩)
      have K5 := hid_ (H.out.key)
      have BP := hid_ BP.out
      rw [HPE.out] at BP
      have RI : Hid (a.some_ = true → Ris a.V.ents) := hid_ (fun hs => (fold_good (FU.out hs)).s.ris)
      have k4 : w5.cell? ⟨w.heap.size, 4, none⟩ = some (.string c.key) := B5.out.cell' rfl
      have k11 : w5.cell? ⟨w.heap.size, 11, none⟩ = some (.bool c.writes) := B5.out.cell' rfl
      go_wp2_with (first | (refine wpList_load_mid rfl 45 (.tmp 3) rfl w2.heap.size 0 rfl (pzA P).toList _ (Blk.range7 (l := (pzA P).toList) BP.out) Try.underlying45 rfl page_size ?_) | (refine wpList_load_mid rfl 77 (.tmp 4) rfl (w2.heap.size + 1) 0 rfl (azA a).toList _ (Blk.range7 (l := (azA a).toList) BA.out) Try.underlying77 rfl above_size7 ?_) | (refine wpList_load_mid rfl 28 (.tmp 30) rfl w.heap.size 5 rfl (l6A c.l).toList _ (lim_range c B5.out) Try.underlying28 rfl lim_size7 ?_))
      refine (decide_ok P a c.key c.l c.writes w5 P5.out V5.out K5.out (fun _ w2 hp hv => upkeep_ok P a c.l w2 hp hv)).mono ?_
      rintro e w6 ⟨rfl, hf6⟩
      have hpl := dec_places P a c.key c.l c.writes RI.out
      obtain ⟨D, hD⟩ : ∃ D, D = decM P a c.key c.l c.writes := ⟨_, rfl⟩
      rw [← hD] at hpl ⊢
      clear hD k4 k11
      go_upto_region 7 with (refine wpList_store_mid rfl 81 (.tmp 6) (.tmp 34) rfl w6.heap.size 0 (pnA D) rfl rfl (new_there w6 _ pnZ) plan_size (by simp [Value.oneCell']) ?_; obtain ⟨w7, hw7⟩ : ∃ z, z = (w6.alloc (.cells pnZ 81)).setCells w6.heap.size 0 (pnA D).toList := ⟨_, rfl⟩; change wpList _ _ _ _ _ ((w6.alloc (.cells pnZ 81)).setCells w6.heap.size 0 (pnA D).toList); rw [← hw7]; have X7 : Hid (Blk w7 w6.heap.size 81 (pnA D) ∧ Fr none_ w6 w7) := hid_ (by rw [hw7]; exact new_copy w6 _ pnZ (pnA D).toList rfl); clear hw7)
      have HPL := hid_ hpl
      have f7 : Fr none_ w5 w7 := hf6.then_none X7.out.2
      have BP7 := hid_ (BP.out.fr f7 id)
      clear hpl
      go_wp2_with (refine wpList_load_mid rfl 45 (.tmp 3) rfl w2.heap.size 0 rfl (pzA P).toList _ (Blk.range7 (l := (pzA P).toList) BP7.out) Try.underlying45 rfl page_size ?_)
      refine (bounds_ok P w7).mono ?_
      rintro e w8 ⟨rfl, hf8⟩
      have f8 : Fr none_ w5 w8 := f7.then_none hf8
      replace BP := hid_ (BP.out.fr f8 id)
      replace BA := hid_ (BA.out.fr f8 id)
      have B8 := hid_ (B5.out.fr f8 id)
      have BX := hid_ (X7.out.1.fr hf8 id)
      have P8 := hid_ (P5.out.keep f8)
      have V8 := hid_ (V5.out.keep f8)
      have F8 := hid_ (F5.out.then_none f8)
      clear f7 f8 hf6 hf8
      go_upto_region 8 with fail
      cases HPL.out with
        | act h1 h2 h3 =>
          have p5 : w8.cell? ⟨w2.heap.size, 5, none⟩ = some (.bool P.leaf) := BP.out.cell' rfl
          have p11 : w8.cell? ⟨w2.heap.size, 11, none⟩ = some (.bool P.lv.gone) := BP.out.cell' rfl
          have k4 : w8.cell? ⟨w.heap.size, 4, none⟩ = some (.string c.key) := B8.out.cell' rfl
          have x0 : w8.cell? ⟨w6.heap.size, 0, none⟩ = some (.int .i64 10) := BX.out.cell' rfl
          rw [h1] at p5
          rw [h3] at p11
          clear h1 h3
          have IN := hid_ h2
          clear h2
          go_wp2_with (refine wpList_load_midG (by kernel_rfl) 45 (.tmp 3) rfl w2.heap.size 0 rfl (pzA P).toList _ (Blk.range7 (l := (pzA P).toList) BP.out) Try.underlying45 rfl page_size ?_)
          refine (phas_ok P c.key w8 P8.out.low_ P8.out.high_ K5.out).mono ?_
          rintro e w9 ⟨rfl, hf⟩
          replace F8 := hid_ (F8.out.then_none hf)
          replace V8 := hid_ (V8.out.keep hf)
          rw [IN.out]
          replace p11 := cellFr p11 hf
          clear hf p5 k4 x0
          go_wp2_with fail
          refine (awake11_ok w9).mono ?_
          rintro e wz ⟨rfl, hz⟩
          go_wp2
          go_ret
          exact ⟨rfl, F8.out.then_none hz⟩
        | down p h1 h2 h3 =>
          have p5 : w8.cell? ⟨w2.heap.size, 5, none⟩ = some (.bool P.leaf) := BP.out.cell' rfl
          have k4 : w8.cell? ⟨w.heap.size, 4, none⟩ = some (.string c.key) := B8.out.cell' rfl
          have x0 : w8.cell? ⟨w6.heap.size, 0, none⟩ = some (.int .i64 1) := BX.out.cell' rfl
          have HLF := hid_ h1
          have IN := hid_ h2
          have CH := hid_ h3
          clear h1 h2 h3
          go_wp2_with (refine wpList_load_mid rfl 43 (.tmp 66) rfl w2.heap.size 12 rfl (vwA P.iv (.slice P.B P.iv.ents.length P.d)).toList _ (pz_range BP.out) Try.underlying43 rfl view_size7 ?_)
          refine (child_ok P.iv P.B P.d c.key w8 P8.out.iv K5.out).mono ?_
          rintro e w9 ⟨hc, hf⟩
          rcases hc with ⟨q, hc, rfl⟩ | ⟨hc, rfl⟩
          · obtain rfl : q = p := by rw [CH.out] at hc; injection hc with e; exact e.symm
            replace F8 := hid_ (F8.out.then_none hf)
            replace BP := hid_ (BP.out.fr hf id)
            replace B8 := hid_ (B8.out.fr hf id)
            replace BX := hid_ (BX.out.fr hf id)
            clear hf hc p5 k4 x0
            go_upto_region 13 with fail
            obtain ⟨w10, hw10⟩ : ∃ z, z = w9.alloc (.cells #[.string q.1, .int .i64 q.2] 64) := ⟨_, rfl⟩
            have hf : Fr none_ w9 w10 := by rw [hw10]; exact (Fr.refl none_ w9).alloc _
            have BE : Hid (Blk w10 w9.heap.size 64 #[.string q.1, .int .i64 q.2]) := hid_ (by rw [hw10]; exact Blk.new w9 _ _)
            change Code.wp _ _ _ _ (w9.alloc (.cells #[.string q.1, .int .i64 q.2] 64))
            rw [← hw10]
            clear hw10
            replace F8 := hid_ (F8.out.then_none hf)
            replace BP := hid_ (BP.out.fr hf id)
            replace B8 := hid_ (B8.out.fr hf id)
            replace BX := hid_ (BX.out.fr hf id)
            clear hf
            have p5 : w10.cell? ⟨w2.heap.size, 5, none⟩ = some (.bool P.leaf) := BP.out.cell' rfl
            have k4 : w10.cell? ⟨w.heap.size, 4, none⟩ = some (.string c.key) := B8.out.cell' rfl
            rw [HLF.out] at p5
            go_wp2_with (refine wpList_load_midG (by kernel_rfl) 45 (.tmp 3) rfl w2.heap.size 0 rfl (pzA P).toList _ (Blk.range7 (l := (pzA P).toList) BP.out) Try.underlying45 rfl page_size ?_)
            refine (phas_ok P c.key w10 P8.out.low_ P8.out.high_ K5.out).mono ?_
            rintro e w11 ⟨rfl, hf⟩
            rw [IN.out]
            replace F8 := hid_ (F8.out.then_none hf)
            have e1 : w11.cell? ⟨w9.heap.size, 1, none⟩ = some (.int .i64 q.2) := (BE.out.fr hf id).cell' rfl
            have x1 : w11.cell? ⟨w6.heap.size, 1, none⟩ = some (.int .i64 q.2) := (BX.out.fr hf id).cell' rfl
            clear hf p5 k4
            go_wp2_with fail
            refine (awake11_ok w11).mono ?_
            rintro e wz ⟨rfl, hz⟩
            go_wp2
            go_ret
            exact ⟨rfl, F8.out.then_none hz⟩
          · rw [CH.out] at hc; cases hc
        | across h1 h2 h3 =>
          have k4 : w8.cell? ⟨w.heap.size, 4, none⟩ = some (.string c.key) := B8.out.cell' rfl
          have x0 : w8.cell? ⟨w6.heap.size, 0, none⟩ = some (.int .i64 2) := BX.out.cell' rfl
          have x1 : w8.cell? ⟨w6.heap.size, 1, none⟩ = some (.int .i64 P.right) := BX.out.cell' rfl
          have b1 : Op.bytesLess c.key.toList P.low.toList = false := by rw [bl_ltS]; exact h2
          have b2 : Op.bytesLess c.key.toList P.high.toList = false := by rw [bl_ltS]; exact h3
          rw [h1]
          clear h1 h2 h3
          go_wp2_with fail
          refine (awake11_ok w8).mono ?_
          rintro e wz ⟨rfl, hz⟩
          go_wp2
          go_ret
          exact ⟨rfl, F8.out.then_none hz⟩
        | post h1 h2 h3 =>
          have a0 : w8.cell? ⟨w2.heap.size + 1, 0, none⟩ = some (.bool a.some_) := BA.out.cell' rfl
          have k11 : w8.cell? ⟨w.heap.size, 11, none⟩ = some (.bool c.writes) := B8.out.cell' rfl
          have x0 : w8.cell? ⟨w6.heap.size, 0, none⟩ = some (.int .i64 4) := BX.out.cell' rfl
          have x2 : w8.cell? ⟨w6.heap.size, 2, none⟩ = some (.string P.high) := BX.out.cell' rfl
          have x3 : w8.cell? ⟨w6.heap.size, 3, none⟩ = some (.int .i64 P.right) := BX.out.cell' rfl
          rw [h1] at a0
          rw [h2] at k11
          have AT := hid_ h3
          clear h1 h2 h3
          have hq := eql_et P.high P.right
          go_wp2_with (refine wpList_load_midG (by kernel_rfl) 43 (.tmp 138) rfl (w2.heap.size + 1) 4 rfl (vwA a.V (.slice a.B a.V.ents.length a.d)).toList _ (az_range BA.out) Try.underlying43 rfl view_size7 ?_)
          refine (has_ok a.V a.B a.d P.high w8 V8.out P8.out.high_).mono ?_
          rintro e w9 ⟨rfl, hf⟩
          rw [AT.out]
          replace F8 := hid_ (F8.out.then_none hf)
          clear hf a0 k11 x0 x2 x3
          go_wp2_with fail
          refine (awake11_ok w9).mono ?_
          rintro e wz ⟨rfl, hz⟩
          go_wp2
          go_ret
          exact ⟨rfl, F8.out.then_none hz⟩
        | split h1 h2 =>
          have x0 : w8.cell? ⟨w6.heap.size, 0, none⟩ = some (.int .i64 7) := BX.out.cell' rfl
          go_upto_region 20 with fail
          have C1 : Hid (decide (c.l.rows < ((P.size : Nat) : Int)) = true) := hid_ (decide_eq_true h1)
          have C2 : Hid ((P.n == 0) = false) := hid_ (by simpa using h2)
          clear h1 h2 x0
          go_cut [2] (fun u wq => u = .bool true ∧ Fr none_ w8 wq)
          case first =>
            refine wp_region_q7 (fun w' => Fr none_ w8 w') (by kernel_rfl) (by kernel_rfl) (Fr.refl none_ w8).drew ?_
            refine q_mid7 (some 150) (pzA P).toList 45 (.tmp 3) w2.heap.size 0 _ rfl (by kernel_rfl) rfl (by kernel_rfl) (fun w' hC => Blk.range7 (l := (pzA P).toList) (BP.out.fr hC id)) Try.underlying45 rfl (page_size) ?_
            refine q_call7 (some 151) (.int .i64 (P.size : Nat)) 33 #[.agg (pzA P)] rfl (by kernel_rfl) (fun w' hC => by kernel_rfl) (fun w' hC => ((psize_ok P w' P8.out.rows (by have := P8.out.iv.ok.ents.1; exact this)).mono (fun e w2 h => ⟨h.1, hC.then_none h.2⟩))) ?_
            refine q_val7 (some 152) (.pointer (some ⟨w.heap.size, 5, none⟩)) rfl (by kernel_rfl) (fun w' hC => by kernel_rfl) ?_
            refine q_val7 (some 153) (.pointer (some ⟨w.heap.size, 8, none⟩)) rfl (by kernel_rfl) (fun w' hC => by kernel_rfl) ?_
            refine q_cell7 (some 154) (.int .i64 c.l.rows) 3 (.tmp 153) ⟨w.heap.size, 8, none⟩ _ rfl (by kernel_rfl) rfl (by kernel_rfl) (fun w' hC => (B8.out.fr hC id).cell' rfl) Try.underlying3 rfl ?_
            refine q_bool7 (some 155) (decide (c.l.rows < ((P.size : Nat) : Int))) true (C1.out) rfl (by kernel_rfl) (fun w' hC => by kernel_rfl) ?_
            refine q_val7 (some 156) (.bool true) rfl (by kernel_rfl) (fun w' hC => by kernel_rfl) ?_
            refine q_val7 (some 157) (.pointer (some ⟨w6.heap.size, 0, none⟩)) rfl (by kernel_rfl) (fun w' hC => by kernel_rfl) ?_
            refine q_cell7 (some 158) (.int .i64 7) 3 (.tmp 157) ⟨w6.heap.size, 0, none⟩ _ rfl (by kernel_rfl) rfl (by kernel_rfl) (fun w' hC => (BX.out.fr hC id).cell' rfl) Try.underlying3 rfl ?_
            refine q_val7 (some 159) (.bool false) rfl (by kernel_rfl) (fun w' hC => by kernel_rfl) ?_
            refine q_val7 (some 160) (.pointer (some ⟨w2.heap.size, 0, none⟩)) rfl (by kernel_rfl) (fun w' hC => by kernel_rfl) ?_
            refine q_cell7 (some 161) (.int .i64 P.n) 3 (.tmp 160) ⟨w2.heap.size, 0, none⟩ _ rfl (by kernel_rfl) rfl (by kernel_rfl) (fun w' hC => (BP.out.fr hC id).cell' rfl) Try.underlying3 rfl ?_
            refine q_bool7 (some 162) (P.n == 0) false (C2.out) rfl (by kernel_rfl) (fun w' hC => by kernel_rfl) ?_
            refine q_val7 (some 163) (.bool true) rfl (by kernel_rfl) (fun w' hC => by kernel_rfl) ?_
            refine q_val7 (some 164) (.bool true) rfl (by kernel_rfl) (fun w' hC => by kernel_rfl) ?_
            refine q_val7 (some 165) (.bool true) rfl (by kernel_rfl) (fun w' hC => by kernel_rfl) ?_
            refine q_call7 (some 166) (.bool true) 28 #[] rfl (by kernel_rfl) (fun w' hC => by kernel_rfl) (fun w' hC => ((awake11_ok w').mono (fun e w2 h => ⟨h.1, hC.then_none h.2⟩))) ?_
            refine q_val7 (some 167) (.bool true) rfl (by kernel_rfl) (fun w' hC => by kernel_rfl) ?_
            refine q_val7 (some 2) (.bool true) rfl (by kernel_rfl) (fun w' hC => by kernel_rfl) ?_
            refine q_done7 ?_
            intro w9 hf9
            have F9 := hid_ hf9
            clear hf9
            simp only [Exit.then]
            go_frame
            rename_i hKm
            refine hKm _ _ ?_
            go_meet
            case rel => exact ⟨rfl, F9.out⟩
          case rest =>
            obtain ⟨rfl, hf⟩ := hcut
            go_wp2
            go_ret
            exact ⟨rfl, F8.out.then_none hf⟩
        | grow h1 h2 =>
          have x0 : w8.cell? ⟨w6.heap.size, 0, none⟩ = some (.int .i64 8) := BX.out.cell' rfl
          go_upto_region 20 with fail
          have C1 : Hid (decide (c.l.rows < ((P.size : Nat) : Int)) = true) := hid_ (decide_eq_true h1)
          have C2 : Hid ((P.n == 0) = true) := hid_ (by simpa using h2)
          clear h1 h2 x0
          go_cut [2] (fun u wq => u = .bool true ∧ Fr none_ w8 wq)
          case first =>
            refine wp_region_q7 (fun w' => Fr none_ w8 w') (by kernel_rfl) (by kernel_rfl) (Fr.refl none_ w8).drew ?_
            refine q_mid7 (some 150) (pzA P).toList 45 (.tmp 3) w2.heap.size 0 _ rfl (by kernel_rfl) rfl (by kernel_rfl) (fun w' hC => Blk.range7 (l := (pzA P).toList) (BP.out.fr hC id)) Try.underlying45 rfl (page_size) ?_
            refine q_call7 (some 151) (.int .i64 (P.size : Nat)) 33 #[.agg (pzA P)] rfl (by kernel_rfl) (fun w' hC => by kernel_rfl) (fun w' hC => ((psize_ok P w' P8.out.rows (by have := P8.out.iv.ok.ents.1; exact this)).mono (fun e w2 h => ⟨h.1, hC.then_none h.2⟩))) ?_
            refine q_val7 (some 152) (.pointer (some ⟨w.heap.size, 5, none⟩)) rfl (by kernel_rfl) (fun w' hC => by kernel_rfl) ?_
            refine q_val7 (some 153) (.pointer (some ⟨w.heap.size, 8, none⟩)) rfl (by kernel_rfl) (fun w' hC => by kernel_rfl) ?_
            refine q_cell7 (some 154) (.int .i64 c.l.rows) 3 (.tmp 153) ⟨w.heap.size, 8, none⟩ _ rfl (by kernel_rfl) rfl (by kernel_rfl) (fun w' hC => (B8.out.fr hC id).cell' rfl) Try.underlying3 rfl ?_
            refine q_bool7 (some 155) (decide (c.l.rows < ((P.size : Nat) : Int))) true (C1.out) rfl (by kernel_rfl) (fun w' hC => by kernel_rfl) ?_
            refine q_val7 (some 156) (.bool true) rfl (by kernel_rfl) (fun w' hC => by kernel_rfl) ?_
            refine q_val7 (some 157) (.pointer (some ⟨w6.heap.size, 0, none⟩)) rfl (by kernel_rfl) (fun w' hC => by kernel_rfl) ?_
            refine q_cell7 (some 158) (.int .i64 8) 3 (.tmp 157) ⟨w6.heap.size, 0, none⟩ _ rfl (by kernel_rfl) rfl (by kernel_rfl) (fun w' hC => (BX.out.fr hC id).cell' rfl) Try.underlying3 rfl ?_
            refine q_val7 (some 159) (.bool true) rfl (by kernel_rfl) (fun w' hC => by kernel_rfl) ?_
            refine q_val7 (some 160) (.pointer (some ⟨w2.heap.size, 0, none⟩)) rfl (by kernel_rfl) (fun w' hC => by kernel_rfl) ?_
            refine q_cell7 (some 161) (.int .i64 P.n) 3 (.tmp 160) ⟨w2.heap.size, 0, none⟩ _ rfl (by kernel_rfl) rfl (by kernel_rfl) (fun w' hC => (BP.out.fr hC id).cell' rfl) Try.underlying3 rfl ?_
            refine q_bool7 (some 162) (P.n == 0) true (C2.out) rfl (by kernel_rfl) (fun w' hC => by kernel_rfl) ?_
            refine q_val7 (some 163) (.bool true) rfl (by kernel_rfl) (fun w' hC => by kernel_rfl) ?_
            refine q_val7 (some 164) (.bool true) rfl (by kernel_rfl) (fun w' hC => by kernel_rfl) ?_
            refine q_val7 (some 165) (.bool true) rfl (by kernel_rfl) (fun w' hC => by kernel_rfl) ?_
            refine q_call7 (some 166) (.bool true) 28 #[] rfl (by kernel_rfl) (fun w' hC => by kernel_rfl) (fun w' hC => ((awake11_ok w').mono (fun e w2 h => ⟨h.1, hC.then_none h.2⟩))) ?_
            refine q_val7 (some 167) (.bool true) rfl (by kernel_rfl) (fun w' hC => by kernel_rfl) ?_
            refine q_val7 (some 2) (.bool true) rfl (by kernel_rfl) (fun w' hC => by kernel_rfl) ?_
            refine q_done7 ?_
            intro w9 hf9
            have F9 := hid_ hf9
            clear hf9
            simp only [Exit.then]
            go_frame
            rename_i hKm
            refine hKm _ _ ?_
            go_meet
            case rel => exact ⟨rfl, F9.out⟩
          case rest =>
            obtain ⟨rfl, hf⟩ := hcut
            go_wp2
            go_ret
            exact ⟨rfl, F8.out.then_none hf⟩
        | hold hl hk h1 h2 h3 =>
          have p5 : w8.cell? ⟨w2.heap.size, 5, none⟩ = some (.bool P.leaf) := BP.out.cell' rfl
          have p0 : w8.cell? ⟨w2.heap.size, 0, none⟩ = some (.int .i64 P.n) := BP.out.cell' rfl
          have x0 : w8.cell? ⟨w6.heap.size, 0, none⟩ = some (.int .i64 9) := BX.out.cell' rfl
          have x4 : w8.cell? ⟨w6.heap.size, 4, none⟩ = some (.int .i64 P.n) := BX.out.cell' rfl
          have x6 : w8.cell? ⟨w6.heap.size, 6, none⟩ = some (.string hk) := BX.out.cell' rfl
          rw [h1] at p5
          have HZ := hid_ h2
          have AT := hid_ h3
          have HHK : Hid (SzOk hk) := hid_ (atB_sz V8.out.ok.ents h3)
          clear h1 h2 h3
          go_wp2_with (refine wpList_load_midG (by kernel_rfl) 45 (.tmp 3) rfl w2.heap.size 0 rfl (pzA P).toList _ (Blk.range7 (l := (pzA P).toList) BP.out) Try.underlying45 rfl page_size ?_)
          refine (psize_ok P w8 P8.out.rows (by have := P8.out.iv.ok.ents.1; exact this)).mono ?_
          rintro e w9 ⟨rfl, hf⟩
          rw [HZ.out]
          replace F8 := hid_ (F8.out.then_none hf)
          replace BA := hid_ (BA.out.fr hf id)
          replace V8 := hid_ (V8.out.keep hf)
          replace p0 := cellFr p0 hf
          replace x4 := cellFr x4 hf
          replace x6 := cellFr x6 hf
          clear hf p5 x0
          go_wp2_with (refine wpList_load_midG (by kernel_rfl) 43 (.tmp 186) rfl (w2.heap.size + 1) 4 rfl (vwA a.V (.slice a.B a.V.ents.length a.d)).toList _ (az_range BA.out) Try.underlying43 rfl view_size7 ?_)
          refine (has_ok a.V a.B a.d hk w9 V8.out HHK.out).mono ?_
          rintro e w10 ⟨rfl, hf⟩
          rw [AT.out]
          replace F8 := hid_ (F8.out.then_none hf)
          clear hf p0 x4 x6
          go_wp2_with fail
          refine (awake11_ok w10).mono ?_
          rintro e wz ⟨rfl, hz⟩
          go_wp2
          go_ret
          exact ⟨rfl, F8.out.then_none hz⟩
        | tidy h1 =>
          have p3 : w8.cell? ⟨w2.heap.size, 3, none⟩ = some (.slice P.C P.nc P.x) := BP.out.cell' rfl
          have k9 : w8.cell? ⟨w.heap.size, 9, none⟩ = some (.int .i64 c.l.chain) := B8.out.cell' rfl
          have x0 : w8.cell? ⟨w6.heap.size, 0, none⟩ = some (.int .i64 6) := BX.out.cell' rfl
          have d1 : decide (c.l.chain < ((P.nc : Nat) : Int)) = true := decide_eq_true h1
          clear h1
          go_wp2_with fail
          refine (awake11_ok w8).mono ?_
          rintro e wz ⟨rfl, hz⟩
          go_wp2
          go_ret
          exact ⟨rfl, F8.out.then_none hz⟩
        | again =>
          have x0 : w8.cell? ⟨w6.heap.size, 0, none⟩ = some (.int .i64 3) := BX.out.cell' rfl
          go_wp2_with fail
          refine (awake11_ok w8).mono ?_
          rintro e wz ⟨rfl, hz⟩
          go_wp2
          go_ret
          exact ⟨rfl, F8.out.then_none hz⟩
        | help hp hl hk =>
          have x0 : w8.cell? ⟨w6.heap.size, 0, none⟩ = some (.int .i64 5) := BX.out.cell' rfl
          go_wp2_with fail
          refine (awake11_ok w8).mono ?_
          rintro e wz ⟨rfl, hz⟩
          go_wp2
          go_ret
          exact ⟨rfl, F8.out.then_none hz⟩
end Go.Proofs.Ytpjbncbmdfmlpaa

/- PlanCalm of layer 11. Written by gen_calm11.py. -/
import Derived.Test.YtpjbncbmdfmlpaaEq11
namespace Go.Proofs.Ytpjbncbmdfmlpaa
open Go.RowKit Go.BigFrame
set_option maxRecDepth 100000
set_option linter.unusedVariables false
set_option maxHeartbeats 8000000 in
theorem calm11_law (c : Cz) (L1 L2 : List Ch) (w : World) (h : CzIn w c L1 L2) : Calls Try.prog 7 #[.agg (czA c)] w (RetQ (.bool true) w) := by
  obtain ⟨w0, hw0⟩ : ∃ z, z = w.alloc (.cells (czA c) 75) := ⟨_, rfl⟩
  have f0 : Fr none_ w w0 := by rw [hw0]; exact (Fr.refl none_ w).alloc _
  have BC := hid_ (show Blk w0 w.heap.size 75 (czA c) by rw [hw0]; exact Blk.new w _ _)
  have F := hid_ f0
  have H := hid_ (h.keep f0)
  clear f0 h
  go_enter Try.func7, Try.ntmps7
  go_upto_region 1 with fail
  change Code.wp _ _ _ _ (w.alloc (.cells (czA c) 75))
  rw [← hw0]
  clear hw0
  go_wp2_with (refine wpList_load_mid rfl 75 (.tmp 1) rfl w.heap.size 0 rfl (czA c).toList _ (Blk.range7 (l := (czA c).toList) BC.out) Try.underlying75 rfl case_size ?_)
  refine (cfew_ok c L1 L2 w0 H.out).mono ?_
  rintro e w1 ⟨b, rfl, hb, hf⟩
  have G0 := hid_ hb
  replace F := hid_ (F.out.then_none hf)
  replace BC := hid_ (BC.out.fr hf id)
  replace H := hid_ (H.out.keep hf)
  clear hb hf
  cases b with
  | false =>
    go_wp2_with fail
    refine (awake11_ok w1).mono ?_
    rintro e w2 ⟨rfl, hf⟩
    go_wp2
    go_ret
    exact ⟨rfl, F.out.then_none hf⟩
  | true =>
    have HF := hid_ (G0.out rfl)
    clear G0
    go_wp2_with (refine wpList_load_mid rfl 75 (.tmp 1) rfl w.heap.size 0 rfl (czA c).toList _ (Blk.range7 (l := (czA c).toList) BC.out) Try.underlying75 rfl case_size ?_)
    refine (made11_ok c L1 L2 w1 H.out HF.out).mono ?_
    rintro e w2 ⟨pv, a, ok, rfl, hsz, hoc, hvi, hfu, hf, hok⟩
    have VI := hid_ hvi
    have FU := hid_ hfu
    have HOK := hid_ hok
    have HSZ := hid_ hsz
    have HOC := hid_ hoc
    replace F := hid_ (F.out.then_none hf)
    replace BC := hid_ (BC.out.fr hf id)
    replace H := hid_ (H.out.keep hf)
    have hsw := BC.out.lt
    clear hf hvi hfu hok hsz hoc
    have hwB : Hid (w.heap.size ≤ w2.heap.size ∧ w.heap.size ≤ w2.heap.size + 1) := hid_ (by omega)
    go_upto_region 4 with (first | (obtain ⟨w3, hw3⟩ : ∃ z, z = ((w2.alloc (.cells pgZ 45)).alloc (.cells azZ 77)) := ⟨_, rfl⟩; have BZ : Hid (Blk w3 w2.heap.size 45 pgZ ∧ Blk w3 (w2.heap.size + 1) 77 azZ ∧ Fr none_ w2 w3) := hid_ (by rw [hw3]; exact ⟨(Blk.new w2 _ _).alloc _, Blk.new7 _ _ (by simp), ((Fr.refl none_ w2).alloc _).alloc _⟩); change wpList _ _ _ _ _ ((w2.alloc (.cells pgZ 45)).alloc (.cells azZ 77)); rw [← hw3]; clear hw3; refine wpList_store_mid rfl 45 (.tmp 3) (.tmp 13) rfl w2.heap.size 0 pv rfl rfl (by rw [HSZ.out]; exact BZ.out.1.there7 rfl) (by rw [HSZ.out]; exact page_size) HOC.out ?_; have ov := BZ.out.1.over7 pv.toList (by rw [Array.length_toList, HSZ.out]; rfl); obtain ⟨w4, hw4⟩ : ∃ z, z = w3.setCells w2.heap.size 0 pv.toList := ⟨_, rfl⟩; change wpList _ _ _ _ _ (w3.setCells w2.heap.size 0 pv.toList); rw [← hw4] at ov ⊢; clear hw4; have OV := hid_ ov; clear ov) | (refine wpList_store_mid rfl 77 (.tmp 4) (.tmp 14) rfl (w2.heap.size + 1) 0 (azA a) rfl rfl ((BZ.out.2.1.fr OV.out.2 (only_ne (by omega))).there7 rfl) above_size7 (by simp [Value.oneCell']) ?_; have ow := (BZ.out.2.1.fr OV.out.2 (only_ne (by omega))).over7 (azA a).toList rfl; obtain ⟨w5, hw5⟩ : ∃ z, z = w4.setCells (w2.heap.size + 1) 0 (azA a).toList := ⟨_, rfl⟩; change wpList _ _ _ _ _ (w4.setCells (w2.heap.size + 1) 0 (azA a).toList); rw [← hw5] at ow ⊢; clear hw5; have OW := hid_ ow; clear ow))
    have F5 : Hid (Fr none_ w w5) := hid_ (((F.out.then_none BZ.out.2.2).then_only OV.out.2 (.inr hwB.out.1)).then_only OW.out.2 (.inr hwB.out.2))
    have BA := hid_ OW.out.1
    have BP := hid_ (OV.out.1.fr OW.out.2 (only_ne (by omega)))
    have B5 := hid_ (((BC.out.fr BZ.out.2.2 id).fr OV.out.2 (only_ne (by omega))).fr OW.out.2 (only_ne (by omega)))
    have V5 : Hid (VwIn w5 a.V a.B a.d) := hid_ (((VI.out.keep BZ.out.2.2).farZ BZ.out.1 OV.out.2).farA (BZ.out.2.1.fr OV.out.2 (only_ne (by omega))) OW.out.2)
    clear hwB
    go_cut [51] (fun u wq => ∃ b, u = .bool b ∧ (b = false → ok = true ∧ ∃ P, pv = pzA P ∧ PzOk w5 P ∧ P.iv.held = false ∧ inS P.low P.high P.unb c.key = true ∧ ¬ c.l.chain < (P.nc : Int) ∧ ¬ c.l.rows < (P.size : Int) ∧ 0 < P.size) ∧ Fr none_ w5 wq)
    case first =>
      cases ok with
      | false =>
        refine wp_region_q7 (fun w' => Fr none_ w5 w') (by kernel_rfl) (by kernel_rfl) (Fr.refl none_ w5).drew ?_
        refine q_val7 (some 16) (.bool false) rfl (by kernel_rfl) (fun w' hC => by kernel_rfl) ?_
        refine q_val7 (some 17) (.bool true) rfl (by kernel_rfl) (fun w' hC => by kernel_rfl) ?_
        refine q_val7 (some 18) (.bool true) rfl (by kernel_rfl) (fun w' hC => by kernel_rfl) ?_
        refine q_skip7 (some 19) rfl (by kernel_rfl) ?_
        refine q_skip7 (some 20) rfl (by kernel_rfl) ?_
        refine q_skip7 (some 21) rfl (by kernel_rfl) ?_
        refine q_val7 (some 22) (.bool true) rfl (by kernel_rfl) (fun w' hC => by kernel_rfl) ?_
        refine q_val7 (some 23) (.bool true) rfl (by kernel_rfl) (fun w' hC => by kernel_rfl) ?_
        refine q_skip7 (some 24) rfl (by kernel_rfl) ?_
        refine q_skip7 (some 25) rfl (by kernel_rfl) ?_
        refine q_skip7 (some 26) rfl (by kernel_rfl) ?_
        refine q_skip7 (some 27) rfl (by kernel_rfl) ?_
        refine q_skip7 (some 28) rfl (by kernel_rfl) ?_
        refine q_val7 (some 29) (.bool true) rfl (by kernel_rfl) (fun w' hC => by kernel_rfl) ?_
        refine q_val7 (some 30) (.bool true) rfl (by kernel_rfl) (fun w' hC => by kernel_rfl) ?_
        refine q_skip7 (some 31) rfl (by kernel_rfl) ?_
        refine q_skip7 (some 32) rfl (by kernel_rfl) ?_
        refine q_skip7 (some 33) rfl (by kernel_rfl) ?_
        refine q_skip7 (some 34) rfl (by kernel_rfl) ?_
        refine q_skip7 (some 35) rfl (by kernel_rfl) ?_
        refine q_skip7 (some 36) rfl (by kernel_rfl) ?_
        refine q_skip7 (some 37) rfl (by kernel_rfl) ?_
        refine q_val7 (some 38) (.bool true) rfl (by kernel_rfl) (fun w' hC => by kernel_rfl) ?_
        refine q_val7 (some 39) (.bool true) rfl (by kernel_rfl) (fun w' hC => by kernel_rfl) ?_
        refine q_skip7 (some 40) rfl (by kernel_rfl) ?_
        refine q_skip7 (some 41) rfl (by kernel_rfl) ?_
        refine q_skip7 (some 42) rfl (by kernel_rfl) ?_
        refine q_skip7 (some 43) rfl (by kernel_rfl) ?_
        refine q_skip7 (some 44) rfl (by kernel_rfl) ?_
        refine q_skip7 (some 45) rfl (by kernel_rfl) ?_
        refine q_val7 (some 46) (.bool true) rfl (by kernel_rfl) (fun w' hC => by kernel_rfl) ?_
        refine q_val7 (some 47) (.bool true) rfl (by kernel_rfl) (fun w' hC => by kernel_rfl) ?_
        refine q_skip7 (some 48) rfl (by kernel_rfl) ?_
        refine q_skip7 (some 49) rfl (by kernel_rfl) ?_
        refine q_skip7 (some 50) rfl (by kernel_rfl) ?_
        refine q_val7 (some 51) (.bool true) rfl (by kernel_rfl) (fun w' hC => by kernel_rfl) ?_
        refine q_done7 ?_
        intro w6 hf6
        have F6 := hid_ hf6
        clear hf6
        go_wp2
        go_meet
        case rel => exact ⟨true, rfl, (fun h => by cases h), F6.out⟩
      | true =>
        obtain ⟨P, hpe, hpo, hpn, hpc, hpof⟩ := HOK.out rfl
        have HPE := hid_ hpe
        have PO := hid_ hpo
        have HOF := hid_ (And.intro hpn (And.intro hpc hpof))
        clear hpe hpo hpn hpc hpof
        have P5 : Hid (PzOk w5 P) := hid_ (by have h4 := PO.out; exact ⟨h4.low, h4.high, h4.rows, ((h4.iv.keep BZ.out.2.2).farZ BZ.out.1 OV.out.2).farA (BZ.out.2.1.fr OV.out.2 (only_ne (by omega))) OW.out.2, h4.nc⟩)
        have K5 := hid_ (H.out.key)
        rw [HPE.out] at BP
        have p17 : w5.cell? ⟨w2.heap.size, 17, none⟩ = some (.bool P.iv.held) := BP.out.cell' rfl
        cases he : P.iv.held with
        | true =>
          rw [he] at p17
          clear he
          refine wp_region_q7 (fun w' => Fr none_ w5 w') (by kernel_rfl) (by kernel_rfl) (Fr.refl none_ w5).drew ?_
          refine q_val7 (some 16) (.bool true) rfl (by kernel_rfl) (fun w' hC => by kernel_rfl) ?_
          refine q_val7 (some 17) (.bool false) rfl (by kernel_rfl) (fun w' hC => by kernel_rfl) ?_
          refine q_val7 (some 18) (.bool false) rfl (by kernel_rfl) (fun w' hC => by kernel_rfl) ?_
          refine q_val7 (some 19) (.pointer (some ⟨w2.heap.size, 12, none⟩)) rfl (by kernel_rfl) (fun w' hC => by kernel_rfl) ?_
          refine q_val7 (some 20) (.pointer (some ⟨w2.heap.size, 17, none⟩)) rfl (by kernel_rfl) (fun w' hC => by kernel_rfl) ?_
          refine q_cell7 (some 21) (.bool true) 4 (.tmp 20) ⟨w2.heap.size, 17, none⟩ _ rfl (by kernel_rfl) rfl (by kernel_rfl) (fun w' hC => cellFr p17 hC) Try.underlying4 rfl ?_
          refine q_val7 (some 22) (.bool true) rfl (by kernel_rfl) (fun w' hC => by kernel_rfl) ?_
          refine q_val7 (some 23) (.bool true) rfl (by kernel_rfl) (fun w' hC => by kernel_rfl) ?_
          refine q_skip7 (some 24) rfl (by kernel_rfl) ?_
          refine q_skip7 (some 25) rfl (by kernel_rfl) ?_
          refine q_skip7 (some 26) rfl (by kernel_rfl) ?_
          refine q_skip7 (some 27) rfl (by kernel_rfl) ?_
          refine q_skip7 (some 28) rfl (by kernel_rfl) ?_
          refine q_val7 (some 29) (.bool true) rfl (by kernel_rfl) (fun w' hC => by kernel_rfl) ?_
          refine q_val7 (some 30) (.bool true) rfl (by kernel_rfl) (fun w' hC => by kernel_rfl) ?_
          refine q_skip7 (some 31) rfl (by kernel_rfl) ?_
          refine q_skip7 (some 32) rfl (by kernel_rfl) ?_
          refine q_skip7 (some 33) rfl (by kernel_rfl) ?_
          refine q_skip7 (some 34) rfl (by kernel_rfl) ?_
          refine q_skip7 (some 35) rfl (by kernel_rfl) ?_
          refine q_skip7 (some 36) rfl (by kernel_rfl) ?_
          refine q_skip7 (some 37) rfl (by kernel_rfl) ?_
          refine q_val7 (some 38) (.bool true) rfl (by kernel_rfl) (fun w' hC => by kernel_rfl) ?_
          refine q_val7 (some 39) (.bool true) rfl (by kernel_rfl) (fun w' hC => by kernel_rfl) ?_
          refine q_skip7 (some 40) rfl (by kernel_rfl) ?_
          refine q_skip7 (some 41) rfl (by kernel_rfl) ?_
          refine q_skip7 (some 42) rfl (by kernel_rfl) ?_
          refine q_skip7 (some 43) rfl (by kernel_rfl) ?_
          refine q_skip7 (some 44) rfl (by kernel_rfl) ?_
          refine q_skip7 (some 45) rfl (by kernel_rfl) ?_
          refine q_val7 (some 46) (.bool true) rfl (by kernel_rfl) (fun w' hC => by kernel_rfl) ?_
          refine q_val7 (some 47) (.bool true) rfl (by kernel_rfl) (fun w' hC => by kernel_rfl) ?_
          refine q_skip7 (some 48) rfl (by kernel_rfl) ?_
          refine q_skip7 (some 49) rfl (by kernel_rfl) ?_
          refine q_skip7 (some 50) rfl (by kernel_rfl) ?_
          refine q_val7 (some 51) (.bool true) rfl (by kernel_rfl) (fun w' hC => by kernel_rfl) ?_
          refine q_done7 ?_
          intro w6 hf6
          have F6 := hid_ hf6
          clear hf6
          go_wp2
          go_meet
          case rel => exact ⟨true, rfl, (fun h => by cases h), F6.out⟩
        | false =>
          rw [he] at p17
          have HE := hid_ he
          clear he
          cases in_ : inS P.low P.high P.unb c.key with
          | false =>
            have IN := hid_ in_
            clear in_
            refine wp_region_q7 (fun w' => Fr none_ w5 w') (by kernel_rfl) (by kernel_rfl) (Fr.refl none_ w5).drew ?_
            refine q_val7 (some 16) (.bool true) rfl (by kernel_rfl) (fun w' hC => by kernel_rfl) ?_
            refine q_val7 (some 17) (.bool false) rfl (by kernel_rfl) (fun w' hC => by kernel_rfl) ?_
            refine q_val7 (some 18) (.bool false) rfl (by kernel_rfl) (fun w' hC => by kernel_rfl) ?_
            refine q_val7 (some 19) (.pointer (some ⟨w2.heap.size, 12, none⟩)) rfl (by kernel_rfl) (fun w' hC => by kernel_rfl) ?_
            refine q_val7 (some 20) (.pointer (some ⟨w2.heap.size, 17, none⟩)) rfl (by kernel_rfl) (fun w' hC => by kernel_rfl) ?_
            refine q_cell7 (some 21) (.bool false) 4 (.tmp 20) ⟨w2.heap.size, 17, none⟩ _ rfl (by kernel_rfl) rfl (by kernel_rfl) (fun w' hC => cellFr p17 hC) Try.underlying4 rfl ?_
            refine q_val7 (some 22) (.bool false) rfl (by kernel_rfl) (fun w' hC => by kernel_rfl) ?_
            refine q_val7 (some 23) (.bool false) rfl (by kernel_rfl) (fun w' hC => by kernel_rfl) ?_
            refine q_mid7 (some 24) (pzA P).toList 45 (.tmp 3) w2.heap.size 0 _ rfl (by kernel_rfl) rfl (by kernel_rfl) (fun w' hC => Blk.range7 (l := (pzA P).toList) (BP.out.fr hC id)) Try.underlying45 rfl (page_size) ?_
            refine q_val7 (some 25) (.pointer (some ⟨w.heap.size, 4, none⟩)) rfl (by kernel_rfl) (fun w' hC => by kernel_rfl) ?_
            refine q_cell7 (some 26) (.string c.key) 9 (.tmp 25) ⟨w.heap.size, 4, none⟩ _ rfl (by kernel_rfl) rfl (by kernel_rfl) (fun w' hC => (B5.out.fr hC id).cell' rfl) Try.underlying9 rfl ?_
            refine q_call7 (some 27) (.bool false) 32 #[.agg (pzA P), .string c.key] rfl (by kernel_rfl) (fun w' hC => by kernel_rfl) (fun w' hC => ((phas_ok P c.key w' P5.out.low_ P5.out.high_ K5.out).mono (fun e w2 h => ⟨by rw [h.1, IN.out], hC.then_none h.2⟩))) ?_
            refine q_val7 (some 28) (.bool true) rfl (by kernel_rfl) (fun w' hC => by kernel_rfl) ?_
            refine q_val7 (some 29) (.bool true) rfl (by kernel_rfl) (fun w' hC => by kernel_rfl) ?_
            refine q_val7 (some 30) (.bool true) rfl (by kernel_rfl) (fun w' hC => by kernel_rfl) ?_
            refine q_skip7 (some 31) rfl (by kernel_rfl) ?_
            refine q_skip7 (some 32) rfl (by kernel_rfl) ?_
            refine q_skip7 (some 33) rfl (by kernel_rfl) ?_
            refine q_skip7 (some 34) rfl (by kernel_rfl) ?_
            refine q_skip7 (some 35) rfl (by kernel_rfl) ?_
            refine q_skip7 (some 36) rfl (by kernel_rfl) ?_
            refine q_skip7 (some 37) rfl (by kernel_rfl) ?_
            refine q_val7 (some 38) (.bool true) rfl (by kernel_rfl) (fun w' hC => by kernel_rfl) ?_
            refine q_val7 (some 39) (.bool true) rfl (by kernel_rfl) (fun w' hC => by kernel_rfl) ?_
            refine q_skip7 (some 40) rfl (by kernel_rfl) ?_
            refine q_skip7 (some 41) rfl (by kernel_rfl) ?_
            refine q_skip7 (some 42) rfl (by kernel_rfl) ?_
            refine q_skip7 (some 43) rfl (by kernel_rfl) ?_
            refine q_skip7 (some 44) rfl (by kernel_rfl) ?_
            refine q_skip7 (some 45) rfl (by kernel_rfl) ?_
            refine q_val7 (some 46) (.bool true) rfl (by kernel_rfl) (fun w' hC => by kernel_rfl) ?_
            refine q_val7 (some 47) (.bool true) rfl (by kernel_rfl) (fun w' hC => by kernel_rfl) ?_
            refine q_skip7 (some 48) rfl (by kernel_rfl) ?_
            refine q_skip7 (some 49) rfl (by kernel_rfl) ?_
            refine q_skip7 (some 50) rfl (by kernel_rfl) ?_
            refine q_val7 (some 51) (.bool true) rfl (by kernel_rfl) (fun w' hC => by kernel_rfl) ?_
            refine q_done7 ?_
            intro w6 hf6
            have F6 := hid_ hf6
            clear hf6
            go_wp2
            go_meet
            case rel => exact ⟨true, rfl, (fun h => by cases h), F6.out⟩
          | true =>
            have IN := hid_ in_
            clear in_
            cases c1_ : decide (c.l.chain < ((P.nc : Nat) : Int)) with
            | true =>
              have C1 := hid_ c1_
              clear c1_
              refine wp_region_q7 (fun w' => Fr none_ w5 w') (by kernel_rfl) (by kernel_rfl) (Fr.refl none_ w5).drew ?_
              refine q_val7 (some 16) (.bool true) rfl (by kernel_rfl) (fun w' hC => by kernel_rfl) ?_
              refine q_val7 (some 17) (.bool false) rfl (by kernel_rfl) (fun w' hC => by kernel_rfl) ?_
              refine q_val7 (some 18) (.bool false) rfl (by kernel_rfl) (fun w' hC => by kernel_rfl) ?_
              refine q_val7 (some 19) (.pointer (some ⟨w2.heap.size, 12, none⟩)) rfl (by kernel_rfl) (fun w' hC => by kernel_rfl) ?_
              refine q_val7 (some 20) (.pointer (some ⟨w2.heap.size, 17, none⟩)) rfl (by kernel_rfl) (fun w' hC => by kernel_rfl) ?_
              refine q_cell7 (some 21) (.bool false) 4 (.tmp 20) ⟨w2.heap.size, 17, none⟩ _ rfl (by kernel_rfl) rfl (by kernel_rfl) (fun w' hC => cellFr p17 hC) Try.underlying4 rfl ?_
              refine q_val7 (some 22) (.bool false) rfl (by kernel_rfl) (fun w' hC => by kernel_rfl) ?_
              refine q_val7 (some 23) (.bool false) rfl (by kernel_rfl) (fun w' hC => by kernel_rfl) ?_
              refine q_mid7 (some 24) (pzA P).toList 45 (.tmp 3) w2.heap.size 0 _ rfl (by kernel_rfl) rfl (by kernel_rfl) (fun w' hC => Blk.range7 (l := (pzA P).toList) (BP.out.fr hC id)) Try.underlying45 rfl (page_size) ?_
              refine q_val7 (some 25) (.pointer (some ⟨w.heap.size, 4, none⟩)) rfl (by kernel_rfl) (fun w' hC => by kernel_rfl) ?_
              refine q_cell7 (some 26) (.string c.key) 9 (.tmp 25) ⟨w.heap.size, 4, none⟩ _ rfl (by kernel_rfl) rfl (by kernel_rfl) (fun w' hC => (B5.out.fr hC id).cell' rfl) Try.underlying9 rfl ?_
              refine q_call7 (some 27) (.bool true) 32 #[.agg (pzA P), .string c.key] rfl (by kernel_rfl) (fun w' hC => by kernel_rfl) (fun w' hC => ((phas_ok P c.key w' P5.out.low_ P5.out.high_ K5.out).mono (fun e w2 h => ⟨by rw [h.1, IN.out], hC.then_none h.2⟩))) ?_
              refine q_val7 (some 28) (.bool false) rfl (by kernel_rfl) (fun w' hC => by kernel_rfl) ?_
              refine q_val7 (some 29) (.bool false) rfl (by kernel_rfl) (fun w' hC => by kernel_rfl) ?_
              refine q_val7 (some 30) (.bool false) rfl (by kernel_rfl) (fun w' hC => by kernel_rfl) ?_
              refine q_val7 (some 31) (.pointer (some ⟨w2.heap.size, 3, none⟩)) rfl (by kernel_rfl) (fun w' hC => by kernel_rfl) ?_
              refine q_cell7 (some 32) (.slice P.C P.nc P.x) 34 (.tmp 31) ⟨w2.heap.size, 3, none⟩ _ rfl (by kernel_rfl) rfl (by kernel_rfl) (fun w' hC => (BP.out.fr hC id).cell' rfl) Try.underlying34 rfl ?_
              refine q_val7 (some 33) (.int .i64 (P.nc : Nat)) rfl (by kernel_rfl) (fun w' hC => by kernel_rfl) ?_
              refine q_val7 (some 34) (.pointer (some ⟨w.heap.size, 5, none⟩)) rfl (by kernel_rfl) (fun w' hC => by kernel_rfl) ?_
              refine q_val7 (some 35) (.pointer (some ⟨w.heap.size, 9, none⟩)) rfl (by kernel_rfl) (fun w' hC => by kernel_rfl) ?_
              refine q_cell7 (some 36) (.int .i64 c.l.chain) 3 (.tmp 35) ⟨w.heap.size, 9, none⟩ _ rfl (by kernel_rfl) rfl (by kernel_rfl) (fun w' hC => (B5.out.fr hC id).cell' rfl) Try.underlying3 rfl ?_
              refine q_bool7 (some 37) (decide (c.l.chain < ((P.nc : Nat) : Int))) true (C1.out) rfl (by kernel_rfl) (fun w' hC => by kernel_rfl) ?_
              refine q_val7 (some 38) (.bool true) rfl (by kernel_rfl) (fun w' hC => by kernel_rfl) ?_
              refine q_val7 (some 39) (.bool true) rfl (by kernel_rfl) (fun w' hC => by kernel_rfl) ?_
              refine q_skip7 (some 40) rfl (by kernel_rfl) ?_
              refine q_skip7 (some 41) rfl (by kernel_rfl) ?_
              refine q_skip7 (some 42) rfl (by kernel_rfl) ?_
              refine q_skip7 (some 43) rfl (by kernel_rfl) ?_
              refine q_skip7 (some 44) rfl (by kernel_rfl) ?_
              refine q_skip7 (some 45) rfl (by kernel_rfl) ?_
              refine q_val7 (some 46) (.bool true) rfl (by kernel_rfl) (fun w' hC => by kernel_rfl) ?_
              refine q_val7 (some 47) (.bool true) rfl (by kernel_rfl) (fun w' hC => by kernel_rfl) ?_
              refine q_skip7 (some 48) rfl (by kernel_rfl) ?_
              refine q_skip7 (some 49) rfl (by kernel_rfl) ?_
              refine q_skip7 (some 50) rfl (by kernel_rfl) ?_
              refine q_val7 (some 51) (.bool true) rfl (by kernel_rfl) (fun w' hC => by kernel_rfl) ?_
              refine q_done7 ?_
              intro w6 hf6
              have F6 := hid_ hf6
              clear hf6
              go_wp2
              go_meet
              case rel => exact ⟨true, rfl, (fun h => by cases h), F6.out⟩
            | false =>
              have C1 := hid_ c1_
              clear c1_
              cases c2_ : decide (c.l.rows < ((P.size : Nat) : Int)) with
              | true =>
                have C2 := hid_ c2_
                clear c2_
                refine wp_region_q7 (fun w' => Fr none_ w5 w') (by kernel_rfl) (by kernel_rfl) (Fr.refl none_ w5).drew ?_
                refine q_val7 (some 16) (.bool true) rfl (by kernel_rfl) (fun w' hC => by kernel_rfl) ?_
                refine q_val7 (some 17) (.bool false) rfl (by kernel_rfl) (fun w' hC => by kernel_rfl) ?_
                refine q_val7 (some 18) (.bool false) rfl (by kernel_rfl) (fun w' hC => by kernel_rfl) ?_
                refine q_val7 (some 19) (.pointer (some ⟨w2.heap.size, 12, none⟩)) rfl (by kernel_rfl) (fun w' hC => by kernel_rfl) ?_
                refine q_val7 (some 20) (.pointer (some ⟨w2.heap.size, 17, none⟩)) rfl (by kernel_rfl) (fun w' hC => by kernel_rfl) ?_
                refine q_cell7 (some 21) (.bool false) 4 (.tmp 20) ⟨w2.heap.size, 17, none⟩ _ rfl (by kernel_rfl) rfl (by kernel_rfl) (fun w' hC => cellFr p17 hC) Try.underlying4 rfl ?_
                refine q_val7 (some 22) (.bool false) rfl (by kernel_rfl) (fun w' hC => by kernel_rfl) ?_
                refine q_val7 (some 23) (.bool false) rfl (by kernel_rfl) (fun w' hC => by kernel_rfl) ?_
                refine q_mid7 (some 24) (pzA P).toList 45 (.tmp 3) w2.heap.size 0 _ rfl (by kernel_rfl) rfl (by kernel_rfl) (fun w' hC => Blk.range7 (l := (pzA P).toList) (BP.out.fr hC id)) Try.underlying45 rfl (page_size) ?_
                refine q_val7 (some 25) (.pointer (some ⟨w.heap.size, 4, none⟩)) rfl (by kernel_rfl) (fun w' hC => by kernel_rfl) ?_
                refine q_cell7 (some 26) (.string c.key) 9 (.tmp 25) ⟨w.heap.size, 4, none⟩ _ rfl (by kernel_rfl) rfl (by kernel_rfl) (fun w' hC => (B5.out.fr hC id).cell' rfl) Try.underlying9 rfl ?_
                refine q_call7 (some 27) (.bool true) 32 #[.agg (pzA P), .string c.key] rfl (by kernel_rfl) (fun w' hC => by kernel_rfl) (fun w' hC => ((phas_ok P c.key w' P5.out.low_ P5.out.high_ K5.out).mono (fun e w2 h => ⟨by rw [h.1, IN.out], hC.then_none h.2⟩))) ?_
                refine q_val7 (some 28) (.bool false) rfl (by kernel_rfl) (fun w' hC => by kernel_rfl) ?_
                refine q_val7 (some 29) (.bool false) rfl (by kernel_rfl) (fun w' hC => by kernel_rfl) ?_
                refine q_val7 (some 30) (.bool false) rfl (by kernel_rfl) (fun w' hC => by kernel_rfl) ?_
                refine q_val7 (some 31) (.pointer (some ⟨w2.heap.size, 3, none⟩)) rfl (by kernel_rfl) (fun w' hC => by kernel_rfl) ?_
                refine q_cell7 (some 32) (.slice P.C P.nc P.x) 34 (.tmp 31) ⟨w2.heap.size, 3, none⟩ _ rfl (by kernel_rfl) rfl (by kernel_rfl) (fun w' hC => (BP.out.fr hC id).cell' rfl) Try.underlying34 rfl ?_
                refine q_val7 (some 33) (.int .i64 (P.nc : Nat)) rfl (by kernel_rfl) (fun w' hC => by kernel_rfl) ?_
                refine q_val7 (some 34) (.pointer (some ⟨w.heap.size, 5, none⟩)) rfl (by kernel_rfl) (fun w' hC => by kernel_rfl) ?_
                refine q_val7 (some 35) (.pointer (some ⟨w.heap.size, 9, none⟩)) rfl (by kernel_rfl) (fun w' hC => by kernel_rfl) ?_
                refine q_cell7 (some 36) (.int .i64 c.l.chain) 3 (.tmp 35) ⟨w.heap.size, 9, none⟩ _ rfl (by kernel_rfl) rfl (by kernel_rfl) (fun w' hC => (B5.out.fr hC id).cell' rfl) Try.underlying3 rfl ?_
                refine q_bool7 (some 37) (decide (c.l.chain < ((P.nc : Nat) : Int))) false (C1.out) rfl (by kernel_rfl) (fun w' hC => by kernel_rfl) ?_
                refine q_val7 (some 38) (.bool false) rfl (by kernel_rfl) (fun w' hC => by kernel_rfl) ?_
                refine q_val7 (some 39) (.bool false) rfl (by kernel_rfl) (fun w' hC => by kernel_rfl) ?_
                refine q_mid7 (some 40) (pzA P).toList 45 (.tmp 3) w2.heap.size 0 _ rfl (by kernel_rfl) rfl (by kernel_rfl) (fun w' hC => Blk.range7 (l := (pzA P).toList) (BP.out.fr hC id)) Try.underlying45 rfl (page_size) ?_
                refine q_call7 (some 41) (.int .i64 (P.size : Nat)) 33 #[.agg (pzA P)] rfl (by kernel_rfl) (fun w' hC => by kernel_rfl) (fun w' hC => ((psize_ok P w' P5.out.rows (by have := P5.out.iv.ok.ents.1; exact this)).mono (fun e w2 h => ⟨h.1, hC.then_none h.2⟩))) ?_
                refine q_val7 (some 42) (.pointer (some ⟨w.heap.size, 5, none⟩)) rfl (by kernel_rfl) (fun w' hC => by kernel_rfl) ?_
                refine q_val7 (some 43) (.pointer (some ⟨w.heap.size, 8, none⟩)) rfl (by kernel_rfl) (fun w' hC => by kernel_rfl) ?_
                refine q_cell7 (some 44) (.int .i64 c.l.rows) 3 (.tmp 43) ⟨w.heap.size, 8, none⟩ _ rfl (by kernel_rfl) rfl (by kernel_rfl) (fun w' hC => (B5.out.fr hC id).cell' rfl) Try.underlying3 rfl ?_
                refine q_bool7 (some 45) (decide (c.l.rows < ((P.size : Nat) : Int))) true (C2.out) rfl (by kernel_rfl) (fun w' hC => by kernel_rfl) ?_
                refine q_val7 (some 46) (.bool true) rfl (by kernel_rfl) (fun w' hC => by kernel_rfl) ?_
                refine q_val7 (some 47) (.bool true) rfl (by kernel_rfl) (fun w' hC => by kernel_rfl) ?_
                refine q_skip7 (some 48) rfl (by kernel_rfl) ?_
                refine q_skip7 (some 49) rfl (by kernel_rfl) ?_
                refine q_skip7 (some 50) rfl (by kernel_rfl) ?_
                refine q_val7 (some 51) (.bool true) rfl (by kernel_rfl) (fun w' hC => by kernel_rfl) ?_
                refine q_done7 ?_
                intro w6 hf6
                have F6 := hid_ hf6
                clear hf6
                go_wp2
                go_meet
                case rel => exact ⟨true, rfl, (fun h => by cases h), F6.out⟩
              | false =>
                have C2 := hid_ c2_
                clear c2_
                cases c3_ : ((P.size : Nat) : Int) == 0 with
                | true =>
                  have C3 := hid_ c3_
                  clear c3_
                  refine wp_region_q7 (fun w' => Fr none_ w5 w') (by kernel_rfl) (by kernel_rfl) (Fr.refl none_ w5).drew ?_
                  refine q_val7 (some 16) (.bool true) rfl (by kernel_rfl) (fun w' hC => by kernel_rfl) ?_
                  refine q_val7 (some 17) (.bool false) rfl (by kernel_rfl) (fun w' hC => by kernel_rfl) ?_
                  refine q_val7 (some 18) (.bool false) rfl (by kernel_rfl) (fun w' hC => by kernel_rfl) ?_
                  refine q_val7 (some 19) (.pointer (some ⟨w2.heap.size, 12, none⟩)) rfl (by kernel_rfl) (fun w' hC => by kernel_rfl) ?_
                  refine q_val7 (some 20) (.pointer (some ⟨w2.heap.size, 17, none⟩)) rfl (by kernel_rfl) (fun w' hC => by kernel_rfl) ?_
                  refine q_cell7 (some 21) (.bool false) 4 (.tmp 20) ⟨w2.heap.size, 17, none⟩ _ rfl (by kernel_rfl) rfl (by kernel_rfl) (fun w' hC => cellFr p17 hC) Try.underlying4 rfl ?_
                  refine q_val7 (some 22) (.bool false) rfl (by kernel_rfl) (fun w' hC => by kernel_rfl) ?_
                  refine q_val7 (some 23) (.bool false) rfl (by kernel_rfl) (fun w' hC => by kernel_rfl) ?_
                  refine q_mid7 (some 24) (pzA P).toList 45 (.tmp 3) w2.heap.size 0 _ rfl (by kernel_rfl) rfl (by kernel_rfl) (fun w' hC => Blk.range7 (l := (pzA P).toList) (BP.out.fr hC id)) Try.underlying45 rfl (page_size) ?_
                  refine q_val7 (some 25) (.pointer (some ⟨w.heap.size, 4, none⟩)) rfl (by kernel_rfl) (fun w' hC => by kernel_rfl) ?_
                  refine q_cell7 (some 26) (.string c.key) 9 (.tmp 25) ⟨w.heap.size, 4, none⟩ _ rfl (by kernel_rfl) rfl (by kernel_rfl) (fun w' hC => (B5.out.fr hC id).cell' rfl) Try.underlying9 rfl ?_
                  refine q_call7 (some 27) (.bool true) 32 #[.agg (pzA P), .string c.key] rfl (by kernel_rfl) (fun w' hC => by kernel_rfl) (fun w' hC => ((phas_ok P c.key w' P5.out.low_ P5.out.high_ K5.out).mono (fun e w2 h => ⟨by rw [h.1, IN.out], hC.then_none h.2⟩))) ?_
                  refine q_val7 (some 28) (.bool false) rfl (by kernel_rfl) (fun w' hC => by kernel_rfl) ?_
                  refine q_val7 (some 29) (.bool false) rfl (by kernel_rfl) (fun w' hC => by kernel_rfl) ?_
                  refine q_val7 (some 30) (.bool false) rfl (by kernel_rfl) (fun w' hC => by kernel_rfl) ?_
                  refine q_val7 (some 31) (.pointer (some ⟨w2.heap.size, 3, none⟩)) rfl (by kernel_rfl) (fun w' hC => by kernel_rfl) ?_
                  refine q_cell7 (some 32) (.slice P.C P.nc P.x) 34 (.tmp 31) ⟨w2.heap.size, 3, none⟩ _ rfl (by kernel_rfl) rfl (by kernel_rfl) (fun w' hC => (BP.out.fr hC id).cell' rfl) Try.underlying34 rfl ?_
                  refine q_val7 (some 33) (.int .i64 (P.nc : Nat)) rfl (by kernel_rfl) (fun w' hC => by kernel_rfl) ?_
                  refine q_val7 (some 34) (.pointer (some ⟨w.heap.size, 5, none⟩)) rfl (by kernel_rfl) (fun w' hC => by kernel_rfl) ?_
                  refine q_val7 (some 35) (.pointer (some ⟨w.heap.size, 9, none⟩)) rfl (by kernel_rfl) (fun w' hC => by kernel_rfl) ?_
                  refine q_cell7 (some 36) (.int .i64 c.l.chain) 3 (.tmp 35) ⟨w.heap.size, 9, none⟩ _ rfl (by kernel_rfl) rfl (by kernel_rfl) (fun w' hC => (B5.out.fr hC id).cell' rfl) Try.underlying3 rfl ?_
                  refine q_bool7 (some 37) (decide (c.l.chain < ((P.nc : Nat) : Int))) false (C1.out) rfl (by kernel_rfl) (fun w' hC => by kernel_rfl) ?_
                  refine q_val7 (some 38) (.bool false) rfl (by kernel_rfl) (fun w' hC => by kernel_rfl) ?_
                  refine q_val7 (some 39) (.bool false) rfl (by kernel_rfl) (fun w' hC => by kernel_rfl) ?_
                  refine q_mid7 (some 40) (pzA P).toList 45 (.tmp 3) w2.heap.size 0 _ rfl (by kernel_rfl) rfl (by kernel_rfl) (fun w' hC => Blk.range7 (l := (pzA P).toList) (BP.out.fr hC id)) Try.underlying45 rfl (page_size) ?_
                  refine q_call7 (some 41) (.int .i64 (P.size : Nat)) 33 #[.agg (pzA P)] rfl (by kernel_rfl) (fun w' hC => by kernel_rfl) (fun w' hC => ((psize_ok P w' P5.out.rows (by have := P5.out.iv.ok.ents.1; exact this)).mono (fun e w2 h => ⟨h.1, hC.then_none h.2⟩))) ?_
                  refine q_val7 (some 42) (.pointer (some ⟨w.heap.size, 5, none⟩)) rfl (by kernel_rfl) (fun w' hC => by kernel_rfl) ?_
                  refine q_val7 (some 43) (.pointer (some ⟨w.heap.size, 8, none⟩)) rfl (by kernel_rfl) (fun w' hC => by kernel_rfl) ?_
                  refine q_cell7 (some 44) (.int .i64 c.l.rows) 3 (.tmp 43) ⟨w.heap.size, 8, none⟩ _ rfl (by kernel_rfl) rfl (by kernel_rfl) (fun w' hC => (B5.out.fr hC id).cell' rfl) Try.underlying3 rfl ?_
                  refine q_bool7 (some 45) (decide (c.l.rows < ((P.size : Nat) : Int))) false (C2.out) rfl (by kernel_rfl) (fun w' hC => by kernel_rfl) ?_
                  refine q_val7 (some 46) (.bool false) rfl (by kernel_rfl) (fun w' hC => by kernel_rfl) ?_
                  refine q_val7 (some 47) (.bool false) rfl (by kernel_rfl) (fun w' hC => by kernel_rfl) ?_
                  refine q_mid7 (some 48) (pzA P).toList 45 (.tmp 3) w2.heap.size 0 _ rfl (by kernel_rfl) rfl (by kernel_rfl) (fun w' hC => Blk.range7 (l := (pzA P).toList) (BP.out.fr hC id)) Try.underlying45 rfl (page_size) ?_
                  refine q_call7 (some 49) (.int .i64 (P.size : Nat)) 33 #[.agg (pzA P)] rfl (by kernel_rfl) (fun w' hC => by kernel_rfl) (fun w' hC => ((psize_ok P w' P5.out.rows (by have := P5.out.iv.ok.ents.1; exact this)).mono (fun e w2 h => ⟨h.1, hC.then_none h.2⟩))) ?_
                  refine q_bool7 (some 50) (((P.size : Nat) : Int) == 0) true (C3.out) rfl (by kernel_rfl) (fun w' hC => by kernel_rfl) ?_
                  refine q_val7 (some 51) (.bool true) rfl (by kernel_rfl) (fun w' hC => by kernel_rfl) ?_
                  refine q_done7 ?_
                  intro w6 hf6
                  have F6 := hid_ hf6
                  clear hf6
                  go_wp2
                  go_meet
                  case rel => exact ⟨true, rfl, (fun h => by cases h), F6.out⟩
                | false =>
                  have C3 := hid_ c3_
                  clear c3_
                  refine wp_region_q7 (fun w' => Fr none_ w5 w') (by kernel_rfl) (by kernel_rfl) (Fr.refl none_ w5).drew ?_
                  refine q_val7 (some 16) (.bool true) rfl (by kernel_rfl) (fun w' hC => by kernel_rfl) ?_
                  refine q_val7 (some 17) (.bool false) rfl (by kernel_rfl) (fun w' hC => by kernel_rfl) ?_
                  refine q_val7 (some 18) (.bool false) rfl (by kernel_rfl) (fun w' hC => by kernel_rfl) ?_
                  refine q_val7 (some 19) (.pointer (some ⟨w2.heap.size, 12, none⟩)) rfl (by kernel_rfl) (fun w' hC => by kernel_rfl) ?_
                  refine q_val7 (some 20) (.pointer (some ⟨w2.heap.size, 17, none⟩)) rfl (by kernel_rfl) (fun w' hC => by kernel_rfl) ?_
                  refine q_cell7 (some 21) (.bool false) 4 (.tmp 20) ⟨w2.heap.size, 17, none⟩ _ rfl (by kernel_rfl) rfl (by kernel_rfl) (fun w' hC => cellFr p17 hC) Try.underlying4 rfl ?_
                  refine q_val7 (some 22) (.bool false) rfl (by kernel_rfl) (fun w' hC => by kernel_rfl) ?_
                  refine q_val7 (some 23) (.bool false) rfl (by kernel_rfl) (fun w' hC => by kernel_rfl) ?_
                  refine q_mid7 (some 24) (pzA P).toList 45 (.tmp 3) w2.heap.size 0 _ rfl (by kernel_rfl) rfl (by kernel_rfl) (fun w' hC => Blk.range7 (l := (pzA P).toList) (BP.out.fr hC id)) Try.underlying45 rfl (page_size) ?_
                  refine q_val7 (some 25) (.pointer (some ⟨w.heap.size, 4, none⟩)) rfl (by kernel_rfl) (fun w' hC => by kernel_rfl) ?_
                  refine q_cell7 (some 26) (.string c.key) 9 (.tmp 25) ⟨w.heap.size, 4, none⟩ _ rfl (by kernel_rfl) rfl (by kernel_rfl) (fun w' hC => (B5.out.fr hC id).cell' rfl) Try.underlying9 rfl ?_
                  refine q_call7 (some 27) (.bool true) 32 #[.agg (pzA P), .string c.key] rfl (by kernel_rfl) (fun w' hC => by kernel_rfl) (fun w' hC => ((phas_ok P c.key w' P5.out.low_ P5.out.high_ K5.out).mono (fun e w2 h => ⟨by rw [h.1, IN.out], hC.then_none h.2⟩))) ?_
                  refine q_val7 (some 28) (.bool false) rfl (by kernel_rfl) (fun w' hC => by kernel_rfl) ?_
                  refine q_val7 (some 29) (.bool false) rfl (by kernel_rfl) (fun w' hC => by kernel_rfl) ?_
                  refine q_val7 (some 30) (.bool false) rfl (by kernel_rfl) (fun w' hC => by kernel_rfl) ?_
                  refine q_val7 (some 31) (.pointer (some ⟨w2.heap.size, 3, none⟩)) rfl (by kernel_rfl) (fun w' hC => by kernel_rfl) ?_
                  refine q_cell7 (some 32) (.slice P.C P.nc P.x) 34 (.tmp 31) ⟨w2.heap.size, 3, none⟩ _ rfl (by kernel_rfl) rfl (by kernel_rfl) (fun w' hC => (BP.out.fr hC id).cell' rfl) Try.underlying34 rfl ?_
                  refine q_val7 (some 33) (.int .i64 (P.nc : Nat)) rfl (by kernel_rfl) (fun w' hC => by kernel_rfl) ?_
                  refine q_val7 (some 34) (.pointer (some ⟨w.heap.size, 5, none⟩)) rfl (by kernel_rfl) (fun w' hC => by kernel_rfl) ?_
                  refine q_val7 (some 35) (.pointer (some ⟨w.heap.size, 9, none⟩)) rfl (by kernel_rfl) (fun w' hC => by kernel_rfl) ?_
                  refine q_cell7 (some 36) (.int .i64 c.l.chain) 3 (.tmp 35) ⟨w.heap.size, 9, none⟩ _ rfl (by kernel_rfl) rfl (by kernel_rfl) (fun w' hC => (B5.out.fr hC id).cell' rfl) Try.underlying3 rfl ?_
                  refine q_bool7 (some 37) (decide (c.l.chain < ((P.nc : Nat) : Int))) false (C1.out) rfl (by kernel_rfl) (fun w' hC => by kernel_rfl) ?_
                  refine q_val7 (some 38) (.bool false) rfl (by kernel_rfl) (fun w' hC => by kernel_rfl) ?_
                  refine q_val7 (some 39) (.bool false) rfl (by kernel_rfl) (fun w' hC => by kernel_rfl) ?_
                  refine q_mid7 (some 40) (pzA P).toList 45 (.tmp 3) w2.heap.size 0 _ rfl (by kernel_rfl) rfl (by kernel_rfl) (fun w' hC => Blk.range7 (l := (pzA P).toList) (BP.out.fr hC id)) Try.underlying45 rfl (page_size) ?_
                  refine q_call7 (some 41) (.int .i64 (P.size : Nat)) 33 #[.agg (pzA P)] rfl (by kernel_rfl) (fun w' hC => by kernel_rfl) (fun w' hC => ((psize_ok P w' P5.out.rows (by have := P5.out.iv.ok.ents.1; exact this)).mono (fun e w2 h => ⟨h.1, hC.then_none h.2⟩))) ?_
                  refine q_val7 (some 42) (.pointer (some ⟨w.heap.size, 5, none⟩)) rfl (by kernel_rfl) (fun w' hC => by kernel_rfl) ?_
                  refine q_val7 (some 43) (.pointer (some ⟨w.heap.size, 8, none⟩)) rfl (by kernel_rfl) (fun w' hC => by kernel_rfl) ?_
                  refine q_cell7 (some 44) (.int .i64 c.l.rows) 3 (.tmp 43) ⟨w.heap.size, 8, none⟩ _ rfl (by kernel_rfl) rfl (by kernel_rfl) (fun w' hC => (B5.out.fr hC id).cell' rfl) Try.underlying3 rfl ?_
                  refine q_bool7 (some 45) (decide (c.l.rows < ((P.size : Nat) : Int))) false (C2.out) rfl (by kernel_rfl) (fun w' hC => by kernel_rfl) ?_
                  refine q_val7 (some 46) (.bool false) rfl (by kernel_rfl) (fun w' hC => by kernel_rfl) ?_
                  refine q_val7 (some 47) (.bool false) rfl (by kernel_rfl) (fun w' hC => by kernel_rfl) ?_
                  refine q_mid7 (some 48) (pzA P).toList 45 (.tmp 3) w2.heap.size 0 _ rfl (by kernel_rfl) rfl (by kernel_rfl) (fun w' hC => Blk.range7 (l := (pzA P).toList) (BP.out.fr hC id)) Try.underlying45 rfl (page_size) ?_
                  refine q_call7 (some 49) (.int .i64 (P.size : Nat)) 33 #[.agg (pzA P)] rfl (by kernel_rfl) (fun w' hC => by kernel_rfl) (fun w' hC => ((psize_ok P w' P5.out.rows (by have := P5.out.iv.ok.ents.1; exact this)).mono (fun e w2 h => ⟨h.1, hC.then_none h.2⟩))) ?_
                  refine q_bool7 (some 50) (((P.size : Nat) : Int) == 0) false (C3.out) rfl (by kernel_rfl) (fun w' hC => by kernel_rfl) ?_
                  refine q_val7 (some 51) (.bool false) rfl (by kernel_rfl) (fun w' hC => by kernel_rfl) ?_
                  refine q_done7 ?_
                  intro w6 hf6
                  have F6 := hid_ hf6
                  clear hf6
                  go_wp2
                  go_meet
                  case rel => exact ⟨false, rfl, (fun _ => ⟨by first | trivial | rfl, P, HPE.out, P5.out, HE.out, IN.out, Int.not_lt.1 (of_decide_eq_false C1.out), Int.not_lt.1 (of_decide_eq_false C2.out), by have := C3.out; simp at this; omega⟩), F6.out⟩
    case rest =>
      obtain ⟨b, rfl, hb, hf⟩ := hcut
      have HB := hid_ hb
      clear hb
      obtain ⟨w6, hnw⟩ : ∃ z, z = wc := ⟨_, rfl⟩
      rw [← hnw] at hf ⊢
      clear hnw
      cases b with
      | true =>
        go_wp2_with fail
        refine (awake11_ok w6).mono ?_
        rintro e w7 ⟨rfl, hf7⟩
        go_wp2
        go_ret
        exact ⟨rfl, (F5.out.then_none hf).then_none hf7⟩
      | false =>
        obtain ⟨hok, P, hpe, hpo, h1, h2, h3, h4, h5⟩ := HB.out rfl
        subst hok
        have BP := hid_ BP.out
        rw [hpe] at BP
        have HD := hid_ (dec_calm (P := P) (a := a) (key := c.key) (l := c.l) h1 h2 h3 h4 h5)
        have P6 := hid_ (hpo.keep hf)
        have V6 := hid_ (V5.out.keep hf)
        have K6 := hid_ (H.out.key)
        have BP6 := hid_ (BP.out.fr hf id)
        have BA6 := hid_ (BA.out.fr hf id)
        have B6 := hid_ (B5.out.fr hf id)
        have F6 := hid_ (F5.out.then_none hf)
        have HPE := hid_ hpe
        clear h1 h2 h3 h4 h5 hpo hf hpe HB
        go_upto_region 6 with fail
        refine wp_region_q7 (fun w' => Fr none_ w6 w') (by kernel_rfl) (by kernel_rfl) (Fr.refl none_ w6).drew ?_
        refine q_mid7 (some 53) (pzA P).toList 45 (.tmp 3) w2.heap.size 0 _ rfl (by kernel_rfl) rfl (by kernel_rfl) (fun w' hC => Blk.range7 (l := (pzA P).toList) (BP6.out.fr hC id)) Try.underlying45 rfl (page_size) ?_
        refine q_mid7 (some 54) (azA a).toList 77 (.tmp 4) (w2.heap.size + 1) 0 _ rfl (by kernel_rfl) rfl (by kernel_rfl) (fun w' hC => Blk.range7 (l := (azA a).toList) (BA6.out.fr hC id)) Try.underlying77 rfl (above_size7) ?_
        refine q_val7 (some 55) (.pointer (some ⟨w.heap.size, 4, none⟩)) rfl (by kernel_rfl) (fun w' hC => by kernel_rfl) ?_
        refine q_cell7 (some 56) (.string c.key) 9 (.tmp 55) ⟨w.heap.size, 4, none⟩ _ rfl (by kernel_rfl) rfl (by kernel_rfl) (fun w' hC => (B6.out.fr hC id).cell' rfl) Try.underlying9 rfl ?_
        refine q_val7 (some 57) (.pointer (some ⟨w.heap.size, 5, none⟩)) rfl (by kernel_rfl) (fun w' hC => by kernel_rfl) ?_
        refine q_mid7 (some 58) (l6A c.l).toList 28 (.tmp 57) w.heap.size 5 _ rfl (by kernel_rfl) rfl (by kernel_rfl) (fun w' hC => lim_range c (B6.out.fr hC id)) Try.underlying28 rfl (lim_size7) ?_
        refine q_call7 (some 59) (.agg (pnA (decM P a c.key c.l false))) 31 #[.agg (pzA P), .agg (azA a), .string c.key, .agg (l6A c.l), .bool true] rfl (by kernel_rfl) (fun w' hC => by kernel_rfl) (fun w' hC => ((decide_ok P a c.key c.l true w' (P6.out.keep hC) (V6.out.keep hC) K6.out (fun _ w2 hp hv => upkeep_ok P a c.l w2 hp hv)).mono (fun e w2 h => ⟨by rw [h.1, HD.out], hC.then_none h.2⟩))) ?_
        refine q_mid7 (some 60) (pzA P).toList 45 (.tmp 3) w2.heap.size 0 _ rfl (by kernel_rfl) rfl (by kernel_rfl) (fun w' hC => Blk.range7 (l := (pzA P).toList) (BP6.out.fr hC id)) Try.underlying45 rfl (page_size) ?_
        refine q_mid7 (some 61) (azA a).toList 77 (.tmp 4) (w2.heap.size + 1) 0 _ rfl (by kernel_rfl) rfl (by kernel_rfl) (fun w' hC => Blk.range7 (l := (azA a).toList) (BA6.out.fr hC id)) Try.underlying77 rfl (above_size7) ?_
        refine q_val7 (some 62) (.pointer (some ⟨w.heap.size, 4, none⟩)) rfl (by kernel_rfl) (fun w' hC => by kernel_rfl) ?_
        refine q_cell7 (some 63) (.string c.key) 9 (.tmp 62) ⟨w.heap.size, 4, none⟩ _ rfl (by kernel_rfl) rfl (by kernel_rfl) (fun w' hC => (B6.out.fr hC id).cell' rfl) Try.underlying9 rfl ?_
        refine q_val7 (some 64) (.pointer (some ⟨w.heap.size, 5, none⟩)) rfl (by kernel_rfl) (fun w' hC => by kernel_rfl) ?_
        refine q_mid7 (some 65) (l6A c.l).toList 28 (.tmp 64) w.heap.size 5 _ rfl (by kernel_rfl) rfl (by kernel_rfl) (fun w' hC => lim_range c (B6.out.fr hC id)) Try.underlying28 rfl (lim_size7) ?_
        refine q_call7 (some 66) (.agg (pnA (decM P a c.key c.l false))) 31 #[.agg (pzA P), .agg (azA a), .string c.key, .agg (l6A c.l), .bool false] rfl (by kernel_rfl) (fun w' hC => by kernel_rfl) (fun w' hC => ((decide_ok P a c.key c.l false w' (P6.out.keep hC) (V6.out.keep hC) K6.out (fun _ w2 hp hv => upkeep_ok P a c.l w2 hp hv)).mono (fun e w2 h => ⟨by rw [h.1], hC.then_none h.2⟩))) ?_
        refine q_op7 (some 67) (.bool true) (do eqGuard .eql 81 (.tmp 59) (.tmp 66) (.agg (pnA (decM P a c.key c.l false))) (.agg (pnA (decM P a c.key c.l false))); binOp .eql 81 (.agg (pnA (decM P a c.key c.l false))) (.agg (pnA (decM P a c.key c.l false)))) rfl (by kernel_rfl) (by kernel_rfl) (fun w' hC => eql_pg _ _ _ w' (by kernel_rfl)) ?_
        refine q_val7 (some 68) (.bool true) rfl (by kernel_rfl) (fun w' hC => by kernel_rfl) ?_
        refine q_call7 (some 69) (.bool true) 28 #[] rfl (by kernel_rfl) (fun w' hC => by kernel_rfl) (fun w' hC => ((awake11_ok w').mono (fun e w2 h => ⟨h.1, hC.then_none h.2⟩))) ?_
        refine q_val7 (some 70) (.bool true) rfl (by kernel_rfl) (fun w' hC => by kernel_rfl) ?_
        refine q_val7 (some 2) (.bool true) rfl (by kernel_rfl) (fun w' hC => by kernel_rfl) ?_
        refine q_done7 ?_
        intro w7 hf7
        replace F6 := hid_ (F6.out.then_none hf7)
        clear hf7
        go_wp2
        go_ret
        exact ⟨rfl, F6.out⟩
end Go.Proofs.Ytpjbncbmdfmlpaa

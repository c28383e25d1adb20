/- plan.Decide by contract. Written by gen_dcd7.py. -/
import Derived.Test.YtpjbncbmdfmlpaaUpk7
namespace Go.Proofs.Ytpjbncbmdfmlpaa
open Go.RowKit Go.BigFrame
set_option maxRecDepth 100000
set_option linter.unusedVariables false

noncomputable def decR (P : Pz) (key : ByteArray) : Pn :=
  if P.leaf = true then pnK 10 else match childM P.iv key with
  | some p => ⟨1, p.2, nilS, 0, 0, 0, nilS⟩
  | none => pnK 3
noncomputable def decM (P : Pz) (a : Az) (key : ByteArray) (l : L6) (writes : Bool) : Pn :=
  if (P.leaf && P.lv.gone) = true then pnK 3
  else if (writes && (!P.leaf && P.iv.held)) = true then ⟨5, 0, nilS, 0, P.iv.hp, P.iv.hl, P.iv.hk⟩
  else if inS P.low P.high P.unb key = false then beyM P a key writes
  else match (if writes = true then upkM P a l else none) with
  | some x => x
  | none => decR P key
theorem dec_a {P : Pz} {a : Az} {key : ByteArray} {l : L6} {writes : Bool} (h : (P.leaf && P.lv.gone) = true) : decM P a key l writes = pnK 3 := if_pos h
theorem dec_b {P : Pz} {a : Az} {key : ByteArray} {l : L6} {writes : Bool} (h : (P.leaf && P.lv.gone) = false) (h2 : (writes && (!P.leaf && P.iv.held)) = true) : decM P a key l writes = ⟨5, 0, nilS, 0, P.iv.hp, P.iv.hl, P.iv.hk⟩ := by
  unfold decM; rw [if_neg (by rw [h]; decide), if_pos h2]
theorem dec_c {P : Pz} {a : Az} {key : ByteArray} {l : L6} {writes : Bool} (h : (P.leaf && P.lv.gone) = false) (h2 : (writes && (!P.leaf && P.iv.held)) = false) (h3 : inS P.low P.high P.unb key = false) : decM P a key l writes = beyM P a key writes := by
  unfold decM; rw [if_neg (by rw [h]; decide), if_neg (by rw [h2]; decide), if_pos h3]
theorem dec_d {P : Pz} {a : Az} {key : ByteArray} {l : L6} {x : Pn} (h : (P.leaf && P.lv.gone) = false) (h2 : (true && (!P.leaf && P.iv.held)) = false) (h3 : inS P.low P.high P.unb key = true) (h4 : upkM P a l = some x) : decM P a key l true = x := by
  unfold decM; rw [if_neg (by rw [h]; decide), if_neg (by rw [h2]; decide), if_neg (by rw [h3]; decide), if_pos rfl, h4]
theorem dec_e {P : Pz} {a : Az} {key : ByteArray} {l : L6} {writes : Bool} (h : (P.leaf && P.lv.gone) = false) (h2 : (writes && (!P.leaf && P.iv.held)) = false) (h3 : inS P.low P.high P.unb key = true) (h4 : writes = true → upkM P a l = none) : decM P a key l writes = decR P key := by
  unfold decM; rw [if_neg (by rw [h]; decide), if_neg (by rw [h2]; decide), if_neg (by rw [h3]; decide)]
  cases writes with
  | false => rfl
  | true => rw [if_pos rfl, h4 rfl]
theorem pz_range {w : World} {g : Nat} {t : TypeId} {P : Pz} (h : Blk w g t (pzA P)) : w.rangeAt g 12 (vwA P.iv (.slice P.B P.iv.ents.length P.d)).toList := fun j v hv => by
  rw [h.cell]
  match j, hv with
  | 0, hv => exact hv
  | 1, hv => exact hv
  | 2, hv => exact hv
  | 3, hv => exact hv
  | 4, hv => exact hv
  | 5, hv => exact hv
  | 6, hv => exact hv
  | 7, hv => exact hv
  | 8, hv => exact hv
  | k + 9, hv => simp at hv
set_option maxHeartbeats 8000000 in
theorem decide_ok (P : Pz) (a : Az) (key : ByteArray) (l : L6) (writes : Bool) (w : World) (h : PzOk w P) (ha : VwIn w a.V a.B a.d) (hk : SzOk key) (hbig : writes = true → ∀ w', PzOk w' P → VwIn w' a.V a.B a.d → Calls Try.prog 68 #[.agg (pzA P), .agg (azA a), .agg (l6A l)] w' (UpkPost P a l w')) : Calls Try.prog 31 #[.agg (pzA P), .agg (azA a), .string key, .agg (l6A l), .bool writes] w (RetQ (.agg (pnA (decM P a key l writes))) w) := by
  obtain ⟨w0, hw0⟩ : ∃ z, z = (((w.alloc (.cells (pzA P) 45)).alloc (.cells (azA a) 77)).alloc (.cells (l6A l) 28)).alloc (.cells pnZ 81) := ⟨_, rfl⟩
  have f0 : Fr none_ w w0 := by rw [hw0]; exact ((((Fr.refl none_ w).alloc _).alloc _).alloc _).alloc _
  have B0 : Hid (Blk w0 w.heap.size 45 (pzA P)) := hid_ (by rw [hw0]; exact (((Blk.new w _ _).alloc _).alloc _).alloc _)
  have B1 : Hid (Blk w0 (w.heap.size + 1) 77 (azA a)) := hid_ (by rw [hw0]; exact ((Blk.new7 _ _ (by simp)).alloc _).alloc _)
  have B2 : Hid (Blk w0 (w.heap.size + 1 + 1) 28 (l6A l)) := hid_ (by rw [hw0]; exact (Blk.new7 _ _ (by simp)).alloc _)
  have BO : Hid (Blk w0 (w.heap.size + 1 + 1 + 1) 81 pnZ) := hid_ (by rw [hw0]; exact Blk.new7 _ _ (by simp))
  have F0 := hid_ f0
  have HP := hid_ (h.keep f0)
  have HA := hid_ (ha.keep f0)
  have HK := hid_ hk
  have HBIG := hid_ hbig
  clear f0 h ha hk hbig
  go_enter Try.func31, Try.ntmps31
  go_upto_region 1 with fail
  change Code.wp _ _ _ _ ((((w.alloc (.cells (pzA P) 45)).alloc (.cells (azA a) 77)).alloc (.cells (l6A l) 28)).alloc (.cells pnZ 81))
  rw [← hw0]
  clear hw0
  have hso := BO.out.lt
  go_cut [15] (fun u wq => u = .bool (P.leaf && P.lv.gone) ∧ wq = w0)
  case first =>
    have p5 : w0.cell? ⟨w.heap.size, 5, none⟩ = some (.bool P.leaf) := B0.out.cell' rfl
    have p11 : w0.cell? ⟨w.heap.size, 11, none⟩ = some (.bool P.lv.gone) := B0.out.cell' rfl
    cases hl : P.leaf with
    | false =>
      rw [hl] at p5
      have HL := hid_ hl
      clear hl
      go_wp2_with fail
      go_meet
      case rel => exact ⟨by rw [HL.out]; rfl, rfl⟩
    | true =>
      rw [hl] at p5
      have HL := hid_ hl
      clear hl
      go_wp2_with fail
      go_meet
      case rel => exact ⟨by rw [HL.out]; rfl, rfl⟩
  case rest =>
    obtain ⟨rfl, rfl⟩ := hcut
    cases hg : (P.leaf && P.lv.gone) with
    | true =>
      have HG := hid_ hg
      clear hg
      go_wp2_with (refine wpList_store_mid rfl 81 (.tmp 10) (.tmp 42) rfl (w.heap.size + 1 + 1 + 1) 0 (pnA (pnK 3)) rfl rfl (BO.out.there7 rfl) plan_size (by simp [Value.oneCell']) ?_; have ov := BO.out.over7 (pnA (pnK 3)).toList rfl; obtain ⟨w9, hw9⟩ : ∃ z, z = wc.setCells (w.heap.size + 1 + 1 + 1) 0 (pnA (pnK 3)).toList := ⟨_, rfl⟩; rw [← hw9] at ov; change wpList _ _ _ _ _ (wc.setCells (w.heap.size + 1 + 1 + 1) 0 (pnA (pnK 3)).toList); rw [← hw9]; have OV := hid_ ov; clear hw9 ov)
      refine bodyPost_ret (results_cell7 _ _ rfl (w.heap.size + 1 + 1 + 1) 0 (pnA (pnK 3)).toList _ rfl (Blk.range7 (l := (pnA (pnK 3)).toList) OV.out.1) Try.underlying81 rfl plan_size) rfl ⟨?_, F0.out.then_only OV.out.2 (.inr (by omega))⟩
      show Ending.returned (.agg (pnA (pnK 3))) = _
      rw [dec_a HG.out]
    | false =>
      have HG := hid_ hg
      clear hg
      go_upto_region 2 with fail
      go_cut [23] (fun u wq => u = .bool (writes && (!P.leaf && P.iv.held)) ∧ wq = wc)
      case first =>
        have p5 : wc.cell? ⟨w.heap.size, 5, none⟩ = some (.bool P.leaf) := B0.out.cell' rfl
        have p17 : wc.cell? ⟨w.heap.size, 17, none⟩ = some (.bool P.iv.held) := B0.out.cell' rfl
        cases writes with
        | false =>
          go_wp2_with fail
          go_meet
          case rel => exact ⟨by simp, rfl⟩
        | true =>
          cases hl : P.leaf with
          | true =>
            rw [hl] at p5
            have HL := hid_ hl
            clear hl
            go_wp2_with fail
            go_meet
            case rel => exact ⟨by rw [HL.out]; rfl, rfl⟩
          | false =>
            rw [hl] at p5
            have HL := hid_ hl
            clear hl
            go_wp2_with fail
            go_meet
            case rel => exact ⟨by rw [HL.out]; rfl, rfl⟩
      case rest =>
        obtain ⟨rfl, hwx⟩ := hcut
        subst hwx
        cases hh : (writes && (!P.leaf && P.iv.held)) with
        | true =>
          have HH := hid_ hh
          clear hh
          have p18 : wc.cell? ⟨w.heap.size, 18, none⟩ = some (.int .i64 P.iv.hp) := B0.out.cell' rfl
          have p19 : wc.cell? ⟨w.heap.size, 19, none⟩ = some (.int .i64 P.iv.hl) := B0.out.cell' rfl
          have p20 : wc.cell? ⟨w.heap.size, 20, none⟩ = some (.string P.iv.hk) := B0.out.cell' rfl
          go_wp2_with (refine wpList_store_mid rfl 81 (.tmp 10) (.tmp 46) rfl (w.heap.size + 1 + 1 + 1) 0 (pnA (⟨5, 0, nilS, 0, P.iv.hp, P.iv.hl, P.iv.hk⟩ : Pn)) rfl rfl (BO.out.there7 rfl) plan_size (by simp [Value.oneCell']) ?_; have ov := BO.out.over7 (pnA (⟨5, 0, nilS, 0, P.iv.hp, P.iv.hl, P.iv.hk⟩ : Pn)).toList rfl; obtain ⟨w9, hw9⟩ : ∃ z, z = wc.setCells (w.heap.size + 1 + 1 + 1) 0 (pnA (⟨5, 0, nilS, 0, P.iv.hp, P.iv.hl, P.iv.hk⟩ : Pn)).toList := ⟨_, rfl⟩; rw [← hw9] at ov; change wpList _ _ _ _ _ (wc.setCells (w.heap.size + 1 + 1 + 1) 0 (pnA (⟨5, 0, nilS, 0, P.iv.hp, P.iv.hl, P.iv.hk⟩ : Pn)).toList); rw [← hw9]; have OV := hid_ ov; clear hw9 ov)
          refine bodyPost_ret (results_cell7 _ _ rfl (w.heap.size + 1 + 1 + 1) 0 (pnA (⟨5, 0, nilS, 0, P.iv.hp, P.iv.hl, P.iv.hk⟩ : Pn)).toList _ rfl (Blk.range7 (l := (pnA (⟨5, 0, nilS, 0, P.iv.hp, P.iv.hl, P.iv.hk⟩ : Pn)).toList) OV.out.1) Try.underlying81 rfl plan_size) rfl ⟨?_, F0.out.then_only OV.out.2 (.inr (by omega))⟩
          show Ending.returned (.agg (pnA (⟨5, 0, nilS, 0, P.iv.hp, P.iv.hl, P.iv.hk⟩ : Pn))) = _
          rw [dec_b HG.out HH.out]
        | false =>
          have HH := hid_ hh
          clear hh
          go_wp2_with (refine wpList_load_mid rfl 45 (.tmp 5) rfl (w.heap.size) 0 rfl (pzA P).toList _ (Blk.range7 (l := (pzA P).toList) B0.out) Try.underlying45 rfl page_size ?_)
          refine (phas_ok P key wc HP.out.low_ HP.out.high_ HK.out).mono ?_
          rintro e w1 ⟨rfl, hf⟩
          replace F0 := hid_ (F0.out.then_none hf)
          replace B0 := hid_ (B0.out.fr hf id)
          replace B1 := hid_ (B1.out.fr hf id)
          replace B2 := hid_ (B2.out.fr hf id)
          replace BO := hid_ (BO.out.fr hf id)
          replace HA := hid_ (HA.out.keep hf)
          replace HP := hid_ (HP.out.keep hf)
          clear hf
          have hso1 := BO.out.lt
          cases hin : inS P.low P.high P.unb key with
          | false =>
            have HI := hid_ hin
            clear hin
            go_wp2_with (first | (refine wpList_load_mid rfl 45 (.tmp 5) rfl (w.heap.size) 0 rfl (pzA P).toList _ (Blk.range7 (l := (pzA P).toList) B0.out) Try.underlying45 rfl page_size ?_) | (refine wpList_load_mid rfl 77 (.tmp 6) rfl (w.heap.size + 1) 0 rfl (azA a).toList _ (Blk.range7 (l := (azA a).toList) B1.out) Try.underlying77 rfl above_size7 ?_))
            refine (beyond_ok P a key writes w1 HP.out HA.out HK.out).mono ?_
            rintro e w2 ⟨rfl, hf⟩
            replace F0 := hid_ (F0.out.then_none hf)
            replace BO := hid_ (BO.out.fr hf id)
            clear hf
            have hso2 := BO.out.lt
            go_wp2_with (refine wpList_store_mid rfl 81 (.tmp 10) (.tmp 51) rfl (w.heap.size + 1 + 1 + 1) 0 (pnA (beyM P a key writes)) rfl rfl (BO.out.there7 rfl) plan_size (by simp [Value.oneCell']) ?_; have ov := BO.out.over7 (pnA (beyM P a key writes)).toList rfl; obtain ⟨w9, hw9⟩ : ∃ z, z = w2.setCells (w.heap.size + 1 + 1 + 1) 0 (pnA (beyM P a key writes)).toList := ⟨_, rfl⟩; rw [← hw9] at ov; change wpList _ _ _ _ _ (w2.setCells (w.heap.size + 1 + 1 + 1) 0 (pnA (beyM P a key writes)).toList); rw [← hw9]; have OV := hid_ ov; clear hw9 ov)
            refine bodyPost_ret (results_cell7 _ _ rfl (w.heap.size + 1 + 1 + 1) 0 (pnA (beyM P a key writes)).toList _ rfl (Blk.range7 (l := (pnA (beyM P a key writes)).toList) OV.out.1) Try.underlying81 rfl plan_size) rfl ⟨?_, F0.out.then_only OV.out.2 (.inr (by omega))⟩
            show Ending.returned (.agg (pnA (beyM P a key writes))) = _
            rw [dec_c HG.out HH.out HI.out]
          | true =>
            have HI := hid_ hin
            clear hin
            cases writes with
            | true =>
              go_wp2_with (first | (refine wpList_load_mid rfl 45 (.tmp 5) rfl (w.heap.size) 0 rfl (pzA P).toList _ (Blk.range7 (l := (pzA P).toList) B0.out) Try.underlying45 rfl page_size ?_) | (refine wpList_load_mid rfl 77 (.tmp 6) rfl (w.heap.size + 1) 0 rfl (azA a).toList _ (Blk.range7 (l := (azA a).toList) B1.out) Try.underlying77 rfl above_size7 ?_) | (refine wpList_load_mid rfl 28 (.tmp 8) rfl (w.heap.size + 1 + 1) 0 rfl (l6A l).toList _ (Blk.range7 (l := (l6A l).toList) B2.out) Try.underlying28 rfl lim_size7 ?_))
              refine (HBIG.out (by simp) w1 HP.out HA.out).mono ?_
              rintro e w2 ⟨hu, hf⟩
              replace F0 := hid_ (F0.out.then_none hf)
              replace B0 := hid_ (B0.out.fr hf id)
              replace BO := hid_ (BO.out.fr hf id)
              replace HP := hid_ (HP.out.keep hf)
              clear hf
              have hso2 := BO.out.lt
              rcases hu with ⟨p, hu, rfl⟩ | ⟨hu, p, rfl⟩
              · have HU := hid_ hu
                clear hu
                go_upto_region 9 with (refine wpList_store_mid rfl 81 (.tmp 11) (.tmp 57) rfl w2.heap.size 0 (pnA p) rfl rfl (new_there w2 _ pnZ) plan_size (by simp [Value.oneCell']) ?_; obtain ⟨w3, hw3⟩ : ∃ z, z = (w2.alloc (.cells pnZ 81)).setCells w2.heap.size 0 (pnA p).toList := ⟨_, rfl⟩; change wpList _ _ _ _ _ ((w2.alloc (.cells pnZ 81)).setCells w2.heap.size 0 (pnA p).toList); rw [← hw3]; have P3 : Hid (Blk w3 w2.heap.size 81 (pnA p) ∧ Fr none_ w2 w3) := hid_ (by rw [hw3]; exact new_copy w2 _ pnZ (pnA p).toList rfl); clear hw3)
                replace F0 := hid_ (F0.out.then_none P3.out.2)
                replace B0 := hid_ (B0.out.fr P3.out.2 id)
                replace BO := hid_ (BO.out.fr P3.out.2 id)
                replace HP := hid_ (HP.out.keep P3.out.2)
                have hso3 := BO.out.lt
                go_wp2_with (first | (refine wpList_load_mid rfl 81 (.tmp 11) rfl w2.heap.size 0 rfl (pnA p).toList _ (Blk.range7 (l := (pnA p).toList) P3.out.1) Try.underlying81 rfl plan_size ?_) | (refine wpList_store_mid rfl 81 (.tmp 10) (.tmp 60) rfl (w.heap.size + 1 + 1 + 1) 0 (pnA p) rfl rfl (BO.out.there7 rfl) plan_size (by simp [Value.oneCell']) ?_; have ov := BO.out.over7 (pnA p).toList rfl; obtain ⟨w9, hw9⟩ : ∃ z, z = w3.setCells (w.heap.size + 1 + 1 + 1) 0 (pnA p).toList := ⟨_, rfl⟩; rw [← hw9] at ov; change wpList _ _ _ _ _ (w3.setCells (w.heap.size + 1 + 1 + 1) 0 (pnA p).toList); rw [← hw9]; have OV := hid_ ov; clear hw9 ov))
                refine bodyPost_ret (results_cell7 _ _ rfl (w.heap.size + 1 + 1 + 1) 0 (pnA p).toList _ rfl (Blk.range7 (l := (pnA p).toList) OV.out.1) Try.underlying81 rfl plan_size) rfl ⟨?_, F0.out.then_only OV.out.2 (.inr (by omega))⟩
                show Ending.returned (.agg (pnA p)) = _
                rw [dec_d HG.out HH.out HI.out HU.out]
              · have HU := hid_ hu
                clear hu
                go_upto_region 9 with (refine wpList_store_mid rfl 81 (.tmp 11) (.tmp 57) rfl w2.heap.size 0 (pnA p) rfl rfl (new_there w2 _ pnZ) plan_size (by simp [Value.oneCell']) ?_; obtain ⟨w3, hw3⟩ : ∃ z, z = (w2.alloc (.cells pnZ 81)).setCells w2.heap.size 0 (pnA p).toList := ⟨_, rfl⟩; change wpList _ _ _ _ _ ((w2.alloc (.cells pnZ 81)).setCells w2.heap.size 0 (pnA p).toList); rw [← hw3]; have P3 : Hid (Blk w3 w2.heap.size 81 (pnA p) ∧ Fr none_ w2 w3) := hid_ (by rw [hw3]; exact new_copy w2 _ pnZ (pnA p).toList rfl); clear hw3)
                replace F0 := hid_ (F0.out.then_none P3.out.2)
                replace B0 := hid_ (B0.out.fr P3.out.2 id)
                replace BO := hid_ (BO.out.fr P3.out.2 id)
                replace HP := hid_ (HP.out.keep P3.out.2)
                have hso3 := BO.out.lt
                clear P3
                have HE : Hid (decM P a key l true = decR P key) := hid_ (dec_e HG.out HH.out HI.out (fun _ => HU.out))
                obtain ⟨wr, hwr⟩ : ∃ z, z = w3 := ⟨_, rfl⟩
                rw [← hwr] at F0 B0 BO HP hso3 ⊢
                clear hwr
                have p5 : wr.cell? ⟨w.heap.size, 5, none⟩ = some (.bool P.leaf) := B0.out.cell' rfl
                cases hl : P.leaf with
                | true =>
                  rw [hl] at p5
                  have HL := hid_ hl
                  clear hl
                  go_wp2_with (refine wpList_store_mid rfl 81 (.tmp 10) (.tmp 63) rfl (w.heap.size + 1 + 1 + 1) 0 (pnA (pnK 10)) rfl rfl (BO.out.there7 rfl) plan_size (by simp [Value.oneCell']) ?_; have ov := BO.out.over7 (pnA (pnK 10)).toList rfl; obtain ⟨w9, hw9⟩ : ∃ z, z = wr.setCells (w.heap.size + 1 + 1 + 1) 0 (pnA (pnK 10)).toList := ⟨_, rfl⟩; rw [← hw9] at ov; change wpList _ _ _ _ _ (wr.setCells (w.heap.size + 1 + 1 + 1) 0 (pnA (pnK 10)).toList); rw [← hw9]; have OV := hid_ ov; clear hw9 ov)
                  refine bodyPost_ret (results_cell7 _ _ rfl (w.heap.size + 1 + 1 + 1) 0 (pnA (pnK 10)).toList _ rfl (Blk.range7 (l := (pnA (pnK 10)).toList) OV.out.1) Try.underlying81 rfl plan_size) rfl ⟨?_, F0.out.then_only OV.out.2 (.inr (by omega))⟩
                  show Ending.returned (.agg (pnA (pnK 10))) = _
                  rw [HE.out, show decR P key = pnK 10 from if_pos HL.out]
                | false =>
                  rw [hl] at p5
                  have HL := hid_ hl
                  clear hl
                  go_wp2_with (refine wpList_load_mid rfl 43 (.tmp 65) rfl w.heap.size 12 rfl (vwA P.iv (.slice P.B P.iv.ents.length P.d)).toList _ (pz_range B0.out) Try.underlying43 rfl view_size7 ?_)
                  refine (child_ok P.iv P.B P.d key wr HP.out.iv HK.out).mono ?_
                  rintro e w5 ⟨hc, hf⟩
                  replace F0 := hid_ (F0.out.then_none hf)
                  replace BO := hid_ (BO.out.fr hf id)
                  clear hf p5
                  have hso5 := BO.out.lt
                  rcases hc with ⟨p, hc, rfl⟩ | ⟨hc, rfl⟩
                  · have HC := hid_ hc
                    clear hc
                    go_upto_region 14 with fail
                    obtain ⟨w6, hw6⟩ : ∃ z, z = w5.alloc (.cells #[.string p.1, .int .i64 p.2] 64) := ⟨_, rfl⟩
                    have f6 : Fr none_ w5 w6 := by rw [hw6]; exact (Fr.refl none_ w5).alloc _
                    have B6 : Hid (Blk w6 w5.heap.size 64 #[.string p.1, .int .i64 p.2]) := hid_ (by rw [hw6]; exact Blk.new w5 _ _)
                    change Code.wp _ _ _ _ (w5.alloc (.cells #[.string p.1, .int .i64 p.2] 64))
                    rw [← hw6]
                    clear hw6
                    replace F0 := hid_ (F0.out.then_none f6)
                    replace BO := hid_ (BO.out.fr f6 id)
                    clear f6
                    have hso6 := BO.out.lt
                    have e1 : w6.cell? ⟨w5.heap.size, 1, none⟩ = some (.int .i64 p.2) := B6.out.cell' rfl
                    go_wp2_with (refine wpList_store_mid rfl 81 (.tmp 10) (.tmp 76) rfl (w.heap.size + 1 + 1 + 1) 0 (pnA (⟨1, p.2, nilS, 0, 0, 0, nilS⟩ : Pn)) rfl rfl (BO.out.there7 rfl) plan_size (by simp [Value.oneCell']) ?_; have ov := BO.out.over7 (pnA (⟨1, p.2, nilS, 0, 0, 0, nilS⟩ : Pn)).toList rfl; obtain ⟨w9, hw9⟩ : ∃ z, z = w6.setCells (w.heap.size + 1 + 1 + 1) 0 (pnA (⟨1, p.2, nilS, 0, 0, 0, nilS⟩ : Pn)).toList := ⟨_, rfl⟩; rw [← hw9] at ov; change wpList _ _ _ _ _ (w6.setCells (w.heap.size + 1 + 1 + 1) 0 (pnA (⟨1, p.2, nilS, 0, 0, 0, nilS⟩ : Pn)).toList); rw [← hw9]; have OV := hid_ ov; clear hw9 ov)
                    refine bodyPost_ret (results_cell7 _ _ rfl (w.heap.size + 1 + 1 + 1) 0 (pnA (⟨1, p.2, nilS, 0, 0, 0, nilS⟩ : Pn)).toList _ rfl (Blk.range7 (l := (pnA (⟨1, p.2, nilS, 0, 0, 0, nilS⟩ : Pn)).toList) OV.out.1) Try.underlying81 rfl plan_size) rfl ⟨?_, F0.out.then_only OV.out.2 (.inr (by omega))⟩
                    show Ending.returned (.agg (pnA (⟨1, p.2, nilS, 0, 0, 0, nilS⟩ : Pn))) = _
                    rw [HE.out, show decR P key = _ by unfold decR; rw [if_neg (by rw [HL.out]; decide), HC.out]]
                  · have HC := hid_ hc
                    clear hc
                    go_upto_region 14 with fail
                    obtain ⟨w6, hw6⟩ : ∃ z, z = w5.alloc (.cells #[.string nilS, .int .i64 0] 64) := ⟨_, rfl⟩
                    have f6 : Fr none_ w5 w6 := by rw [hw6]; exact (Fr.refl none_ w5).alloc _
                    have B6 : Hid (Blk w6 w5.heap.size 64 #[.string nilS, .int .i64 0]) := hid_ (by rw [hw6]; exact Blk.new w5 _ _)
                    change Code.wp _ _ _ _ (w5.alloc (.cells #[.string nilS, .int .i64 0] 64))
                    rw [← hw6]
                    clear hw6
                    replace F0 := hid_ (F0.out.then_none f6)
                    replace BO := hid_ (BO.out.fr f6 id)
                    clear f6
                    have hso6 := BO.out.lt
                    go_wp2_with (refine wpList_store_mid rfl 81 (.tmp 10) (.tmp 73) rfl (w.heap.size + 1 + 1 + 1) 0 (pnA (pnK 3)) rfl rfl (BO.out.there7 rfl) plan_size (by simp [Value.oneCell']) ?_; have ov := BO.out.over7 (pnA (pnK 3)).toList rfl; obtain ⟨w9, hw9⟩ : ∃ z, z = w6.setCells (w.heap.size + 1 + 1 + 1) 0 (pnA (pnK 3)).toList := ⟨_, rfl⟩; rw [← hw9] at ov; change wpList _ _ _ _ _ (w6.setCells (w.heap.size + 1 + 1 + 1) 0 (pnA (pnK 3)).toList); rw [← hw9]; have OV := hid_ ov; clear hw9 ov)
                    refine bodyPost_ret (results_cell7 _ _ rfl (w.heap.size + 1 + 1 + 1) 0 (pnA (pnK 3)).toList _ rfl (Blk.range7 (l := (pnA (pnK 3)).toList) OV.out.1) Try.underlying81 rfl plan_size) rfl ⟨?_, F0.out.then_only OV.out.2 (.inr (by omega))⟩
                    show Ending.returned (.agg (pnA (pnK 3))) = _
                    rw [HE.out, show decR P key = _ by unfold decR; rw [if_neg (by rw [HL.out]; decide), HC.out]]
            | false =>
              have HE : Hid (decM P a key l false = decR P key) := hid_ (dec_e HG.out HH.out HI.out (fun h => by cases h))
              have hso3 := BO.out.lt
              obtain ⟨wr, hwr⟩ : ∃ z, z = w1 := ⟨_, rfl⟩
              rw [← hwr] at F0 B0 BO HP hso3 ⊢
              clear hwr
              have p5 : wr.cell? ⟨w.heap.size, 5, none⟩ = some (.bool P.leaf) := B0.out.cell' rfl
              cases hl : P.leaf with
              | true =>
                rw [hl] at p5
                have HL := hid_ hl
                clear hl
                go_wp2_with (refine wpList_store_mid rfl 81 (.tmp 10) (.tmp 63) rfl (w.heap.size + 1 + 1 + 1) 0 (pnA (pnK 10)) rfl rfl (BO.out.there7 rfl) plan_size (by simp [Value.oneCell']) ?_; have ov := BO.out.over7 (pnA (pnK 10)).toList rfl; obtain ⟨w9, hw9⟩ : ∃ z, z = wr.setCells (w.heap.size + 1 + 1 + 1) 0 (pnA (pnK 10)).toList := ⟨_, rfl⟩; rw [← hw9] at ov; change wpList _ _ _ _ _ (wr.setCells (w.heap.size + 1 + 1 + 1) 0 (pnA (pnK 10)).toList); rw [← hw9]; have OV := hid_ ov; clear hw9 ov)
                refine bodyPost_ret (results_cell7 _ _ rfl (w.heap.size + 1 + 1 + 1) 0 (pnA (pnK 10)).toList _ rfl (Blk.range7 (l := (pnA (pnK 10)).toList) OV.out.1) Try.underlying81 rfl plan_size) rfl ⟨?_, F0.out.then_only OV.out.2 (.inr (by omega))⟩
                show Ending.returned (.agg (pnA (pnK 10))) = _
                rw [HE.out, show decR P key = pnK 10 from if_pos HL.out]
              | false =>
                rw [hl] at p5
                have HL := hid_ hl
                clear hl
                go_wp2_with (refine wpList_load_mid rfl 43 (.tmp 65) rfl w.heap.size 12 rfl (vwA P.iv (.slice P.B P.iv.ents.length P.d)).toList _ (pz_range B0.out) Try.underlying43 rfl view_size7 ?_)
                refine (child_ok P.iv P.B P.d key wr HP.out.iv HK.out).mono ?_
                rintro e w5 ⟨hc, hf⟩
                replace F0 := hid_ (F0.out.then_none hf)
                replace BO := hid_ (BO.out.fr hf id)
                clear hf p5
                have hso5 := BO.out.lt
                rcases hc with ⟨p, hc, rfl⟩ | ⟨hc, rfl⟩
                · have HC := hid_ hc
                  clear hc
                  go_upto_region 14 with fail
                  obtain ⟨w6, hw6⟩ : ∃ z, z = w5.alloc (.cells #[.string p.1, .int .i64 p.2] 64) := ⟨_, rfl⟩
                  have f6 : Fr none_ w5 w6 := by rw [hw6]; exact (Fr.refl none_ w5).alloc _
                  have B6 : Hid (Blk w6 w5.heap.size 64 #[.string p.1, .int .i64 p.2]) := hid_ (by rw [hw6]; exact Blk.new w5 _ _)
                  change Code.wp _ _ _ _ (w5.alloc (.cells #[.string p.1, .int .i64 p.2] 64))
                  rw [← hw6]
                  clear hw6
                  replace F0 := hid_ (F0.out.then_none f6)
                  replace BO := hid_ (BO.out.fr f6 id)
                  clear f6
                  have hso6 := BO.out.lt
                  have e1 : w6.cell? ⟨w5.heap.size, 1, none⟩ = some (.int .i64 p.2) := B6.out.cell' rfl
                  go_wp2_with (refine wpList_store_mid rfl 81 (.tmp 10) (.tmp 76) rfl (w.heap.size + 1 + 1 + 1) 0 (pnA (⟨1, p.2, nilS, 0, 0, 0, nilS⟩ : Pn)) rfl rfl (BO.out.there7 rfl) plan_size (by simp [Value.oneCell']) ?_; have ov := BO.out.over7 (pnA (⟨1, p.2, nilS, 0, 0, 0, nilS⟩ : Pn)).toList rfl; obtain ⟨w9, hw9⟩ : ∃ z, z = w6.setCells (w.heap.size + 1 + 1 + 1) 0 (pnA (⟨1, p.2, nilS, 0, 0, 0, nilS⟩ : Pn)).toList := ⟨_, rfl⟩; rw [← hw9] at ov; change wpList _ _ _ _ _ (w6.setCells (w.heap.size + 1 + 1 + 1) 0 (pnA (⟨1, p.2, nilS, 0, 0, 0, nilS⟩ : Pn)).toList); rw [← hw9]; have OV := hid_ ov; clear hw9 ov)
                  refine bodyPost_ret (results_cell7 _ _ rfl (w.heap.size + 1 + 1 + 1) 0 (pnA (⟨1, p.2, nilS, 0, 0, 0, nilS⟩ : Pn)).toList _ rfl (Blk.range7 (l := (pnA (⟨1, p.2, nilS, 0, 0, 0, nilS⟩ : Pn)).toList) OV.out.1) Try.underlying81 rfl plan_size) rfl ⟨?_, F0.out.then_only OV.out.2 (.inr (by omega))⟩
                  show Ending.returned (.agg (pnA (⟨1, p.2, nilS, 0, 0, 0, nilS⟩ : Pn))) = _
                  rw [HE.out, show decR P key = _ by unfold decR; rw [if_neg (by rw [HL.out]; decide), HC.out]]
                · have HC := hid_ hc
                  clear hc
                  go_upto_region 14 with fail
                  obtain ⟨w6, hw6⟩ : ∃ z, z = w5.alloc (.cells #[.string nilS, .int .i64 0] 64) := ⟨_, rfl⟩
                  have f6 : Fr none_ w5 w6 := by rw [hw6]; exact (Fr.refl none_ w5).alloc _
                  have B6 : Hid (Blk w6 w5.heap.size 64 #[.string nilS, .int .i64 0]) := hid_ (by rw [hw6]; exact Blk.new w5 _ _)
                  change Code.wp _ _ _ _ (w5.alloc (.cells #[.string nilS, .int .i64 0] 64))
                  rw [← hw6]
                  clear hw6
                  replace F0 := hid_ (F0.out.then_none f6)
                  replace BO := hid_ (BO.out.fr f6 id)
                  clear f6
                  have hso6 := BO.out.lt
                  go_wp2_with (refine wpList_store_mid rfl 81 (.tmp 10) (.tmp 73) rfl (w.heap.size + 1 + 1 + 1) 0 (pnA (pnK 3)) rfl rfl (BO.out.there7 rfl) plan_size (by simp [Value.oneCell']) ?_; have ov := BO.out.over7 (pnA (pnK 3)).toList rfl; obtain ⟨w9, hw9⟩ : ∃ z, z = w6.setCells (w.heap.size + 1 + 1 + 1) 0 (pnA (pnK 3)).toList := ⟨_, rfl⟩; rw [← hw9] at ov; change wpList _ _ _ _ _ (w6.setCells (w.heap.size + 1 + 1 + 1) 0 (pnA (pnK 3)).toList); rw [← hw9]; have OV := hid_ ov; clear hw9 ov)
                  refine bodyPost_ret (results_cell7 _ _ rfl (w.heap.size + 1 + 1 + 1) 0 (pnA (pnK 3)).toList _ rfl (Blk.range7 (l := (pnA (pnK 3)).toList) OV.out.1) Try.underlying81 rfl plan_size) rfl ⟨?_, F0.out.then_only OV.out.2 (.inr (by omega))⟩
                  show Ending.returned (.agg (pnA (pnK 3))) = _
                  rw [HE.out, show decR P key = _ by unfold decR; rw [if_neg (by rw [HL.out]; decide), HC.out]]
end Go.Proofs.Ytpjbncbmdfmlpaa

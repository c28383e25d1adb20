/- plan.upkeep by contract, in full. (First printed by gen_dec7.py, then edited by hand: edit this text itself.) -/
import Derived.Test.YtpjbncbmdfmlpaaMd11
namespace Go.Proofs.Ytpjbncbmdfmlpaa
open Go.RowKit Go.BigFrame
set_option maxRecDepth 100000
set_option linter.unusedVariables false

set_option maxHeartbeats 8000000 in
theorem upkeep_ok (P : Pz) (a : Az) (l : L6) (w : World) (h : PzOk w P) (ha : VwIn w a.V a.B a.d) : Calls Try.prog 68 #[.agg (pzA P), .agg (azA a), .agg (l6A l)] w (UpkPost P a l w) := by
  by_cases hbig : l.rows < (P.size : Int)
  · exact upkeep_big P a l w h ha hbig
  have HBG := hid_ hbig
  clear hbig
  obtain ⟨w0, hw0⟩ : ∃ z, z = (((w.alloc (.cells (pzA P) 45)).alloc (.cells (azA a) 77)).alloc (.cells (l6A l) 28)).alloc (.cells pnZ 81) := ⟨_, rfl⟩
  have f0 : Fr none_ w w0 := by rw [hw0]; exact ((((Fr.refl none_ w).alloc _).alloc _).alloc _).alloc _
  have B0 : Hid (Blk w0 w.heap.size 45 (pzA P)) := hid_ (by rw [hw0]; exact (((Blk.new w _ _).alloc _).alloc _).alloc _)
  have B1 : Hid (Blk w0 (w.heap.size + 1) 77 (azA a)) := hid_ (by rw [hw0]; exact ((Blk.new7 _ _ (by simp)).alloc _).alloc _)
  have B2 : Hid (Blk w0 (w.heap.size + 1 + 1) 28 (l6A l)) := hid_ (by rw [hw0]; exact (Blk.new7 _ _ (by simp)).alloc _)
  have BO : Hid (Blk w0 (w.heap.size + 1 + 1 + 1) 81 pnZ) := hid_ (by rw [hw0]; exact Blk.new7 _ _ (by simp))
  have F0 := hid_ f0
  have HP := hid_ h
  have HA := hid_ (ha.keep f0)
  have hnc := h.nc
  clear f0 h ha
  go_enter Try.func68, Try.ntmps68
  go_upto_region 1 with fail
  change Code.wp _ _ _ _ ((((w.alloc (.cells (pzA P) 45)).alloc (.cells (azA a) 77)).alloc (.cells (l6A l) 28)).alloc (.cells pnZ 81))
  rw [← hw0]
  clear hw0
  have p3 : w0.cell? ⟨w.heap.size, 3, none⟩ = some (.slice P.C P.nc P.x) := B0.out.cell' rfl
  have l4 : w0.cell? ⟨w.heap.size + 1 + 1, 4, none⟩ = some (.int .i64 l.chain) := B2.out.cell' rfl
  obtain ⟨sz, hsz⟩ : ∃ z, z = P.size := ⟨_, rfl⟩
  have HSZ := hid_ hsz
  have hszb : sz ≤ 301000 := by
    have h1 := HP.out.rows
    have h2 := HP.out.iv.ok.ents.1
    rw [hsz]
    unfold Pz.size
    omega
  clear hsz
  have hso := BO.out.lt
  by_cases hc1 : l.chain < (P.nc : Int)
  · have e1 : decide (l.chain < (P.nc : Int)) = true := decide_eq_true hc1
    have HC1 := hid_ hc1
    clear hc1
    go_wp2_with (refine wpList_store_mid rfl 81 (.tmp 6) (.tmp 17) rfl (w.heap.size + 1 + 1 + 1) 0 (pnA (pnK 6)) rfl rfl (BO.out.there7 rfl) plan_size (by simp [Value.oneCell']) ?_; have ov := BO.out.over7 (pnA (pnK 6)).toList rfl; obtain ⟨w9, hw9⟩ : ∃ z, z = w0.setCells (w.heap.size + 1 + 1 + 1) 0 (pnA (pnK 6)).toList := ⟨_, rfl⟩; rw [← hw9] at ov; change wpList _ _ _ _ _ (w0.setCells (w.heap.size + 1 + 1 + 1) 0 (pnA (pnK 6)).toList); rw [← hw9]; have OV := hid_ ov; clear hw9 ov)
    refine bodyPost_ret (results_cell_tmp7 _ _ rfl (w.heap.size + 1 + 1 + 1) 0 (pnA (pnK 6)).toList _ rfl (Blk.range7 (l := (pnA (pnK 6)).toList) OV.out.1) Try.underlying81 rfl plan_size) rfl ⟨.inl ⟨_, by unfold upkM; rw [if_pos (by have := HC1.out; omega)], rfl⟩, F0.out.then_only OV.out.2 (.inr (by omega))⟩
  have e1 : decide (l.chain < (P.nc : Int)) = false := decide_eq_false hc1
  have HC1 := hid_ hc1
  clear hc1
  go_upto_region 3 with fail
  clear p3 l4 e1
  have hc2 : ¬ l.rows < (sz : Int) := by rw [HSZ.out]; exact HBG.out
  have e2 : decide (l.rows < (sz : Int)) = false := decide_eq_false hc2
  have HC2 : Hid (¬ l.rows < (P.size : Int)) := hid_ (by rw [← HSZ.out]; exact hc2)
  clear hc2
  go_upto_region 3 with fail
  go_cut [18] (fun u wq => u = .bool false ∧ Fr none_ w0 wq)
  case first =>
    have r3 : w0.cell? ⟨w.heap.size + 1 + 1, 3, none⟩ = some (.int .i64 l.rows) := B2.out.cell' rfl
    have q0 : w0.cell? ⟨w.heap.size, 0, none⟩ = some (.int .i64 P.n) := B0.out.cell' rfl
    have hS0 : (fun w' : World => Fr none_ w0 w') w0.drew := (Fr.refl none_ w0).drew
    refine wp_region_U (m := 11) (S := fun w' : World => Fr none_ w0 w') (by kernel_rfl) ?_
    refine wpAnyU_take2 (i := 0) (v := _) rfl (by kernel_rfl) (by kernel_rfl) (by kernel_rfl) (by kernel_rfl) (fun _ _ _ h => h) (yieldsIf_load_mid (by kernel_rfl) 45 (.tmp 3) rfl w.heap.size 0 rfl (pzA P).toList _ (fun w' hS i v hv => cellFr (Blk.range7 (l := (pzA P).toList) B0.out i v hv) hS) Try.underlying45 rfl page_size) hS0 ?_
    refine wpAnyU_take2 (i := 2) (v := _) rfl (by kernel_rfl) (by kernel_rfl) (by kernel_rfl) (by kernel_rfl) (fun _ _ _ h => h) (.inl ⟨by kernel_rfl, fun w' hS => by have s_r3 := cellFr r3 hS; go_simp; rfl⟩) hS0 ?_
    refine wpAnyU_take2 (i := 3) (v := _) rfl (by kernel_rfl) (by kernel_rfl) (by kernel_rfl) (by kernel_rfl) (fun _ _ _ h => h) (.inl ⟨by kernel_rfl, fun w' hS => by have s_r3 := cellFr r3 hS; go_simp; rfl⟩) hS0 ?_
    clear hS0
    refine wpAnyU_one7 (i := 1) rfl (by kernel_rfl) (by kernel_rfl) ?_
    go_simp
    refine (psize_ok P w0.drew HP.out.rows (by have := HP.out.iv.ok.ents.1; exact this)).mono ?_
    rintro e w1 ⟨rfl, hf9⟩
    rw [← HSZ.out]
    have fq : Fr none_ w0 w1 := (Fr.refl none_ w0).drew.then_none hf9
    have FQ := hid_ fq
    clear hf9
    refine ⟨FQ.out, ?_⟩
    replace q0 := cellFr q0 fq
    clear fq
    refine wpAnyU_take2 (i := 4) (v := _) rfl (by kernel_rfl) (by kernel_rfl) (by kernel_rfl) (by kernel_rfl) (fun _ _ _ h => h) (.inl ⟨by kernel_rfl, fun w' hS => by skip; go_simp; rfl⟩) FQ.out ?_
    refine wpAnyU_take2 (i := 5) (v := _) rfl (by kernel_rfl) (by kernel_rfl) (by kernel_rfl) (by kernel_rfl) (fun _ _ _ h => h) (.inl ⟨by kernel_rfl, fun w' hS => by skip; go_simp; rfl⟩) FQ.out ?_
    refine wpAnyU_take2 (i := 6) (v := undef) rfl (by kernel_rfl) (by kernel_rfl) (by kernel_rfl) (by kernel_rfl) (fun _ _ _ h => h) (.inr ⟨by kernel_rfl, rfl⟩) FQ.out ?_
    refine wpAnyU_take2 (i := 7) (v := undef) rfl (by kernel_rfl) (by kernel_rfl) (by kernel_rfl) (by kernel_rfl) (fun _ _ _ h => h) (.inr ⟨by kernel_rfl, rfl⟩) FQ.out ?_
    refine wpAnyU_take2 (i := 8) (v := undef) rfl (by kernel_rfl) (by kernel_rfl) (by kernel_rfl) (by kernel_rfl) (fun _ _ _ h => h) (.inr ⟨by kernel_rfl, rfl⟩) FQ.out ?_
    refine wpAnyU_take2 (i := 9) (v := _) rfl (by kernel_rfl) (by kernel_rfl) (by kernel_rfl) (by kernel_rfl) (fun _ _ _ h => h) (.inl ⟨by kernel_rfl, fun w' hS => by skip; go_simp; rfl⟩) FQ.out ?_
    refine wpAnyU_take2 (i := 10) (v := _) rfl (by kernel_rfl) (by kernel_rfl) (by kernel_rfl) (by kernel_rfl) (fun _ _ _ h => h) (.inl ⟨by kernel_rfl, fun w' hS => by skip; go_simp; rfl⟩) FQ.out ?_
    refine wpAnyU_done (by kernel_rfl) ?_ _
    clear r3 q0
    go_wp2
    go_meet
    case rel => exact ⟨rfl, FQ.out⟩
  case rest =>
  obtain ⟨rfl, hf⟩ := hcut
  obtain ⟨w1, hnw⟩ : ∃ z, z = wc := ⟨_, rfl⟩
  rw [← hnw] at hf ⊢
  clear hnw
  replace F0 := hid_ (F0.out.then_none hf)
  replace B0 := hid_ (B0.out.fr hf id)
  replace B1 := hid_ (B1.out.fr hf id)
  replace B2 := hid_ (B2.out.fr hf id)
  replace BO := hid_ (BO.out.fr hf id)
  replace HA := hid_ (HA.out.keep hf)
  clear hf
  go_upto_region 5 with fail
  go_cut [30] (fun u wq => u = .bool false ∧ Fr none_ w1 wq)
  case first =>
    have r3 : w1.cell? ⟨w.heap.size + 1 + 1, 3, none⟩ = some (.int .i64 l.rows) := B2.out.cell' rfl
    have q0 : w1.cell? ⟨w.heap.size, 0, none⟩ = some (.int .i64 P.n) := B0.out.cell' rfl
    have hS0 : (fun w' : World => Fr none_ w1 w') w1.drew := (Fr.refl none_ w1).drew
    refine wp_region_U (m := 6) (S := fun w' : World => Fr none_ w1 w') (by kernel_rfl) ?_
    refine wpAnyU_take2 (i := 0) (v := _) rfl (by kernel_rfl) (by kernel_rfl) (by kernel_rfl) (by kernel_rfl) (fun _ _ _ h => h) (yieldsIf_load_mid (by kernel_rfl) 45 (.tmp 3) rfl w.heap.size 0 rfl (pzA P).toList _ (fun w' hS i v hv => cellFr (Blk.range7 (l := (pzA P).toList) B0.out i v hv) hS) Try.underlying45 rfl page_size) hS0 ?_
    refine wpAnyU_take2 (i := 2) (v := _) rfl (by kernel_rfl) (by kernel_rfl) (by kernel_rfl) (by kernel_rfl) (fun _ _ _ h => h) (.inl ⟨by kernel_rfl, fun w' hS => by have s_r3 := cellFr r3 hS; go_simp; rfl⟩) hS0 ?_
    refine wpAnyU_take2 (i := 3) (v := _) rfl (by kernel_rfl) (by kernel_rfl) (by kernel_rfl) (by kernel_rfl) (fun _ _ _ h => h) (.inl ⟨by kernel_rfl, fun w' hS => by have s_r3 := cellFr r3 hS; go_simp; rfl⟩) hS0 ?_
    clear hS0
    refine wpAnyU_one7 (i := 1) rfl (by kernel_rfl) (by kernel_rfl) ?_
    go_simp
    refine (psize_ok P w1.drew HP.out.rows (by have := HP.out.iv.ok.ents.1; exact this)).mono ?_
    rintro e w2 ⟨rfl, hf9⟩
    rw [← HSZ.out]
    have fq : Fr none_ w1 w2 := (Fr.refl none_ w1).drew.then_none hf9
    have FQ := hid_ fq
    clear hf9
    refine ⟨FQ.out, ?_⟩
    replace q0 := cellFr q0 fq
    clear fq
    refine wpAnyU_take2 (i := 4) (v := _) rfl (by kernel_rfl) (by kernel_rfl) (by kernel_rfl) (by kernel_rfl) (fun _ _ _ h => h) (.inl ⟨by kernel_rfl, fun w' hS => by skip; go_simp; rfl⟩) FQ.out ?_
    refine wpAnyU_take2 (i := 5) (v := _) rfl (by kernel_rfl) (by kernel_rfl) (by kernel_rfl) (by kernel_rfl) (fun _ _ _ h => h) (.inl ⟨by kernel_rfl, fun w' hS => by skip; go_simp; rfl⟩) FQ.out ?_
    refine wpAnyU_done (by kernel_rfl) ?_ _
    clear r3 q0
    go_wp2
    go_meet
    case rel => exact ⟨rfl, FQ.out⟩
  case rest =>
  obtain ⟨rfl, hf⟩ := hcut
  obtain ⟨w2, hnw⟩ : ∃ z, z = wc := ⟨_, rfl⟩
  rw [← hnw] at hf ⊢
  clear hnw
  replace F0 := hid_ (F0.out.then_none hf)
  replace B0 := hid_ (B0.out.fr hf id)
  replace B1 := hid_ (B1.out.fr hf id)
  replace B2 := hid_ (B2.out.fr hf id)
  replace BO := hid_ (BO.out.fr hf id)
  replace HA := hid_ (HA.out.keep hf)
  clear hf
  have HU : Hid (upkM P a l = if P.leaf = false ∨ 0 < P.size ∨ a.some_ = false ∨ a.V.held = true then none else (holdM a.V P.n).map fun h => ⟨9, 0, nilS, 0, h.1, h.2.1, h.2.2⟩) := hid_ (by unfold upkM; rw [if_neg (by have := HC1.out; omega), if_neg (fun h => by have := HC2.out; have := h.1; omega), if_neg (by have := HC2.out; omega)])
  go_upto_region 7 with fail
  go_cut [37] (fun u wq => ∃ bb : Bool, u = .bool bb ∧ (bb = true ↔ (P.leaf = false ∨ 0 < P.size ∨ a.some_ = false ∨ a.V.held = true)) ∧ Fr none_ w2 wq)
  case first =>
    have p0 : w2.cell? ⟨w.heap.size, 0, none⟩ = some (.int .i64 P.n) := B0.out.cell' rfl
    have p1 : w2.cell? ⟨w.heap.size, 1, none⟩ = some (.int .i64 P.hs) := B0.out.cell' rfl
    have p2 : w2.cell? ⟨w.heap.size, 2, none⟩ = some (.int .i64 P.hg) := B0.out.cell' rfl
    have p3 : w2.cell? ⟨w.heap.size, 3, none⟩ = some (.slice P.C P.nc P.x) := B0.out.cell' rfl
    have p4 : w2.cell? ⟨w.heap.size, 4, none⟩ = some P.vr := B0.out.cell' rfl
    have p5 : w2.cell? ⟨w.heap.size, 5, none⟩ = some (.bool P.leaf) := B0.out.cell' rfl
    have p6 : w2.cell? ⟨w.heap.size, 6, none⟩ = some (.string P.lv.low) := B0.out.cell' rfl
    have p7 : w2.cell? ⟨w.heap.size, 7, none⟩ = some (.string P.lv.high) := B0.out.cell' rfl
    have p8 : w2.cell? ⟨w.heap.size, 8, none⟩ = some (.bool P.lv.unb) := B0.out.cell' rfl
    have p9 : w2.cell? ⟨w.heap.size, 9, none⟩ = some (.int .i64 P.lv.right) := B0.out.cell' rfl
    have p10 : w2.cell? ⟨w.heap.size, 10, none⟩ = some (.slice P.A P.lv.rows.length P.c) := B0.out.cell' rfl
    have p11 : w2.cell? ⟨w.heap.size, 11, none⟩ = some (.bool P.lv.gone) := B0.out.cell' rfl
    have p12 : w2.cell? ⟨w.heap.size, 12, none⟩ = some (.string P.iv.low) := B0.out.cell' rfl
    have p13 : w2.cell? ⟨w.heap.size, 13, none⟩ = some (.string P.iv.high) := B0.out.cell' rfl
    have p14 : w2.cell? ⟨w.heap.size, 14, none⟩ = some (.bool P.iv.unb) := B0.out.cell' rfl
    have p15 : w2.cell? ⟨w.heap.size, 15, none⟩ = some (.int .i64 P.iv.right) := B0.out.cell' rfl
    have p16 : w2.cell? ⟨w.heap.size, 16, none⟩ = some (.slice P.B P.iv.ents.length P.d) := B0.out.cell' rfl
    have p17 : w2.cell? ⟨w.heap.size, 17, none⟩ = some (.bool P.iv.held) := B0.out.cell' rfl
    have p18 : w2.cell? ⟨w.heap.size, 18, none⟩ = some (.int .i64 P.iv.hp) := B0.out.cell' rfl
    have p19 : w2.cell? ⟨w.heap.size, 19, none⟩ = some (.int .i64 P.iv.hl) := B0.out.cell' rfl
    have p20 : w2.cell? ⟨w.heap.size, 20, none⟩ = some (.string P.iv.hk) := B0.out.cell' rfl
    have a0 : w2.cell? ⟨w.heap.size + 1, 0, none⟩ = some (.bool a.some_) := B1.out.cell' rfl
    have a9 : w2.cell? ⟨w.heap.size + 1, 9, none⟩ = some (.bool a.V.held) := B1.out.cell' rfl
    cases hl : P.leaf with
    | false =>
      rw [hl] at p5
      have HL := hid_ hl
      clear hl
      go_wp2_with fail
      go_meet
      case rel => exact ⟨true, rfl, ⟨fun _ => .inl HL.out, fun _ => rfl⟩, Fr.refl _ _⟩
    | true =>
      have HL := hid_ hl
      rw [hl] at p5
      clear hl
      go_wp2_with (refine wpList_load_midG (by kernel_rfl) 45 (.tmp 3) rfl w.heap.size 0 rfl (pzA P).toList _ (Blk.range7 (l := (pzA P).toList) B0.out) Try.underlying45 rfl page_size ?_)
      refine (psize_ok P w2 HP.out.rows (by have := HP.out.iv.ok.ents.1; exact this)).mono ?_
      rintro e w3 ⟨rfl, hf3⟩
      rw [← HSZ.out]
      have F3 := hid_ hf3
      replace a0 := cellFr a0 hf3
      replace a9 := cellFr a9 hf3
      clear hf3 p0 p1 p2 p3 p4 p5 p6 p7 p8 p9 p10 p11 p12 p13 p14 p15 p16 p17 p18 p19 p20
      by_cases hz : 0 < sz
      · have e4 : decide ((0 : Int) < (sz : Int)) = true := decide_eq_true (by omega)
        have e5 : decide (0 < sz) = true := decide_eq_true hz
        have HZ : Hid (0 < P.size) := hid_ (by rw [← HSZ.out]; exact hz)
        clear hz
        go_wp2_with fail
        go_meet
        case rel => exact ⟨true, rfl, ⟨fun _ => .inr (.inl HZ.out), fun _ => rfl⟩, F3.out⟩
      · have e4 : decide ((0 : Int) < (sz : Int)) = false := decide_eq_false (by omega)
        have e5 : decide (0 < sz) = false := decide_eq_false hz
        have HZ : Hid (¬ 0 < P.size) := hid_ (by rw [← HSZ.out]; exact hz)
        clear hz
        cases hs : a.some_ with
        | false =>
          rw [hs] at a0
          have HS := hid_ hs
          clear hs
          go_wp2_with fail
          go_meet
          case rel => exact ⟨true, rfl, ⟨fun _ => .inr (.inr (.inl HS.out)), fun _ => rfl⟩, F3.out⟩
        | true =>
          rw [hs] at a0
          have HS := hid_ hs
          clear hs
          cases hh : a.V.held with
          | true =>
            rw [hh] at a9
            have HH := hid_ hh
            clear hh
            go_wp2_with fail
            go_meet
            case rel => exact ⟨true, rfl, ⟨fun _ => .inr (.inr (.inr HH.out)), fun _ => rfl⟩, F3.out⟩
          | false =>
            rw [hh] at a9
            have HH := hid_ hh
            clear hh
            go_wp2_with fail
            go_meet
            case rel => exact ⟨false, rfl, ⟨(fun h => by cases h), fun h => by
              rcases h with h | h | h | h
              · rw [HL.out] at h; cases h
              · exact absurd h HZ.out
              · rw [HS.out] at h; cases h
              · rw [HH.out] at h; cases h⟩, F3.out⟩
  case rest =>
    obtain ⟨bb, rfl, hbb, hf⟩ := hcut
    have HB := hid_ hbb
    replace F0 := hid_ (F0.out.then_none hf)
    replace B0 := hid_ (B0.out.fr hf id)
    replace B1 := hid_ (B1.out.fr hf id)
    replace BO := hid_ (BO.out.fr hf id)
    replace HA := hid_ (HA.out.keep hf)
    clear hf hbb
    cases bb with
    | true =>
      go_wp2_with (refine wpList_store_mid rfl 81 (.tmp 6) (.tmp 56) rfl (w.heap.size + 1 + 1 + 1) 0 (pnA (pnK 0)) rfl rfl (BO.out.there7 rfl) plan_size (by simp [Value.oneCell']) ?_; have ov := BO.out.over7 (pnA (pnK 0)).toList rfl; obtain ⟨w9, hw9⟩ : ∃ z, z = wc.setCells (w.heap.size + 1 + 1 + 1) 0 (pnA (pnK 0)).toList := ⟨_, rfl⟩; rw [← hw9] at ov; change wpList _ _ _ _ _ (wc.setCells (w.heap.size + 1 + 1 + 1) 0 (pnA (pnK 0)).toList); rw [← hw9]; have OV := hid_ ov; clear hw9 ov)
      refine bodyPost_ret (results_cell_tmp7 _ _ rfl (w.heap.size + 1 + 1 + 1) 0 (pnA (pnK 0)).toList _ rfl (Blk.range7 (l := (pnA (pnK 0)).toList) OV.out.1) Try.underlying81 rfl plan_size) rfl ⟨.inr ⟨by rw [HU.out, if_pos (HB.out.1 (by simp))], _, rfl⟩, F0.out.then_only OV.out.2 (.inr (by omega))⟩
    | false =>
      have p0 : wc.cell? ⟨w.heap.size, 0, none⟩ = some (.int .i64 P.n) := B0.out.cell' rfl
      have HNB : Hid (¬ (P.leaf = false ∨ 0 < P.size ∨ a.some_ = false ∨ a.V.held = true)) := hid_ (fun h => by have := HB.out.2 h; cases this)
      go_wp2_with (refine wpList_load_mid rfl 43 (.tmp 58) rfl (w.heap.size + 1) 4 rfl (vwA a.V (.slice a.B a.V.ents.length a.d)).toList _ (az_range B1.out) Try.underlying43 rfl view_size7 ?_)
      refine (hold4_nb a.V P.n a.B a.d wc HA.out (by have := HA.out.ok.ents.1; omega)).mono ?_
      rintro e w4 ⟨hh, hf4⟩
      replace F0 := hid_ (F0.out.then_none hf4)
      replace BO := hid_ (BO.out.fr hf4 id)
      clear hf4 p0
      have hsz4 := BO.out.lt
      rcases hh with ⟨hn, rfl⟩ | ⟨x, y, zk, hn, rfl⟩
      · have HN := hid_ ((holdM_is a.V P.n).uniq hn)
        clear hn
        go_upto_region 10 with fail
        obtain ⟨w5, hw5⟩ : ∃ z, z = w4.alloc (.cells #[.int .i64 0, .int .i64 0, .string nilS] 41) := ⟨_, rfl⟩
        have f5 : Fr none_ w4 w5 := by rw [hw5]; exact (Fr.refl none_ w4).alloc _
        have B5 : Hid (Blk w5 w4.heap.size 41 #[.int .i64 0, .int .i64 0, .string nilS]) := hid_ (by rw [hw5]; exact Blk.new w4 _ _)
        change Code.wp _ _ _ _ (w4.alloc (.cells #[.int .i64 0, .int .i64 0, .string nilS] 41))
        rw [← hw5]
        replace F0 := hid_ (F0.out.then_none f5)
        replace BO := hid_ (BO.out.fr f5 id)
        clear f5 hw5
        have hS0 : (fun w' : World => Blk w' w4.heap.size 41 #[.int .i64 0, .int .i64 0, .string nilS] ∧ Fr none_ w w') w5.drew := ⟨B5.out.drew, F0.out.drew⟩
        refine wp_region_U (m := 6) (S := fun w' : World => Blk w' w4.heap.size 41 #[.int .i64 0, .int .i64 0, .string nilS] ∧ Fr none_ w w') (by kernel_rfl) ?_
        refine wpAnyU_take2 (i := 0) (v := _) rfl (by kernel_rfl) (by kernel_rfl) (by kernel_rfl) (by kernel_rfl) (fun _ _ _ h => h) (yieldsIf_load_mid (by kernel_rfl) 41 (.tmp 8) rfl w4.heap.size 0 rfl (#[.int .i64 0, .int .i64 0, .string nilS] : Array Value).toList _ (fun w' hS i v hv => Blk.range7 (l := (#[.int .i64 0, .int .i64 0, .string nilS] : Array Value).toList) hS.1 i v hv) Try.underlying41 rfl hold_size7) hS0 ?_
        refine wpAnyU_take2 (i := 1) (v := .agg (pnA (⟨9, 0, nilS, 0, 0, 0, nilS⟩ : Pn))) rfl (by kernel_rfl) (by kernel_rfl) (by kernel_rfl) (by kernel_rfl) (fun _ _ _ h => h) (.inl ⟨by kernel_rfl, fun w' hS => by kernel_rfl⟩) hS0 ?_
        refine wpAnyU_take2 (i := 2) (v := errV 6) rfl (by kernel_rfl) (by kernel_rfl) (by kernel_rfl) (by kernel_rfl) (fun _ _ _ h => h) (.inl ⟨by kernel_rfl, fun w' hS => by kernel_rfl⟩) hS0 ?_
        refine wpAnyU_take2 (i := 3) (v := .bool false) rfl (by kernel_rfl) (by kernel_rfl) (by kernel_rfl) (by kernel_rfl) (fun _ _ _ h => h) (.inl ⟨by kernel_rfl, fun w' hS => by kernel_rfl⟩) hS0 ?_
        clear hS0
        refine wpAnyU_name7 ?_
        intro a_ ha
        have HA_ := hid_ ha
        clear ha
        refine wpAnyU_one7 (i := 4) rfl rfl (by kernel_rfl) ?_
        refine wp_store_mid 81 (.tmp 6) (.tmp 66) rfl (w.heap.size + 1 + 1 + 1) 0 (pnA (⟨9, 0, nilS, 0, 0, 0, nilS⟩ : Pn)) (by rw [HA_.out]; kernel_rfl) (by rw [HA_.out]; kernel_rfl) (BO.out.drew.there7 rfl) plan_size (by simp [Value.oneCell']) ?_
        have ov := BO.out.drew.over7 (pnA (⟨9, 0, nilS, 0, 0, 0, nilS⟩ : Pn)).toList rfl
        obtain ⟨w9, hw9⟩ : ∃ z, z = w5.drew.setCells (w.heap.size + 1 + 1 + 1) 0 (pnA (⟨9, 0, nilS, 0, 0, 0, nilS⟩ : Pn)).toList := ⟨_, rfl⟩
        rw [← hw9] at ov ⊢
        clear hw9
        have OV := hid_ ov
        clear ov
        have S9 := hid_ (And.intro (B5.out.drew.fr OV.out.2 (only_ne (by omega))) (F0.out.drew.then_only OV.out.2 (.inr (by omega))))
        refine ⟨.inr S9.out, ?_⟩
        refine wpAnyU_take2 (i := 5) (v := .bool false) rfl (by kernel_rfl) (by kernel_rfl) (by kernel_rfl) (by kernel_rfl) (fun _ _ _ h => h) (.inl ⟨rfl, fun w' hS => by rw [HA_.out]; kernel_rfl⟩) S9.out ?_
        refine wpAnyU_name7 ?_
        intro b_ hb
        have HB_ := hid_ hb
        clear hb
        have Q6 : b_.tmps.getD 6 undef = .pointer (some ⟨w.heap.size + 1 + 1 + 1, 0, none⟩) := by rw [HB_.out, HA_.out]; kernel_rfl
        have Q7 : b_.tmps.getD 7 undef = .bool false := by rw [HB_.out, HA_.out]; kernel_rfl
        have QD : b_.defers = [] := by rw [HB_.out, HA_.out]; kernel_rfl
        clear HA_ HB_
        refine wpAnyU_done (by kernel_rfl) ?_ _
        go_wp2
        refine bodyPost_ret (results_cell_tmp7 b_.tmps w9 rfl (w.heap.size + 1 + 1 + 1) 0 (pnA (⟨9, 0, nilS, 0, 0, 0, nilS⟩ : Pn)).toList _ Q6 (Blk.range7 (l := (pnA (⟨9, 0, nilS, 0, 0, 0, nilS⟩ : Pn)).toList) OV.out.1) Try.underlying81 rfl plan_size) QD ⟨.inr ⟨by rw [HU.out, if_neg HNB.out, HN.out]; rfl, _, by rw [Q7]⟩, S9.out.2⟩
      · have HN := hid_ ((holdM_is a.V P.n).uniq hn)
        clear hn
        go_upto_region 10 with fail
        obtain ⟨w5, hw5⟩ : ∃ z, z = w4.alloc (.cells #[.int .i64 x, .int .i64 y, .string zk] 41) := ⟨_, rfl⟩
        have f5 : Fr none_ w4 w5 := by rw [hw5]; exact (Fr.refl none_ w4).alloc _
        have B5 : Hid (Blk w5 w4.heap.size 41 #[.int .i64 x, .int .i64 y, .string zk]) := hid_ (by rw [hw5]; exact Blk.new w4 _ _)
        change Code.wp _ _ _ _ (w4.alloc (.cells #[.int .i64 x, .int .i64 y, .string zk] 41))
        rw [← hw5]
        replace F0 := hid_ (F0.out.then_none f5)
        replace BO := hid_ (BO.out.fr f5 id)
        clear f5 hw5
        have hS0 : (fun w' : World => Blk w' w4.heap.size 41 #[.int .i64 x, .int .i64 y, .string zk] ∧ Fr none_ w w') w5.drew := ⟨B5.out.drew, F0.out.drew⟩
        refine wp_region_U (m := 6) (S := fun w' : World => Blk w' w4.heap.size 41 #[.int .i64 x, .int .i64 y, .string zk] ∧ Fr none_ w w') (by kernel_rfl) ?_
        refine wpAnyU_take2 (i := 0) (v := _) rfl (by kernel_rfl) (by kernel_rfl) (by kernel_rfl) (by kernel_rfl) (fun _ _ _ h => h) (yieldsIf_load_mid (by kernel_rfl) 41 (.tmp 8) rfl w4.heap.size 0 rfl (#[.int .i64 x, .int .i64 y, .string zk] : Array Value).toList _ (fun w' hS i v hv => Blk.range7 (l := (#[.int .i64 x, .int .i64 y, .string zk] : Array Value).toList) hS.1 i v hv) Try.underlying41 rfl hold_size7) hS0 ?_
        refine wpAnyU_take2 (i := 1) (v := .agg (pnA (⟨9, 0, nilS, 0, x, y, zk⟩ : Pn))) rfl (by kernel_rfl) (by kernel_rfl) (by kernel_rfl) (by kernel_rfl) (fun _ _ _ h => h) (.inl ⟨by kernel_rfl, fun w' hS => by kernel_rfl⟩) hS0 ?_
        refine wpAnyU_take2 (i := 2) (v := .nilIface) rfl (by kernel_rfl) (by kernel_rfl) (by kernel_rfl) (by kernel_rfl) (fun _ _ _ h => h) (.inl ⟨by kernel_rfl, fun w' hS => by kernel_rfl⟩) hS0 ?_
        refine wpAnyU_take2 (i := 3) (v := .bool true) rfl (by kernel_rfl) (by kernel_rfl) (by kernel_rfl) (by kernel_rfl) (fun _ _ _ h => h) (.inl ⟨by kernel_rfl, fun w' hS => by kernel_rfl⟩) hS0 ?_
        clear hS0
        refine wpAnyU_name7 ?_
        intro a_ ha
        have HA_ := hid_ ha
        clear ha
        refine wpAnyU_one7 (i := 4) rfl rfl (by kernel_rfl) ?_
        refine wp_store_mid 81 (.tmp 6) (.tmp 66) rfl (w.heap.size + 1 + 1 + 1) 0 (pnA (⟨9, 0, nilS, 0, x, y, zk⟩ : Pn)) (by rw [HA_.out]; kernel_rfl) (by rw [HA_.out]; kernel_rfl) (BO.out.drew.there7 rfl) plan_size (by simp [Value.oneCell']) ?_
        have ov := BO.out.drew.over7 (pnA (⟨9, 0, nilS, 0, x, y, zk⟩ : Pn)).toList rfl
        obtain ⟨w9, hw9⟩ : ∃ z, z = w5.drew.setCells (w.heap.size + 1 + 1 + 1) 0 (pnA (⟨9, 0, nilS, 0, x, y, zk⟩ : Pn)).toList := ⟨_, rfl⟩
        rw [← hw9] at ov ⊢
        clear hw9
        have OV := hid_ ov
        clear ov
        have S9 := hid_ (And.intro (B5.out.drew.fr OV.out.2 (only_ne (by omega))) (F0.out.drew.then_only OV.out.2 (.inr (by omega))))
        refine ⟨.inr S9.out, ?_⟩
        refine wpAnyU_take2 (i := 5) (v := .bool true) rfl (by kernel_rfl) (by kernel_rfl) (by kernel_rfl) (by kernel_rfl) (fun _ _ _ h => h) (.inl ⟨rfl, fun w' hS => by rw [HA_.out]; kernel_rfl⟩) S9.out ?_
        refine wpAnyU_name7 ?_
        intro b_ hb
        have HB_ := hid_ hb
        clear hb
        have Q6 : b_.tmps.getD 6 undef = .pointer (some ⟨w.heap.size + 1 + 1 + 1, 0, none⟩) := by rw [HB_.out, HA_.out]; kernel_rfl
        have Q7 : b_.tmps.getD 7 undef = .bool true := by rw [HB_.out, HA_.out]; kernel_rfl
        have QD : b_.defers = [] := by rw [HB_.out, HA_.out]; kernel_rfl
        clear HA_ HB_
        refine wpAnyU_done (by kernel_rfl) ?_ _
        go_wp2
        refine bodyPost_ret (results_cell_tmp7 b_.tmps w9 rfl (w.heap.size + 1 + 1 + 1) 0 (pnA (⟨9, 0, nilS, 0, x, y, zk⟩ : Pn)).toList _ Q6 (Blk.range7 (l := (pnA (⟨9, 0, nilS, 0, x, y, zk⟩ : Pn)).toList) OV.out.1) Try.underlying81 rfl plan_size) QD ⟨.inl ⟨_, by rw [HU.out, if_neg HNB.out, HN.out]; rfl, by rw [Q7]⟩, S9.out.2⟩
end Go.Proofs.Ytpjbncbmdfmlpaa

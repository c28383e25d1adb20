/- Texts of one proof, merged: Rdec11. -/
import Derived.Test.YtpjbncbmdfmlpaaMkJ
namespace Go.Proofs.Ytpjbncbmdfmlpaa
open Go.RowKit Go.BigFrame
set_option maxRecDepth 100000
set_option linter.unusedVariables false

/-- What Decide wants of a page and of what is above. -/
structure DecIn (P : Pz) (a : Az) : Prop where
  lf : P.leaf = true → P.iv.ents = []
  nl : P.leaf = false → P.lv.rows = []
  gp : P.leaf = false → Good P.iv
  ga : a.some_ = true → Good a.V
theorem dec6 {P : Pz} {a : Az} {key : ByteArray} {lm : L6} {writes : Bool} (h : (P.leaf && P.lv.gone) = false) (h2 : (writes && (!P.leaf && P.iv.held)) = false) (h3 : inS P.low P.high P.unb key = true) (h4 : (writes && decide (lm.chain < (P.nc : Int))) = true) : decM P a key lm writes = pnK 6 := by
  simp only [Bool.and_eq_true, decide_eq_true_eq] at h4
  obtain ⟨rfl, h4⟩ := h4
  exact dec_d h h2 h3 (by unfold upkM; rw [if_pos h4])
theorem dec8 {P : Pz} {a : Az} {key : ByteArray} {lm : L6} {writes : Bool} (h : (P.leaf && P.lv.gone) = false) (h2 : (writes && (!P.leaf && P.iv.held)) = false) (h3 : inS P.low P.high P.unb key = true) (h4 : (writes && decide (lm.chain < (P.nc : Int))) = false) (h5 : (writes && decide (lm.rows < (P.size : Int))) = true) (h6 : P.n = 0) : decM P a key lm writes = pnK 8 := by
  simp only [Bool.and_eq_true, decide_eq_true_eq] at h5
  obtain ⟨rfl, h5⟩ := h5
  have h4' : ¬ lm.chain < (P.nc : Int) := by simpa using h4
  exact dec_d h h2 h3 (by unfold upkM; rw [if_neg h4', if_pos ⟨h5, h6⟩])
theorem dec7 {P : Pz} {a : Az} {key : ByteArray} {lm : L6} {writes : Bool} (h : (P.leaf && P.lv.gone) = false) (h2 : (writes && (!P.leaf && P.iv.held)) = false) (h3 : inS P.low P.high P.unb key = true) (h4 : (writes && decide (lm.chain < (P.nc : Int))) = false) (h5 : (writes && decide (lm.rows < (P.size : Int))) = true) (h6 : P.n ≠ 0) : decM P a key lm writes = pnK 7 := by
  simp only [Bool.and_eq_true, decide_eq_true_eq] at h5
  obtain ⟨rfl, h5⟩ := h5
  have h4' : ¬ lm.chain < (P.nc : Int) := by simpa using h4
  exact dec_d h h2 h3 (by unfold upkM; rw [if_neg h4', if_neg (fun h => h6 h.2), if_pos h5])
theorem dec9 {P : Pz} {a : Az} {lm : L6} {writes : Bool} (h4 : (writes && decide (lm.chain < (P.nc : Int))) = false) (h5 : (writes && decide (lm.rows < (P.size : Int))) = false) (h6 : (writes && (P.leaf && (decide (P.size = 0) && (a.some_ && !a.V.held)))) = true) : upkM P a lm = (holdM a.V P.n).map fun h => ⟨9, 0, nilS, 0, h.1, h.2.1, h.2.2⟩ := by
  simp only [Bool.and_eq_true, decide_eq_true_eq, Bool.not_eq_true'] at h6
  obtain ⟨rfl, hl, hz, hs, hv⟩ := h6
  have h4' : ¬ lm.chain < (P.nc : Int) := by simpa using h4
  have h5' : ¬ lm.rows < (P.size : Int) := by simpa using h5
  unfold upkM
  rw [if_neg h4', if_neg (fun h => h5' h.1), if_neg h5', if_neg]
  rintro (h | h | h | h)
  · rw [hl] at h; cases h
  · omega
  · rw [hs] at h; cases h
  · rw [hv] at h; cases h
theorem upk_calm {P : Pz} {a : Az} {lm : L6} {writes : Bool} (h4 : (writes && decide (lm.chain < (P.nc : Int))) = false) (h5 : (writes && decide (lm.rows < (P.size : Int))) = false) (h6 : (writes && (P.leaf && (decide (P.size = 0) && (a.some_ && !a.V.held)))) = false) : writes = true → upkM P a lm = none := by
  rintro rfl
  have h4' : ¬ lm.chain < (P.nc : Int) := by simpa using h4
  have h5' : ¬ lm.rows < (P.size : Int) := by simpa using h5
  unfold upkM
  rw [if_neg h4', if_neg (fun h => h5' h.1), if_neg h5', if_pos]
  cases hl : P.leaf with
  | false => exact .inl rfl
  | true =>
    refine .inr ?_
    by_cases hz : P.size = 0
    · refine .inr ?_
      cases hs : a.some_ with
      | false => exact .inl rfl
      | true =>
        cases hv : a.V.held with
        | true => exact .inr rfl
        | false => rw [hl, hs, hv, hz] at h6; exact absurd h6 (by decide)
    · exact .inl (by omega)
set_option maxHeartbeats 16000000 in
theorem rdecide_ok (P : Pz) (a : Az) (key : ByteArray) (lm : L6) (writes : Bool) (w : World) (h : PzOk w P) (ha : VwIn w a.V a.B a.d) (hk : SzOk key) (hd : DecIn P a) : Calls Try.prog 39 #[.agg (pzA P), .agg (azA a), .string key, .agg (l6A lm), .bool writes] w (RetQ (.agg (pnA (decM P a key lm writes))) w) := by
  obtain ⟨w0, hw0⟩ : ∃ z, z = (((w.alloc (.cells (pzA P) 68)).alloc (.cells (azA a) 91)).alloc (.cells (l6A lm) 28)).alloc (.cells pnZ 94) := ⟨_, rfl⟩
  have f0 : Fr none_ w w0 := by rw [hw0]; exact ((((Fr.refl none_ w).alloc _).alloc _).alloc _).alloc _
  have B0 : Hid (Blk w0 w.heap.size 68 (pzA P)) := hid_ (by rw [hw0]; exact (((Blk.new w _ _).alloc _).alloc _).alloc _)
  have B1 : Hid (Blk w0 (w.heap.size + 1) 91 (azA a)) := hid_ (by rw [hw0]; exact ((Blk.new7 _ _ (by simp)).alloc _).alloc _)
  have B2 : Hid (Blk w0 (w.heap.size + 1 + 1) 28 (l6A lm)) := hid_ (by rw [hw0]; exact (Blk.new7 _ _ (by simp)).alloc _)
  have BO : Hid (Blk w0 (w.heap.size + 1 + 1 + 1) 94 pnZ) := hid_ (by rw [hw0]; exact Blk.new7 _ _ (by simp))
  have F0 := hid_ f0
  have HP := hid_ (h.keep f0)
  have HA := hid_ (ha.keep f0)
  have HK := hid_ hk
  have HD := hid_ hd
  have hsz0 := BO.out.lt
  clear f0 h ha hk hd
  go_enter Try.func39, Try.ntmps39
  go_upto_region 1 with fail
  change Code.wp _ _ _ _ ((((w.alloc (.cells (pzA P) 68)).alloc (.cells (azA a) 91)).alloc (.cells (l6A lm) 28)).alloc (.cells pnZ 94))
  rw [← hw0]
  clear hw0
  have p5 : w0.cell? ⟨w.heap.size, 5, none⟩ = some (.bool P.leaf) := B0.out.cell' rfl
  have p6 : w0.cell? ⟨w.heap.size, 6, none⟩ = some (.string P.lv.low) := B0.out.cell' rfl
  have p7 : w0.cell? ⟨w.heap.size, 7, none⟩ = some (.string P.lv.high) := B0.out.cell' rfl
  have p8 : w0.cell? ⟨w.heap.size, 8, none⟩ = some (.bool P.lv.unb) := B0.out.cell' rfl
  have p9 : w0.cell? ⟨w.heap.size, 9, none⟩ = some (.int .i64 P.lv.right) := B0.out.cell' rfl
  have p10 : w0.cell? ⟨w.heap.size, 10, none⟩ = some (.slice P.A P.lv.rows.length P.c) := B0.out.cell' rfl
  have p12 : w0.cell? ⟨w.heap.size, 12, none⟩ = some (.string P.iv.low) := B0.out.cell' rfl
  have p13 : w0.cell? ⟨w.heap.size, 13, none⟩ = some (.string P.iv.high) := B0.out.cell' rfl
  have p14 : w0.cell? ⟨w.heap.size, 14, none⟩ = some (.bool P.iv.unb) := B0.out.cell' rfl
  have p15 : w0.cell? ⟨w.heap.size, 15, none⟩ = some (.int .i64 P.iv.right) := B0.out.cell' rfl
  have p16 : w0.cell? ⟨w.heap.size, 16, none⟩ = some (.slice P.B P.iv.ents.length P.d) := B0.out.cell' rfl
  have hsz : (P.leaf = true → P.size = P.lv.rows.length) ∧ (P.leaf = false → P.size = P.iv.ents.length) := ⟨fun h => by unfold Pz.size; rw [HD.out.lf h]; rfl, fun h => by unfold Pz.size; rw [HD.out.nl h]; simp⟩
  have HSZ := hid_ hsz
  clear hsz
  go_upto_if 39 with fail
  (try go_frame)
  go_cut [11, 12, 13, 14, 15] (fun s1 s2 s3 s4 s5 wq => s1 = .string P.low ∧ s2 = .string P.high ∧ s3 = .bool P.unb ∧ s4 = .int .i64 P.right ∧ s5 = .int .i64 (P.size : Nat) ∧ wq = w0)
  case first =>
    as_aux_lemma =>
    cases hl : P.leaf with
    | false =>
      rw [hl] at p5
      have HL := hid_ hl
      clear hl
      go_wp2_with fail
      go_meet
      case rel => exact ⟨by simp [Pz.low, HL.out], by simp [Pz.high, HL.out], by simp [Pz.unb, HL.out], by simp [Pz.right, HL.out], by rw [HSZ.out.2 HL.out], rfl⟩
    | true =>
      rw [hl] at p5
      have HL := hid_ hl
      clear hl
      go_wp2_with fail
      go_meet
      case rel => exact ⟨by simp [Pz.low, HL.out], by simp [Pz.high, HL.out], by simp [Pz.unb, HL.out], by simp [Pz.right, HL.out], by rw [HSZ.out.1 HL.out], rfl⟩
  case rest =>
  as_aux_lemma =>
  obtain ⟨rfl, rfl, rfl, rfl, rfl, hwc⟩ := hcut
  subst hwc
  obtain ⟨w0, rfl⟩ : ∃ z : World, z = wc := ⟨_, rfl⟩
  clear p5 p6 p7 p8 p9 p10 p12 p13 p14 p15 p16
  obtain ⟨pu, hpu⟩ : ∃ z, z = P.unb := ⟨_, rfl⟩
  rw [← hpu]
  have HPU := hid_ hpu
  clear hpu
  go_upto_region 12 with fail
  (try go_frame)
  go_cut [62] (fun v wq => v = .bool (P.leaf && P.lv.gone) ∧ wq = w0)
  case first =>
    as_aux_lemma =>
    have p5 : w0.cell? ⟨w.heap.size, 5, none⟩ = some (.bool P.leaf) := B0.out.cell' rfl
    have p11 : w0.cell? ⟨w.heap.size, 11, none⟩ = some (.bool P.lv.gone) := B0.out.cell' rfl
    cases hl : P.leaf with
    | false =>
      rw [hl] at p5
      have HL := hid_ hl
      clear hl
      go_wp2_with fail
      go_meet
      case rel => exact ⟨by simp [HL.out], rfl⟩
    | true =>
      rw [hl] at p5
      have HL := hid_ hl
      clear hl
      go_wp2_with fail
      go_meet
      case rel => exact ⟨by simp [HL.out], rfl⟩
  case rest =>
  as_aux_lemma =>
  obtain ⟨rfl, hwc⟩ := hcut
  subst hwc
  obtain ⟨w0, rfl⟩ : ∃ z : World, z = wc := ⟨_, rfl⟩
  cases hg : (P.leaf && P.lv.gone) with
  | true =>
    have HG := hid_ hg
    clear hg
    as_aux_lemma =>
    go_wp2_with (refine wpList_store_mid rfl 94 (.tmp 10) (.tmp 63) rfl (w.heap.size + 1 + 1 + 1) 0 (pnA (pnK 3)) rfl rfl (BO.out.there7 rfl) rplan_size (by simp [Value.oneCell']) ?_; have ov := BO.out.over7 (pnA (pnK 3)).toList rfl; obtain ⟨w9, hw9⟩ : ∃ z, z = w0.setCells (w.heap.size + 1 + 1 + 1) 0 (pnA (pnK 3)).toList := ⟨_, rfl⟩; rw [← hw9] at ov; change wpList _ _ _ _ _ (w0.setCells (w.heap.size + 1 + 1 + 1) 0 (pnA (pnK 3)).toList); rw [← hw9]; have OV := hid_ ov; clear hw9 ov)
    refine bodyPost_ret (results_cell7 _ _ rfl (w.heap.size + 1 + 1 + 1) 0 (pnA (pnK 3)).toList _ rfl (Blk.range7 (l := (pnA (pnK 3)).toList) OV.out.1) Try.underlying94 rfl rplan_size) rfl ⟨by rw [dec_a HG.out], F0.out.then_only OV.out.2 (.inr (by omega))⟩
  | false =>
  have HG := hid_ hg
  clear hg
  go_upto_region 14 with fail
  (try go_frame)
  go_cut [74] (fun v wq => v = .bool (writes && (!P.leaf && P.iv.held)) ∧ wq = w0)
  case first =>
    as_aux_lemma =>
    have p5 : w0.cell? ⟨w.heap.size, 5, none⟩ = some (.bool P.leaf) := B0.out.cell' rfl
    have p17 : w0.cell? ⟨w.heap.size, 17, none⟩ = some (.bool P.iv.held) := B0.out.cell' rfl
    cases writes with
    | false =>
      go_wp2_with fail
      go_meet
      case rel => exact ⟨rfl, rfl⟩
    | true =>
      cases hl : P.leaf with
      | false =>
        rw [hl] at p5
        have HL := hid_ hl
        clear hl
        go_wp2_with fail
        go_meet
        case rel => exact ⟨by simp [HL.out], rfl⟩
      | true =>
        rw [hl] at p5
        have HL := hid_ hl
        clear hl
        go_wp2_with fail
        go_meet
        case rel => exact ⟨by simp [HL.out], rfl⟩
  case rest =>
  as_aux_lemma =>
  obtain ⟨rfl, hwc⟩ := hcut
  subst hwc
  obtain ⟨w0, rfl⟩ : ∃ z : World, z = wc := ⟨_, rfl⟩
  cases hh : (writes && (!P.leaf && P.iv.held)) with
  | true =>
    have HH := hid_ hh
    clear hh
    have p18 : w0.cell? ⟨w.heap.size, 18, none⟩ = some (.int .i64 P.iv.hp) := B0.out.cell' rfl
    have p19 : w0.cell? ⟨w.heap.size, 19, none⟩ = some (.int .i64 P.iv.hl) := B0.out.cell' rfl
    have p20 : w0.cell? ⟨w.heap.size, 20, none⟩ = some (.string P.iv.hk) := B0.out.cell' rfl
    as_aux_lemma =>
    go_wp2_with (refine wpList_store_mid rfl 94 (.tmp 10) (.tmp 78) rfl (w.heap.size + 1 + 1 + 1) 0 (pnA ⟨5, 0, nilS, 0, P.iv.hp, P.iv.hl, P.iv.hk⟩) rfl rfl (BO.out.there7 rfl) rplan_size (by simp [Value.oneCell']) ?_; have ov := BO.out.over7 (pnA ⟨5, 0, nilS, 0, P.iv.hp, P.iv.hl, P.iv.hk⟩).toList rfl; obtain ⟨w9, hw9⟩ : ∃ z, z = w0.setCells (w.heap.size + 1 + 1 + 1) 0 (pnA ⟨5, 0, nilS, 0, P.iv.hp, P.iv.hl, P.iv.hk⟩).toList := ⟨_, rfl⟩; rw [← hw9] at ov; change wpList _ _ _ _ _ (w0.setCells (w.heap.size + 1 + 1 + 1) 0 (pnA ⟨5, 0, nilS, 0, P.iv.hp, P.iv.hl, P.iv.hk⟩).toList); rw [← hw9]; have OV := hid_ ov; clear hw9 ov)
    refine bodyPost_ret (results_cell7 _ _ rfl (w.heap.size + 1 + 1 + 1) 0 (pnA ⟨5, 0, nilS, 0, P.iv.hp, P.iv.hl, P.iv.hk⟩).toList _ rfl (Blk.range7 (l := (pnA ⟨5, 0, nilS, 0, P.iv.hp, P.iv.hl, P.iv.hk⟩).toList) OV.out.1) Try.underlying94 rfl rplan_size) rfl ⟨by rw [dec_b HG.out HH.out], F0.out.then_only OV.out.2 (.inr (by omega))⟩
  | false =>
  have HH := hid_ hh
  clear hh
  go_upto_region 16 with fail
  (try go_frame)
  go_cut [16] (fun v wq => v = .bool (a.some_ && !a.V.held) ∧ wq = w0)
  case first =>
    as_aux_lemma =>
    have a0 : w0.cell? ⟨w.heap.size + 1, 0, none⟩ = some (.bool a.some_) := B1.out.cell' rfl
    have a9 : w0.cell? ⟨w.heap.size + 1, 9, none⟩ = some (.bool a.V.held) := B1.out.cell' rfl
    cases hs : a.some_ with
    | false =>
      rw [hs] at a0
      have HS := hid_ hs
      clear hs
      go_wp2_with fail
      go_meet
      case rel => exact ⟨by simp [HS.out], rfl⟩
    | true =>
      rw [hs] at a0
      have HS := hid_ hs
      clear hs
      go_wp2_with fail
      go_meet
      case rel => exact ⟨by simp [HS.out], rfl⟩
  case rest =>
  as_aux_lemma =>
  obtain ⟨rfl, hwc⟩ := hcut
  subst hwc
  obtain ⟨w0, rfl⟩ : ∃ z : World, z = wc := ⟨_, rfl⟩
  obtain ⟨op, hop⟩ : ∃ z, z = (a.some_ && !a.V.held) := ⟨_, rfl⟩
  rw [← hop]
  have HOP := hid_ hop
  clear hop
  go_wp2_with fail
  refine (rin_ok P.low P.high pu key w0 HP.out.low_.le HP.out.high_.le HK.out.le).mono ?_
  rintro e w1 ⟨rfl, q, hq⟩
  have f1 : Fr none_ w0 w1 := by rw [hq]; exact (Fr.refl none_ w0).drewN q
  replace B0 := hid_ (B0.out.fr f1 id)
  replace B1 := hid_ (B1.out.fr f1 id)
  replace B2 := hid_ (B2.out.fr f1 id)
  replace BO := hid_ (BO.out.fr f1 id)
  replace F0 := hid_ (F0.out.then_none f1)
  replace HP := hid_ (HP.out.keep f1)
  replace HA := hid_ (HA.out.keep f1)
  have hsz1 := f1.size
  clear hq f1
  rw [HPU.out]
  cases hin : inS P.low P.high P.unb key with
  | false =>
    have HIN := hid_ hin
    clear hin
    go_wp2_with fail
    refine (before_ok key P.low w1 HK.out.le HP.out.low_.le).mono ?_
    rintro e w2 ⟨rfl, q, hq⟩
    have f2 : Fr none_ w1 w2 := by rw [hq]; exact (Fr.refl none_ w1).drewN q
    replace B0 := hid_ (B0.out.fr f2 id)
    replace B1 := hid_ (B1.out.fr f2 id)
    replace B2 := hid_ (B2.out.fr f2 id)
    replace BO := hid_ (BO.out.fr f2 id)
    replace F0 := hid_ (F0.out.then_none f2)
    replace HP := hid_ (HP.out.keep f2)
    replace HA := hid_ (HA.out.keep f2)
    have hsz2 := f2.size
    clear hq f2
    cases hlt : ltS key P.low with
    | true =>
      have HLT := hid_ hlt
      clear hlt
      as_aux_lemma =>
      go_wp2_with (refine wpList_store_mid rfl 94 (.tmp 10) (.tmp 96) rfl (w.heap.size + 1 + 1 + 1) 0 (pnA (pnK 3)) rfl rfl (BO.out.there7 rfl) rplan_size (by simp [Value.oneCell']) ?_; have ov := BO.out.over7 (pnA (pnK 3)).toList rfl; obtain ⟨w9, hw9⟩ : ∃ z, z = w2.setCells (w.heap.size + 1 + 1 + 1) 0 (pnA (pnK 3)).toList := ⟨_, rfl⟩; rw [← hw9] at ov; change wpList _ _ _ _ _ (w2.setCells (w.heap.size + 1 + 1 + 1) 0 (pnA (pnK 3)).toList); rw [← hw9]; have OV := hid_ ov; clear hw9 ov)
      refine bodyPost_ret (results_cell7 _ _ rfl (w.heap.size + 1 + 1 + 1) 0 (pnA (pnK 3)).toList _ rfl (Blk.range7 (l := (pnA (pnK 3)).toList) OV.out.1) Try.underlying94 rfl rplan_size) rfl ⟨by rw [dec_c HG.out HH.out HIN.out, beyM, if_pos HLT.out], F0.out.then_only OV.out.2 (.inr (by omega))⟩
    | false =>
    have HLT := hid_ hlt
    clear hlt
    go_upto_region 21 with (first | (refine wpList_load_mid rfl 66 (.tmp 97) rfl (w.heap.size + 1) 4 rfl (vwA a.V (.slice a.B a.V.ents.length a.d)).toList _ (az_range B1.out) Try.underlying66 rfl rvw_size8 ?_) | (refine wpList_store_mid rfl 66 (.tmp 17) (.tmp 98) rfl w2.heap.size 0 (vwA a.V (.slice a.B a.V.ents.length a.d)) rfl rfl (new_there w2 _ vwZ8) rvw_size8 (by simp [Value.oneCell']) ?_; obtain ⟨w3, hw3⟩ : ∃ z, z = (w2.alloc (.cells vwZ8 66)).setCells w2.heap.size 0 (vwA a.V (.slice a.B a.V.ents.length a.d)).toList := ⟨_, rfl⟩; change wpList _ _ _ _ _ ((w2.alloc (.cells vwZ8 66)).setCells w2.heap.size 0 (vwA a.V (.slice a.B a.V.ents.length a.d)).toList); rw [← hw3]; have P3 : Hid (Blk w3 w2.heap.size 66 (vwA a.V (.slice a.B a.V.ents.length a.d)) ∧ Fr none_ w2 w3) := hid_ (by rw [hw3]; exact new_copy w2 _ vwZ8 _ rfl); clear hw3))
    replace B0 := hid_ (B0.out.fr P3.out.2 id)
    replace B1 := hid_ (B1.out.fr P3.out.2 id)
    replace B2 := hid_ (B2.out.fr P3.out.2 id)
    replace BO := hid_ (BO.out.fr P3.out.2 id)
    replace F0 := hid_ (F0.out.then_none P3.out.2)
    replace HP := hid_ (HP.out.keep P3.out.2)
    replace HA := hid_ (HA.out.keep P3.out.2)
    have BV := hid_ P3.out.1
    have hsz3 := P3.out.2.size
    obtain ⟨g, hg3⟩ : ∃ g, g = w2.heap.size := ⟨_, rfl⟩
    rw [← hg3] at BV
    rw [← hg3]
    clear hg3 P3
    (try go_frame)
    go_cut [118] (fun v wq => v = .bool (writes && (op && (inS a.V.low a.V.high a.V.unb P.high && !atB a.V.ents P.high))) ∧ Fr none_ w3 wq)
    case first =>
      as_aux_lemma =>
      cases writes with
      | false =>
        go_wp2_with fail
        go_meet
        case rel => exact ⟨rfl, Fr.refl _ _⟩
      | true =>
      cases op with
      | false =>
        go_wp2_with fail
        go_meet
        case rel => exact ⟨rfl, Fr.refl _ _⟩
      | true =>
        have hsm : a.some_ = true := by have := HOP.out; cases h : a.some_ with | true => rfl | false => rw [h] at this; cases this
        have HGA := hid_ (HD.out.ga hsm)
        have v0 : w3.cell? ⟨g, 0, none⟩ = some (.string a.V.low) := BV.out.cell' rfl
        have v1 : w3.cell? ⟨g, 1, none⟩ = some (.string a.V.high) := BV.out.cell' rfl
        have v2 : w3.cell? ⟨g, 2, none⟩ = some (.bool a.V.unb) := BV.out.cell' rfl
        clear hsm
        go_wp2_with fail
        refine (rin_ok a.V.low a.V.high a.V.unb P.high w3 HA.out.ok.low.le HA.out.ok.high.le HP.out.high_.le).mono ?_
        rintro e w4 ⟨rfl, q, hq⟩
        have f4 : Fr none_ w3 w4 := by rw [hq]; exact (Fr.refl none_ w3).drewN q
        have BV4 := hid_ (BV.out.fr f4 id)
        have F4 := hid_ f4
        clear v0 v1 v2 hq f4
        cases hi2 : inS a.V.low a.V.high a.V.unb P.high with
        | false =>
          have HI2 := hid_ hi2
          clear hi2
          go_wp2_with fail
          go_meet
          case rel => exact ⟨by rw [HI2.out]; rfl, F4.out⟩
        | true =>
          have HI2 := hid_ hi2
          clear hi2
          go_wp2_with (first | (refine wpList_load_mid rfl 66 (.tmp 17) rfl g 0 rfl (vwA a.V (.slice a.B a.V.ents.length a.d)).toList _ (Blk.range7 (l := (vwA a.V (.slice a.B a.V.ents.length a.d)).toList) BV4.out) Try.underlying66 rfl rvw_size8 ?_) | (refine wpList_load_midG (by kernel_rfl) 66 (.tmp 17) rfl g 0 rfl (vwA a.V (.slice a.B a.V.ents.length a.d)).toList _ (Blk.range7 (l := (vwA a.V (.slice a.B a.V.ents.length a.d)).toList) BV4.out) Try.underlying66 rfl rvw_size8 ?_))
          refine (rat_ok a.V a.B a.d P.high w4 (HA.out.keep F4.out)).mono ?_
          rintro e w5 ⟨k, rfl, hat, hf5⟩
          have F5 := hid_ (F4.out.then_none hf5)
          have HAT := hid_ hat
          clear hat hf5
          by_cases hk : k < 0
          · have e2 : decide (k < 0) = true := decide_eq_true hk
            have HB := hid_ (at_neg HGA.out HAT.out hk)
            clear hk
            go_wp2_with fail
            go_meet
            case rel => exact ⟨by rw [HI2.out, HB.out]; rfl, F5.out⟩
          · have e2 : decide (k < 0) = false := decide_eq_false hk
            have HB := hid_ (at_pos HGA.out HAT.out (by omega)).1
            clear hk
            go_wp2_with fail
            go_meet
            case rel => exact ⟨by rw [HI2.out, HB.out]; rfl, F5.out⟩
    case rest =>
    as_aux_lemma =>
    obtain ⟨rfl, hf⟩ := hcut
    obtain ⟨w4, rfl⟩ : ∃ z : World, z = wc := ⟨_, rfl⟩
    replace B0 := hid_ (B0.out.fr hf id)
    replace B1 := hid_ (B1.out.fr hf id)
    replace B2 := hid_ (B2.out.fr hf id)
    replace BO := hid_ (BO.out.fr hf id)
    replace F0 := hid_ (F0.out.then_none hf)
    replace HP := hid_ (HP.out.keep hf)
    replace HA := hid_ (HA.out.keep hf)
    clear hf
    have HBY : Hid (beyM P a key writes = if (writes && (op && (inS a.V.low a.V.high a.V.unb P.high && !atB a.V.ents P.high))) = true then ⟨4, 0, P.high, P.right, 0, 0, nilS⟩ else ⟨2, P.right, nilS, 0, 0, 0, nilS⟩) := hid_ (by
      unfold beyM
      rw [HOP.out, HLT.out, if_neg (by decide)]
      simp only [Bool.and_assoc])
    cases hb : (writes && (op && (inS a.V.low a.V.high a.V.unb P.high && !atB a.V.ents P.high))) with
    | true =>
      have HB := hid_ hb
      clear hb
      as_aux_lemma =>
      go_wp2_with (refine wpList_store_mid rfl 94 (.tmp 10) (.tmp 122) rfl (w.heap.size + 1 + 1 + 1) 0 (pnA ⟨4, 0, P.high, P.right, 0, 0, nilS⟩) rfl rfl (BO.out.there7 rfl) rplan_size (by simp [Value.oneCell']) ?_; have ov := BO.out.over7 (pnA ⟨4, 0, P.high, P.right, 0, 0, nilS⟩).toList rfl; obtain ⟨w9, hw9⟩ : ∃ z, z = w4.setCells (w.heap.size + 1 + 1 + 1) 0 (pnA ⟨4, 0, P.high, P.right, 0, 0, nilS⟩).toList := ⟨_, rfl⟩; rw [← hw9] at ov; change wpList _ _ _ _ _ (w4.setCells (w.heap.size + 1 + 1 + 1) 0 (pnA ⟨4, 0, P.high, P.right, 0, 0, nilS⟩).toList); rw [← hw9]; have OV := hid_ ov; clear hw9 ov)
      refine bodyPost_ret (results_cell7 _ _ rfl (w.heap.size + 1 + 1 + 1) 0 (pnA ⟨4, 0, P.high, P.right, 0, 0, nilS⟩).toList _ rfl (Blk.range7 (l := (pnA ⟨4, 0, P.high, P.right, 0, 0, nilS⟩).toList) OV.out.1) Try.underlying94 rfl rplan_size) rfl ⟨by rw [dec_c HG.out HH.out HIN.out, HBY.out, if_pos HB.out], F0.out.then_only OV.out.2 (.inr (by omega))⟩
    | false =>
      have HB := hid_ hb
      clear hb
      as_aux_lemma =>
      go_wp2_with (refine wpList_store_mid rfl 94 (.tmp 10) (.tmp 124) rfl (w.heap.size + 1 + 1 + 1) 0 (pnA ⟨2, P.right, nilS, 0, 0, 0, nilS⟩) rfl rfl (BO.out.there7 rfl) rplan_size (by simp [Value.oneCell']) ?_; have ov := BO.out.over7 (pnA ⟨2, P.right, nilS, 0, 0, 0, nilS⟩).toList rfl; obtain ⟨w9, hw9⟩ : ∃ z, z = w4.setCells (w.heap.size + 1 + 1 + 1) 0 (pnA ⟨2, P.right, nilS, 0, 0, 0, nilS⟩).toList := ⟨_, rfl⟩; rw [← hw9] at ov; change wpList _ _ _ _ _ (w4.setCells (w.heap.size + 1 + 1 + 1) 0 (pnA ⟨2, P.right, nilS, 0, 0, 0, nilS⟩).toList); rw [← hw9]; have OV := hid_ ov; clear hw9 ov)
      refine bodyPost_ret (results_cell7 _ _ rfl (w.heap.size + 1 + 1 + 1) 0 (pnA ⟨2, P.right, nilS, 0, 0, 0, nilS⟩).toList _ rfl (Blk.range7 (l := (pnA ⟨2, P.right, nilS, 0, 0, 0, nilS⟩).toList) OV.out.1) Try.underlying94 rfl rplan_size) rfl ⟨by rw [dec_c HG.out HH.out HIN.out, HBY.out, if_neg (by rw [HB.out]; decide)], F0.out.then_only OV.out.2 (.inr (by omega))⟩
  | true =>
  have HIN := hid_ hin
  clear hin
  have hnc := HP.out.nc
  go_upto_region 24 with fail
  (try go_frame)
  go_cut [133] (fun v wq => v = .bool (writes && decide (lm.chain < (P.nc : Int))) ∧ wq = w1)
  case first =>
    as_aux_lemma =>
    have p3 : w1.cell? ⟨w.heap.size, 3, none⟩ = some (.slice P.C P.nc P.x) := B0.out.cell' rfl
    have l4 : w1.cell? ⟨w.heap.size + 1 + 1, 4, none⟩ = some (.int .i64 lm.chain) := B2.out.cell' rfl
    cases writes with
    | false =>
      go_wp2_with fail
      go_meet
      case rel => exact ⟨rfl, rfl⟩
    | true =>
      go_wp2_with fail
      go_meet
      case rel => exact ⟨by simp, rfl⟩
  case rest =>
  as_aux_lemma =>
  obtain ⟨rfl, hwc⟩ := hcut
  subst hwc
  obtain ⟨w1, rfl⟩ : ∃ z : World, z = wc := ⟨_, rfl⟩
  cases hc6 : (writes && decide (lm.chain < (P.nc : Int))) with
  | true =>
    have HC6 := hid_ hc6
    clear hc6
    as_aux_lemma =>
    go_wp2_with (refine wpList_store_mid rfl 94 (.tmp 10) (.tmp 134) rfl (w.heap.size + 1 + 1 + 1) 0 (pnA (pnK 6)) rfl rfl (BO.out.there7 rfl) rplan_size (by simp [Value.oneCell']) ?_; have ov := BO.out.over7 (pnA (pnK 6)).toList rfl; obtain ⟨w9, hw9⟩ : ∃ z, z = w1.setCells (w.heap.size + 1 + 1 + 1) 0 (pnA (pnK 6)).toList := ⟨_, rfl⟩; rw [← hw9] at ov; change wpList _ _ _ _ _ (w1.setCells (w.heap.size + 1 + 1 + 1) 0 (pnA (pnK 6)).toList); rw [← hw9]; have OV := hid_ ov; clear hw9 ov)
    refine bodyPost_ret (results_cell7 _ _ rfl (w.heap.size + 1 + 1 + 1) 0 (pnA (pnK 6)).toList _ rfl (Blk.range7 (l := (pnA (pnK 6)).toList) OV.out.1) Try.underlying94 rfl rplan_size) rfl ⟨by rw [show decM P a key lm writes = pnK 6 from dec6 HG.out HH.out HIN.out HC6.out], F0.out.then_only OV.out.2 (.inr (by omega))⟩
  | false =>
  have HC6 := hid_ hc6
  clear hc6
  go_upto_region 26 with fail
  (try go_frame)
  go_cut [141] (fun v wq => v = .bool (writes && decide (lm.rows < (P.size : Int))) ∧ wq = w1)
  case first =>
    as_aux_lemma =>
    have l3 : w1.cell? ⟨w.heap.size + 1 + 1, 3, none⟩ = some (.int .i64 lm.rows) := B2.out.cell' rfl
    cases writes with
    | false =>
      go_wp2_with fail
      go_meet
      case rel => exact ⟨rfl, rfl⟩
    | true =>
      go_wp2_with fail
      go_meet
      case rel => exact ⟨by simp, rfl⟩
  case rest =>
  as_aux_lemma =>
  obtain ⟨rfl, hwc⟩ := hcut
  subst hwc
  obtain ⟨w1, rfl⟩ : ∃ z : World, z = wc := ⟨_, rfl⟩
  cases hc7 : (writes && decide (lm.rows < (P.size : Int))) with
  | true =>
    have HC7 := hid_ hc7
    clear hc7
    have p0 : w1.cell? ⟨w.heap.size, 0, none⟩ = some (.int .i64 P.n) := B0.out.cell' rfl
    by_cases hn0 : P.n = 0
    · rw [hn0] at p0
      have HN := hid_ hn0
      clear hn0
      as_aux_lemma =>
      go_wp2_with (refine wpList_store_mid rfl 94 (.tmp 10) (.tmp 145) rfl (w.heap.size + 1 + 1 + 1) 0 (pnA (pnK 8)) rfl rfl (BO.out.there7 rfl) rplan_size (by simp [Value.oneCell']) ?_; have ov := BO.out.over7 (pnA (pnK 8)).toList rfl; obtain ⟨w9, hw9⟩ : ∃ z, z = w1.setCells (w.heap.size + 1 + 1 + 1) 0 (pnA (pnK 8)).toList := ⟨_, rfl⟩; rw [← hw9] at ov; change wpList _ _ _ _ _ (w1.setCells (w.heap.size + 1 + 1 + 1) 0 (pnA (pnK 8)).toList); rw [← hw9]; have OV := hid_ ov; clear hw9 ov)
      refine bodyPost_ret (results_cell7 _ _ rfl (w.heap.size + 1 + 1 + 1) 0 (pnA (pnK 8)).toList _ rfl (Blk.range7 (l := (pnA (pnK 8)).toList) OV.out.1) Try.underlying94 rfl rplan_size) rfl ⟨by rw [show decM P a key lm writes = pnK 8 from dec8 HG.out HH.out HIN.out HC6.out HC7.out HN.out], F0.out.then_only OV.out.2 (.inr (by omega))⟩
    · have e0 : (P.n == 0) = false := neB hn0
      have HN := hid_ hn0
      clear hn0
      as_aux_lemma =>
      go_wp2_with (refine wpList_store_mid rfl 94 (.tmp 10) (.tmp 146) rfl (w.heap.size + 1 + 1 + 1) 0 (pnA (pnK 7)) rfl rfl (BO.out.there7 rfl) rplan_size (by simp [Value.oneCell']) ?_; have ov := BO.out.over7 (pnA (pnK 7)).toList rfl; obtain ⟨w9, hw9⟩ : ∃ z, z = w1.setCells (w.heap.size + 1 + 1 + 1) 0 (pnA (pnK 7)).toList := ⟨_, rfl⟩; rw [← hw9] at ov; change wpList _ _ _ _ _ (w1.setCells (w.heap.size + 1 + 1 + 1) 0 (pnA (pnK 7)).toList); rw [← hw9]; have OV := hid_ ov; clear hw9 ov)
      refine bodyPost_ret (results_cell7 _ _ rfl (w.heap.size + 1 + 1 + 1) 0 (pnA (pnK 7)).toList _ rfl (Blk.range7 (l := (pnA (pnK 7)).toList) OV.out.1) Try.underlying94 rfl rplan_size) rfl ⟨by rw [show decM P a key lm writes = pnK 7 from dec7 HG.out HH.out HIN.out HC6.out HC7.out HN.out], F0.out.then_only OV.out.2 (.inr (by omega))⟩
  | false =>
  have HC7 := hid_ hc7
  clear hc7
  go_upto_region 30 with fail
  (try go_frame)
  go_cut [158] (fun v wq => v = .bool (writes && (P.leaf && (decide (P.size = 0) && op))) ∧ wq = w1)
  case first =>
    as_aux_lemma =>
    have p5 : w1.cell? ⟨w.heap.size, 5, none⟩ = some (.bool P.leaf) := B0.out.cell' rfl
    cases writes with
    | false =>
      go_wp2_with fail
      go_meet
      case rel => exact ⟨rfl, rfl⟩
    | true =>
      cases hl : P.leaf with
      | false =>
        rw [hl] at p5
        have HL := hid_ hl
        clear hl
        go_wp2_with fail
        go_meet
        case rel => exact ⟨by simp [HL.out], rfl⟩
      | true =>
        rw [hl] at p5
        have HL := hid_ hl
        clear hl
        by_cases hz0 : P.size = 0
        · have e0 : ((P.size : Int) == 0) = true := eqB (by omega)
          have HZ0 := hid_ hz0
          clear hz0
          go_wp2_with fail
          go_meet
          case rel => exact ⟨by simp [HL.out, HZ0.out], rfl⟩
        · have e0 : ((P.size : Int) == 0) = false := neB (by omega)
          have HZ0 := hid_ hz0
          clear hz0
          go_wp2_with fail
          go_meet
          case rel => exact ⟨by simp [HL.out, HZ0.out], rfl⟩
  case rest =>
  as_aux_lemma =>
  obtain ⟨rfl, hwc⟩ := hcut
  subst hwc
  obtain ⟨w1, rfl⟩ : ∃ z : World, z = wc := ⟨_, rfl⟩
  cases hcd : (writes && (P.leaf && (decide (P.size = 0) && op))) with
  | true =>
    have HCD := hid_ (Bool.and_eq_true_iff.1 hcd)
    have HLF := hid_ (Bool.and_eq_true_iff.1 HCD.out.2).1
    have HU : Hid (upkM P a lm = (holdM a.V P.n).map fun h => ⟨9, 0, nilS, 0, h.1, h.2.1, h.2.2⟩) := hid_ (by rw [HOP.out] at hcd; exact dec9 HC6.out HC7.out hcd)
    clear hcd
    have p0 : w1.cell? ⟨w.heap.size, 0, none⟩ = some (.int .i64 P.n) := B0.out.cell' rfl
    go_wp2_with (refine wpList_load_mid rfl 66 (.tmp 160) rfl (w.heap.size + 1) 4 rfl (vwA a.V (.slice a.B a.V.ents.length a.d)).toList _ (az_range B1.out) Try.underlying66 rfl rvw_size8 ?_)
    refine (rhold_ok a.V P.n a.B a.d w1 HA.out (by have := HA.out.ok.ents.1; omega)).mono ?_
    rintro e w4 ⟨hh, hf4⟩
    replace B0 := hid_ (B0.out.fr hf4 id)
    replace B1 := hid_ (B1.out.fr hf4 id)
    replace B2 := hid_ (B2.out.fr hf4 id)
    replace BO := hid_ (BO.out.fr hf4 id)
    replace F0 := hid_ (F0.out.then_none hf4)
    replace HP := hid_ (HP.out.keep hf4)
    replace HA := hid_ (HA.out.keep hf4)
    clear hf4 p0
    have hsz4 := BO.out.lt
    rcases hh with ⟨hn, rfl⟩ | ⟨x, y, zk, hn, rfl⟩
    · have HN := hid_ ((holdM_is a.V P.n).uniq hn)
      clear hn
      have HE : Hid (decM P a key lm writes = decR P key) := hid_ (dec_e HG.out HH.out HIN.out (fun _ => by rw [HU.out, HN.out]; rfl))
      go_upto_region 32 with fail
      obtain ⟨w5, hw5⟩ : ∃ z, z = w4.alloc (.cells #[.int .i64 0, .int .i64 0, .string nilS] 41) := ⟨_, rfl⟩
      have f5 : Fr none_ w4 w5 := by rw [hw5]; exact (Fr.refl none_ w4).alloc _
      have B5 : Hid (Blk w5 w4.heap.size 41 #[.int .i64 0, .int .i64 0, .string nilS]) := hid_ (by rw [hw5]; exact Blk.new w4 _ _)
      change Code.wp _ _ _ _ (w4.alloc (.cells #[.int .i64 0, .int .i64 0, .string nilS] 41))
      rw [← hw5]
      clear hw5
      replace B0 := hid_ (B0.out.fr f5 id)
      replace B1 := hid_ (B1.out.fr f5 id)
      replace B2 := hid_ (B2.out.fr f5 id)
      replace BO := hid_ (BO.out.fr f5 id)
      replace F0 := hid_ (F0.out.then_none f5)
      replace HP := hid_ (HP.out.keep f5)
      replace HA := hid_ (HA.out.keep f5)
      have hsz5 := f5.size
      clear f5
      have p5 : w5.cell? ⟨w.heap.size, 5, none⟩ = some (.bool P.leaf) := B0.out.cell' rfl
      rw [HLF.out] at p5
      as_aux_lemma =>
      go_wp2_with (refine wpList_store_mid rfl 94 (.tmp 10) (.tmp 173) rfl (w.heap.size + 1 + 1 + 1) 0 (pnA (pnK 10)) rfl rfl (BO.out.there7 rfl) rplan_size (by simp [Value.oneCell']) ?_; have ov := BO.out.over7 (pnA (pnK 10)).toList rfl; obtain ⟨w9, hw9⟩ : ∃ z, z = w5.setCells (w.heap.size + 1 + 1 + 1) 0 (pnA (pnK 10)).toList := ⟨_, rfl⟩; rw [← hw9] at ov; change wpList _ _ _ _ _ (w5.setCells (w.heap.size + 1 + 1 + 1) 0 (pnA (pnK 10)).toList); rw [← hw9]; have OV := hid_ ov; clear hw9 ov)
      refine bodyPost_ret (results_cell7 _ _ rfl (w.heap.size + 1 + 1 + 1) 0 (pnA (pnK 10)).toList _ rfl (Blk.range7 (l := (pnA (pnK 10)).toList) OV.out.1) Try.underlying94 rfl rplan_size) rfl ⟨by rw [show decM P a key lm writes = pnK 10 by rw [HE.out]; exact if_pos HLF.out], F0.out.then_only OV.out.2 (.inr (by omega))⟩
    · have HN := hid_ ((holdM_is a.V P.n).uniq hn)
      clear hn
      have HE : Hid (decM P a key lm writes = ⟨9, 0, nilS, 0, x, y, zk⟩) := hid_ (by have hw := HCD.out.1; subst hw; exact dec_d HG.out HH.out HIN.out (by rw [HU.out, HN.out]; rfl))
      go_upto_region 32 with fail
      obtain ⟨w5, hw5⟩ : ∃ z, z = w4.alloc (.cells #[.int .i64 x, .int .i64 y, .string zk] 41) := ⟨_, rfl⟩
      have f5 : Fr none_ w4 w5 := by rw [hw5]; exact (Fr.refl none_ w4).alloc _
      have B5 : Hid (Blk w5 w4.heap.size 41 #[.int .i64 x, .int .i64 y, .string zk]) := hid_ (by rw [hw5]; exact Blk.new w4 _ _)
      change Code.wp _ _ _ _ (w4.alloc (.cells #[.int .i64 x, .int .i64 y, .string zk] 41))
      rw [← hw5]
      clear hw5
      replace B0 := hid_ (B0.out.fr f5 id)
      replace B1 := hid_ (B1.out.fr f5 id)
      replace B2 := hid_ (B2.out.fr f5 id)
      replace BO := hid_ (BO.out.fr f5 id)
      replace F0 := hid_ (F0.out.then_none f5)
      replace HP := hid_ (HP.out.keep f5)
      replace HA := hid_ (HA.out.keep f5)
      have hsz5 := f5.size
      clear f5
      have h0 : w5.cell? ⟨w4.heap.size, 0, none⟩ = some (.int .i64 x) := B5.out.cell' rfl
      have h1 : w5.cell? ⟨w4.heap.size, 1, none⟩ = some (.int .i64 y) := B5.out.cell' rfl
      have h2 : w5.cell? ⟨w4.heap.size, 2, none⟩ = some (.string zk) := B5.out.cell' rfl
      as_aux_lemma =>
      go_wp2_with (refine wpList_store_mid rfl 94 (.tmp 10) (.tmp 170) rfl (w.heap.size + 1 + 1 + 1) 0 (pnA ⟨9, 0, nilS, 0, x, y, zk⟩) rfl rfl (BO.out.there7 rfl) rplan_size (by simp [Value.oneCell']) ?_; have ov := BO.out.over7 (pnA ⟨9, 0, nilS, 0, x, y, zk⟩).toList rfl; obtain ⟨w9, hw9⟩ : ∃ z, z = w5.setCells (w.heap.size + 1 + 1 + 1) 0 (pnA ⟨9, 0, nilS, 0, x, y, zk⟩).toList := ⟨_, rfl⟩; rw [← hw9] at ov; change wpList _ _ _ _ _ (w5.setCells (w.heap.size + 1 + 1 + 1) 0 (pnA ⟨9, 0, nilS, 0, x, y, zk⟩).toList); rw [← hw9]; have OV := hid_ ov; clear hw9 ov)
      refine bodyPost_ret (results_cell7 _ _ rfl (w.heap.size + 1 + 1 + 1) 0 (pnA ⟨9, 0, nilS, 0, x, y, zk⟩).toList _ rfl (Blk.range7 (l := (pnA ⟨9, 0, nilS, 0, x, y, zk⟩).toList) OV.out.1) Try.underlying94 rfl rplan_size) rfl ⟨by rw [HE.out], F0.out.then_only OV.out.2 (.inr (by omega))⟩
  | false =>
    have HU : Hid (writes = true → upkM P a lm = none) := hid_ (by rw [HOP.out] at hcd; exact upk_calm HC6.out HC7.out hcd)
    have HE : Hid (decM P a key lm writes = decR P key) := hid_ (dec_e HG.out HH.out HIN.out HU.out)
    clear hcd
    have p5 : w1.cell? ⟨w.heap.size, 5, none⟩ = some (.bool P.leaf) := B0.out.cell' rfl
    cases hl : P.leaf with
    | true =>
      rw [hl] at p5
      have HL := hid_ hl
      clear hl
      as_aux_lemma =>
      go_wp2_with (refine wpList_store_mid rfl 94 (.tmp 10) (.tmp 173) rfl (w.heap.size + 1 + 1 + 1) 0 (pnA (pnK 10)) rfl rfl (BO.out.there7 rfl) rplan_size (by simp [Value.oneCell']) ?_; have ov := BO.out.over7 (pnA (pnK 10)).toList rfl; obtain ⟨w9, hw9⟩ : ∃ z, z = w1.setCells (w.heap.size + 1 + 1 + 1) 0 (pnA (pnK 10)).toList := ⟨_, rfl⟩; rw [← hw9] at ov; change wpList _ _ _ _ _ (w1.setCells (w.heap.size + 1 + 1 + 1) 0 (pnA (pnK 10)).toList); rw [← hw9]; have OV := hid_ ov; clear hw9 ov)
      refine bodyPost_ret (results_cell7 _ _ rfl (w.heap.size + 1 + 1 + 1) 0 (pnA (pnK 10)).toList _ rfl (Blk.range7 (l := (pnA (pnK 10)).toList) OV.out.1) Try.underlying94 rfl rplan_size) rfl ⟨by rw [show decM P a key lm writes = pnK 10 by rw [HE.out]; exact if_pos HL.out], F0.out.then_only OV.out.2 (.inr (by omega))⟩
    | false =>
      rw [hl] at p5
      have HL := hid_ hl
      clear hl
      have HS := hid_ (HD.out.gp HL.out).s
      go_wp2_with (refine wpList_load_mid rfl 66 (.tmp 175) rfl w.heap.size 12 rfl (vwA P.iv (.slice P.B P.iv.ents.length P.d)).toList _ (pz_range B0.out) Try.underlying66 rfl rvw_size8 ?_)
      refine (rchild_ok P.iv P.B P.d key w1 HP.out.iv HK.out).mono ?_
      rintro e w4 ⟨hh, hf4⟩
      replace B0 := hid_ (B0.out.fr hf4 id)
      replace B1 := hid_ (B1.out.fr hf4 id)
      replace B2 := hid_ (B2.out.fr hf4 id)
      replace BO := hid_ (BO.out.fr hf4 id)
      replace F0 := hid_ (F0.out.then_none hf4)
      replace HP := hid_ (HP.out.keep hf4)
      replace HA := hid_ (HA.out.keep hf4)
      clear hf4 p5
      have hsz4 := BO.out.lt
      have hin' : inS P.iv.low P.iv.high P.iv.unb key = true := by have := HIN.out; simpa [Pz.low, Pz.high, Pz.unb, HL.out] using this
      rcases hh with ⟨p, hc, rfl⟩ | ⟨hc, rfl⟩
      · have HC := hid_ ((rchild_rising (key := key) HS.out.rise).symm.trans hc)
        clear hc hin'
        have HE2 : Hid (decM P a key lm writes = ⟨1, p.2, nilS, 0, 0, 0, nilS⟩) := hid_ (by rw [HE.out]; unfold decR; rw [if_neg (by rw [HL.out]; decide), HC.out])
        go_upto_region 37 with fail
        obtain ⟨w6, hw6⟩ : ∃ z, z = w4.alloc (.cells #[.string p.1, .int .i64 p.2] 64) := ⟨_, rfl⟩
        have f6 : Fr none_ w4 w6 := by rw [hw6]; exact (Fr.refl none_ w4).alloc _
        have B6 : Hid (Blk w6 w4.heap.size 64 #[.string p.1, .int .i64 p.2]) := hid_ (by rw [hw6]; exact Blk.new w4 _ _)
        change Code.wp _ _ _ _ (w4.alloc (.cells #[.string p.1, .int .i64 p.2] 64))
        rw [← hw6]
        clear hw6
        replace B0 := hid_ (B0.out.fr f6 id)
        replace B1 := hid_ (B1.out.fr f6 id)
        replace B2 := hid_ (B2.out.fr f6 id)
        replace BO := hid_ (BO.out.fr f6 id)
        replace F0 := hid_ (F0.out.then_none f6)
        replace HP := hid_ (HP.out.keep f6)
        replace HA := hid_ (HA.out.keep f6)
        have hsz6 := f6.size
        clear f6
        have e1 : w6.cell? ⟨w4.heap.size, 1, none⟩ = some (.int .i64 p.2) := B6.out.cell' rfl
        as_aux_lemma =>
        go_wp2_with (refine wpList_store_mid rfl 94 (.tmp 10) (.tmp 183) rfl (w.heap.size + 1 + 1 + 1) 0 (pnA ⟨1, p.2, nilS, 0, 0, 0, nilS⟩) rfl rfl (BO.out.there7 rfl) rplan_size (by simp [Value.oneCell']) ?_; have ov := BO.out.over7 (pnA ⟨1, p.2, nilS, 0, 0, 0, nilS⟩).toList rfl; obtain ⟨w9, hw9⟩ : ∃ z, z = w6.setCells (w.heap.size + 1 + 1 + 1) 0 (pnA ⟨1, p.2, nilS, 0, 0, 0, nilS⟩).toList := ⟨_, rfl⟩; rw [← hw9] at ov; change wpList _ _ _ _ _ (w6.setCells (w.heap.size + 1 + 1 + 1) 0 (pnA ⟨1, p.2, nilS, 0, 0, 0, nilS⟩).toList); rw [← hw9]; have OV := hid_ ov; clear hw9 ov)
        refine bodyPost_ret (results_cell7 _ _ rfl (w.heap.size + 1 + 1 + 1) 0 (pnA ⟨1, p.2, nilS, 0, 0, 0, nilS⟩).toList _ rfl (Blk.range7 (l := (pnA ⟨1, p.2, nilS, 0, 0, 0, nilS⟩).toList) OV.out.1) Try.underlying94 rfl rplan_size) rfl ⟨by rw [HE2.out], F0.out.then_only OV.out.2 (.inr (by omega))⟩
      · exact absurd (HS.out.child_none ((rchild_rising (key := key) HS.out.rise).symm.trans hc)) (by rw [hin']; decide)
end Go.Proofs.Ytpjbncbmdfmlpaa

/- plan.Back by contract. Written by gen_back11.py. -/
import Derived.Test.YtpjbncbmdfmlpaaLaw11
namespace Go.Proofs.Ytpjbncbmdfmlpaa
open Go.RowKit Go.BigFrame
set_option maxRecDepth 100000
set_option linter.unusedVariables false
theorem bk_a {P : Pz} {high : ByteArray} {unb helps : Bool} (h : (P.leaf && P.lv.gone) = true) : backM P high unb helps = pnK 3 := if_pos h
theorem bk_b {P : Pz} {high : ByteArray} {unb helps : Bool} (h : (P.leaf && P.lv.gone) = false) (h2 : (helps && (!P.leaf && P.iv.held)) = true) : backM P high unb helps = ⟨5, 0, nilS, 0, P.iv.hp, P.iv.hl, P.iv.hk⟩ := by
  unfold backM; rw [if_neg (by rw [h]; decide), if_pos h2]
theorem bk_c {P : Pz} {high : ByteArray} {unb helps : Bool} (h : (P.leaf && P.lv.gone) = false) (h2 : (helps && (!P.leaf && P.iv.held)) = false) (h3 : (!P.unb && (unb || ltS P.high high)) = true) : backM P high unb helps = ⟨2, P.right, nilS, 0, 0, 0, nilS⟩ := by
  unfold backM; rw [if_neg (by rw [h]; decide), if_neg (by rw [h2]; decide), if_pos h3]
theorem bk_d {P : Pz} {high : ByteArray} {unb helps : Bool} (h : (P.leaf && P.lv.gone) = false) (h2 : (helps && (!P.leaf && P.iv.held)) = false) (h3 : (!P.unb && (unb || ltS P.high high)) = false) (h4 : P.leaf = true) : backM P high unb helps = pnK 10 := by
  unfold backM; rw [if_neg (by rw [h]; decide), if_neg (by rw [h2]; decide), if_neg (by rw [h3]; decide), if_pos h4]
theorem bk_e {P : Pz} {high : ByteArray} {unb helps : Bool} (h : (P.leaf && P.lv.gone) = false) (h2 : (helps && (!P.leaf && P.iv.held)) = false) (h3 : (!P.unb && (unb || ltS P.high high)) = false) (h4 : P.leaf = false) (h5 : lastTo P.iv.ents high unb P.iv.ents.length = none) : backM P high unb helps = pnK 3 := by
  unfold backM; rw [if_neg (by rw [h]; decide), if_neg (by rw [h2]; decide), if_neg (by rw [h3]; decide), if_neg (by rw [h4]; decide), h5]
theorem bk_f {P : Pz} {high : ByteArray} {unb helps : Bool} {p : Et} (h : (P.leaf && P.lv.gone) = false) (h2 : (helps && (!P.leaf && P.iv.held)) = false) (h3 : (!P.unb && (unb || ltS P.high high)) = false) (h4 : P.leaf = false) (h5 : lastTo P.iv.ents high unb P.iv.ents.length = some p) : backM P high unb helps = ⟨1, p.2, nilS, 0, 0, 0, nilS⟩ := by
  unfold backM; rw [if_neg (by rw [h]; decide), if_neg (by rw [h2]; decide), if_neg (by rw [h3]; decide), if_neg (by rw [h4]; decide), h5]
set_option maxHeartbeats 8000000 in
theorem back_ok (P : Pz) (high : ByteArray) (unb helps : Bool) (w : World) (h : PzOk w P) (hk : SzOk high) : Calls Try.prog 37 #[.agg (pzA P), .string high, .bool unb, .bool helps] w (RetQ (.agg (pnA (backM P high unb helps))) w) := by
  obtain ⟨w0, hw0⟩ : ∃ z, z = (w.alloc (.cells (pzA P) 45)).alloc (.cells pnZ 81) := ⟨_, rfl⟩
  have f0 : Fr none_ w w0 := by rw [hw0]; exact ((Fr.refl none_ w).alloc _).alloc _
  have B0 : Hid (Blk w0 w.heap.size 45 (pzA P)) := hid_ (by rw [hw0]; exact (Blk.new w _ _).alloc _)
  have BO : Hid (Blk w0 (w.heap.size + 1) 81 pnZ) := hid_ (by rw [hw0]; exact Blk.new7 _ _ (by simp))
  have F0 := hid_ f0
  have HP := hid_ (h.keep f0)
  have HK := hid_ hk
  clear f0 h hk
  go_enter Try.func37, Try.ntmps37
  go_upto_region 1 with fail
  change Code.wp _ _ _ _ ((w.alloc (.cells (pzA P) 45)).alloc (.cells pnZ 81))
  rw [← hw0]
  clear hw0
  go_wp2_with (refine wpList_load_mid rfl 45 (.tmp 4) rfl w.heap.size 0 rfl (pzA P).toList _ (Blk.range7 (l := (pzA P).toList) B0.out) Try.underlying45 rfl page_size ?_)
  refine (bounds_ok P w0).mono ?_
  rintro e w1 ⟨rfl, hf⟩
  replace F0 := hid_ (F0.out.then_none hf)
  replace B0 := hid_ (B0.out.fr hf id)
  replace BO := hid_ (BO.out.fr hf id)
  replace HP := hid_ (HP.out.keep hf)
  clear hf
  have hso := BO.out.lt
  go_upto_region 2 with fail
  go_cut [22] (fun u wq => u = .bool (P.leaf && P.lv.gone) ∧ wq = w1)
  case first =>
    have p5 : w1.cell? ⟨w.heap.size, 5, none⟩ = some (.bool P.leaf) := B0.out.cell' rfl
    have p11 : w1.cell? ⟨w.heap.size, 11, none⟩ = some (.bool P.lv.gone) := B0.out.cell' rfl
    cases hl : P.leaf with
    | false =>
      rw [hl] at p5
      have HL := hid_ hl
      clear hl
      go_wp2_with fail
      go_meet
      case rel => exact ⟨by rw [HL.out]; rfl, rfl⟩
    | true =>
      rw [hl] at p5
      have HL := hid_ hl
      clear hl
      go_wp2_with fail
      go_meet
      case rel => exact ⟨by rw [HL.out]; rfl, rfl⟩
  case rest =>
    obtain ⟨rfl, hwx⟩ := hcut
    subst hwx
    cases hg : (P.leaf && P.lv.gone) with
    | true =>
      have HG := hid_ hg
      clear hg
      go_wp2_with (refine wpList_store_mid rfl 81 (.tmp 8) (.tmp 30) rfl (w.heap.size + 1) 0 (pnA (pnK 3)) rfl rfl (BO.out.there7 rfl) plan_size (by simp [Value.oneCell']) ?_; have ov := BO.out.over7 (pnA (pnK 3)).toList rfl; obtain ⟨w9, hw9⟩ : ∃ z, z = wc.setCells (w.heap.size + 1) 0 (pnA (pnK 3)).toList := ⟨_, rfl⟩; rw [← hw9] at ov; change wpList _ _ _ _ _ (wc.setCells (w.heap.size + 1) 0 (pnA (pnK 3)).toList); rw [← hw9]; have OV := hid_ ov; clear hw9 ov)
      refine bodyPost_ret (results_cell7 _ _ rfl (w.heap.size + 1) 0 (pnA (pnK 3)).toList _ rfl (Blk.range7 (l := (pnA (pnK 3)).toList) OV.out.1) Try.underlying81 rfl plan_size) rfl ⟨?_, F0.out.then_only OV.out.2 (.inr (by omega))⟩
      show Ending.returned (.agg (pnA (pnK 3))) = _
      rw [show backM P high unb helps = _ from bk_a HG.out]
    | false =>
      have HG := hid_ hg
      clear hg
      go_upto_region 4 with fail
      go_cut [31] (fun u wq => u = .bool (helps && (!P.leaf && P.iv.held)) ∧ wq = wc)
      case first =>
        have p5 : wc.cell? ⟨w.heap.size, 5, none⟩ = some (.bool P.leaf) := B0.out.cell' rfl
        have p17 : wc.cell? ⟨w.heap.size, 17, none⟩ = some (.bool P.iv.held) := B0.out.cell' rfl
        cases helps with
        | false =>
          go_wp2_with fail
          go_meet
          case rel => exact ⟨by simp, rfl⟩
        | true =>
          cases hl : P.leaf with
          | true =>
            rw [hl] at p5
            have HL := hid_ hl
            clear hl
            go_wp2_with fail
            go_meet
            case rel => exact ⟨by rw [HL.out]; rfl, rfl⟩
          | false =>
            rw [hl] at p5
            have HL := hid_ hl
            clear hl
            go_wp2_with fail
            go_meet
            case rel => exact ⟨by rw [HL.out]; rfl, rfl⟩
      case rest =>
        obtain ⟨rfl, hwx⟩ := hcut
        subst hwx
        cases hh : (helps && (!P.leaf && P.iv.held)) with
        | true =>
          have HH := hid_ hh
          clear hh
          have p18 : wc.cell? ⟨w.heap.size, 18, none⟩ = some (.int .i64 P.iv.hp) := B0.out.cell' rfl
          have p19 : wc.cell? ⟨w.heap.size, 19, none⟩ = some (.int .i64 P.iv.hl) := B0.out.cell' rfl
          have p20 : wc.cell? ⟨w.heap.size, 20, none⟩ = some (.string P.iv.hk) := B0.out.cell' rfl
          go_wp2_with (refine wpList_store_mid rfl 81 (.tmp 8) (.tmp 46) rfl (w.heap.size + 1) 0 (pnA (⟨5, 0, nilS, 0, P.iv.hp, P.iv.hl, P.iv.hk⟩ : Pn)) rfl rfl (BO.out.there7 rfl) plan_size (by simp [Value.oneCell']) ?_; have ov := BO.out.over7 (pnA (⟨5, 0, nilS, 0, P.iv.hp, P.iv.hl, P.iv.hk⟩ : Pn)).toList rfl; obtain ⟨w9, hw9⟩ : ∃ z, z = wc.setCells (w.heap.size + 1) 0 (pnA (⟨5, 0, nilS, 0, P.iv.hp, P.iv.hl, P.iv.hk⟩ : Pn)).toList := ⟨_, rfl⟩; rw [← hw9] at ov; change wpList _ _ _ _ _ (wc.setCells (w.heap.size + 1) 0 (pnA (⟨5, 0, nilS, 0, P.iv.hp, P.iv.hl, P.iv.hk⟩ : Pn)).toList); rw [← hw9]; have OV := hid_ ov; clear hw9 ov)
          refine bodyPost_ret (results_cell7 _ _ rfl (w.heap.size + 1) 0 (pnA (⟨5, 0, nilS, 0, P.iv.hp, P.iv.hl, P.iv.hk⟩ : Pn)).toList _ rfl (Blk.range7 (l := (pnA (⟨5, 0, nilS, 0, P.iv.hp, P.iv.hl, P.iv.hk⟩ : Pn)).toList) OV.out.1) Try.underlying81 rfl plan_size) rfl ⟨?_, F0.out.then_only OV.out.2 (.inr (by omega))⟩
          show Ending.returned (.agg (pnA (⟨5, 0, nilS, 0, P.iv.hp, P.iv.hl, P.iv.hk⟩ : Pn))) = _
          rw [show backM P high unb helps = _ from bk_b HG.out HH.out]
        | false =>
          have HH := hid_ hh
          clear hh
          obtain ⟨pu, hpu⟩ : ∃ z, P.unb = z := ⟨_, rfl⟩
          go_upto_region 6 with fail
          rw [hpu]
          have HPU := hid_ hpu
          clear hpu
          go_cut [47] (fun u wq => u = .bool (!pu && (unb || ltS P.high high)) ∧ Fr none_ wc wq)
          case first =>
            cases pu with
            | true =>
              go_wp2_with fail
              go_meet
              case rel => exact ⟨by simp, by repeat (first | exact Fr.refl _ _ | apply Fr.drewN | apply Fr.drew)⟩
            | false =>
              cases unb with
              | true =>
                go_wp2_with fail
                go_meet
                case rel => exact ⟨by simp, by repeat (first | exact Fr.refl _ _ | apply Fr.drewN | apply Fr.drew)⟩
              | false =>
                go_wp2_with fail
                refine (compare_ok P.high high wc HP.out.high_.le HK.out.le).mono ?_
                rintro e w2 ⟨rfl, q, hw2⟩
                have hf : Fr none_ wc w2 := by rw [hw2]; exact (Fr.refl none_ wc).drewN q
                have hc := cmp_neg P.high high
                go_wp2_with fail
                go_meet
                case rel => exact ⟨by simp, by repeat (first | exact hf | exact Fr.refl _ _ | apply Fr.drewN | apply Fr.drew)⟩
          case rest =>
            obtain ⟨rfl, hf⟩ := hcut
            rw [← HPU.out]
            obtain ⟨w3, hnw⟩ : ∃ z, z = wc := ⟨_, rfl⟩
            rw [← hnw] at hf ⊢
            clear hnw
            replace F0 := hid_ (F0.out.then_none hf)
            replace B0 := hid_ (B0.out.fr hf id)
            replace BO := hid_ (BO.out.fr hf id)
            replace HP := hid_ (HP.out.keep hf)
            clear hf
            have hso := BO.out.lt
            cases hb : (!P.unb && (unb || ltS P.high high)) with
            | true =>
              have HB := hid_ hb
              clear hb
              go_wp2_with (refine wpList_store_mid rfl 81 (.tmp 8) (.tmp 60) rfl (w.heap.size + 1) 0 (pnA (⟨2, P.right, nilS, 0, 0, 0, nilS⟩ : Pn)) rfl rfl (BO.out.there7 rfl) plan_size (by simp [Value.oneCell']) ?_; have ov := BO.out.over7 (pnA (⟨2, P.right, nilS, 0, 0, 0, nilS⟩ : Pn)).toList rfl; obtain ⟨w9, hw9⟩ : ∃ z, z = w3.setCells (w.heap.size + 1) 0 (pnA (⟨2, P.right, nilS, 0, 0, 0, nilS⟩ : Pn)).toList := ⟨_, rfl⟩; rw [← hw9] at ov; change wpList _ _ _ _ _ (w3.setCells (w.heap.size + 1) 0 (pnA (⟨2, P.right, nilS, 0, 0, 0, nilS⟩ : Pn)).toList); rw [← hw9]; have OV := hid_ ov; clear hw9 ov)
              refine bodyPost_ret (results_cell7 _ _ rfl (w.heap.size + 1) 0 (pnA (⟨2, P.right, nilS, 0, 0, 0, nilS⟩ : Pn)).toList _ rfl (Blk.range7 (l := (pnA (⟨2, P.right, nilS, 0, 0, 0, nilS⟩ : Pn)).toList) OV.out.1) Try.underlying81 rfl plan_size) rfl ⟨?_, F0.out.then_only OV.out.2 (.inr (by omega))⟩
              show Ending.returned (.agg (pnA (⟨2, P.right, nilS, 0, 0, 0, nilS⟩ : Pn))) = _
              rw [show backM P high unb helps = _ from bk_c HG.out HH.out HB.out]
            | false =>
              have HB := hid_ hb
              clear hb
              have p5 : w3.cell? ⟨w.heap.size, 5, none⟩ = some (.bool P.leaf) := B0.out.cell' rfl
              cases hl : P.leaf with
              | true =>
                rw [hl] at p5
                have HL := hid_ hl
                clear hl
                go_wp2_with (refine wpList_store_mid rfl 81 (.tmp 8) (.tmp 64) rfl (w.heap.size + 1) 0 (pnA (pnK 10)) rfl rfl (BO.out.there7 rfl) plan_size (by simp [Value.oneCell']) ?_; have ov := BO.out.over7 (pnA (pnK 10)).toList rfl; obtain ⟨w9, hw9⟩ : ∃ z, z = w3.setCells (w.heap.size + 1) 0 (pnA (pnK 10)).toList := ⟨_, rfl⟩; rw [← hw9] at ov; change wpList _ _ _ _ _ (w3.setCells (w.heap.size + 1) 0 (pnA (pnK 10)).toList); rw [← hw9]; have OV := hid_ ov; clear hw9 ov)
                refine bodyPost_ret (results_cell7 _ _ rfl (w.heap.size + 1) 0 (pnA (pnK 10)).toList _ rfl (Blk.range7 (l := (pnA (pnK 10)).toList) OV.out.1) Try.underlying81 rfl plan_size) rfl ⟨?_, F0.out.then_only OV.out.2 (.inr (by omega))⟩
                show Ending.returned (.agg (pnA (pnK 10))) = _
                rw [show backM P high unb helps = _ from bk_d HG.out HH.out HB.out HL.out]
              | false =>
                rw [hl] at p5
                have HL := hid_ hl
                clear hl
                have hlen : P.iv.ents.length ≤ 1000 := HP.out.iv.ok.ents.1
                have p16 : w3.cell? ⟨w.heap.size, 16, none⟩ = some (.slice P.B P.iv.ents.length P.d) := B0.out.cell' rfl
                go_wp2_with fail
                go_loopw [13] (fun i wr => ∃ k : Nat, k ≤ P.iv.ents.length ∧ i = .int .i64 ((k : Int) - 1) ∧ lastTo P.iv.ents high unb P.iv.ents.length = lastTo P.iv.ents high unb k ∧ Fr none_ w3 wr) (fun i _ => (intOf i + 1).toNat)
                case atStart => exact ⟨P.iv.ents.length, Nat.le_refl _, rfl, rfl, Fr.refl _ _⟩
                case round =>
                  obtain ⟨k, hk, rfl, hall, hfr⟩ := hrel
                  have HA := hid_ hall
                  have FR := hid_ hfr
                  have BR : Hid (Blk wr (w.heap.size + 1) 81 pnZ) := hid_ (BO.out.fr hfr id)
                  have p16 : wr.cell? ⟨w.heap.size, 16, none⟩ = some (.slice P.B P.iv.ents.length P.d) := (B0.out.fr hfr id).cell' rfl
                  have HV := hid_ (HP.out.iv.keep hfr)
                  clear hall hfr
                  rcases Nat.eq_zero_or_pos k with h0 | h0
                  · subst h0
                    have HN : Hid (lastTo P.iv.ents high unb P.iv.ents.length = none) := hid_ HA.out
                    replace F0 := hid_ (F0.out.then_none FR.out)
                    replace BO := hid_ BR.out
                    have hso := BO.out.lt
                    go_wp2_with (refine wpList_store_mid rfl 81 (.tmp 8) (.tmp 91) rfl (w.heap.size + 1) 0 (pnA (pnK 3)) rfl rfl (BO.out.there7 rfl) plan_size (by simp [Value.oneCell']) ?_; have ov := BO.out.over7 (pnA (pnK 3)).toList rfl; obtain ⟨w9, hw9⟩ : ∃ z, z = wr.setCells (w.heap.size + 1) 0 (pnA (pnK 3)).toList := ⟨_, rfl⟩; rw [← hw9] at ov; change wpList _ _ _ _ _ (wr.setCells (w.heap.size + 1) 0 (pnA (pnK 3)).toList); rw [← hw9]; have OV := hid_ ov; clear hw9 ov)
                    refine bodyPost_ret (results_cell7 _ _ rfl (w.heap.size + 1) 0 (pnA (pnK 3)).toList _ rfl (Blk.range7 (l := (pnA (pnK 3)).toList) OV.out.1) Try.underlying81 rfl plan_size) rfl ⟨?_, F0.out.then_only OV.out.2 (.inr (by omega))⟩
                    show Ending.returned (.agg (pnA (pnK 3))) = _
                    rw [show backM P high unb helps = _ from bk_e HG.out HH.out HB.out HL.out HN.out]
                  · obtain ⟨j, rfl⟩ : ∃ j, k = j + 1 := ⟨k - 1, by omega⟩
                    have hj : ((j + 1 : Nat) : Int) - 1 = (j : Int) := by omega
                    rw [hj]
                    clear hj h0
                    have hi0 : (0 : Int) ≤ (j : Int) := Int.natCast_nonneg _
                    have hi1 : (j : Int) < (P.iv.ents.length : Int) := by omega
                    obtain ⟨p, hp⟩ : ∃ p, P.iv.ents[j]? = some p := ⟨_, List.getElem?_eq_getElem (by omega)⟩
                    obtain ⟨eb, eo, hA, heb, c0, c1⟩ := et_at HV.out.rd hp
                    rw [hA] at p16
                    have HPJ := hid_ hp
                    have hz1 : SzOk p.1 := HP.out.iv.ok.ents.2 p (List.mem_of_getElem? hp)
                    have HZ := hid_ hz1
                    clear hp hz1 hA
                    go_upto_region 14 with fail
                    obtain ⟨w4, hw4⟩ : ∃ z, z = wr.alloc (.cells #[.string p.1, .int .i64 p.2] 64) := ⟨_, rfl⟩
                    have f4 : Fr none_ wr w4 := by rw [hw4]; exact (Fr.refl none_ wr).alloc _
                    have BE : Hid (Blk w4 wr.heap.size 64 #[.string p.1, .int .i64 p.2]) := hid_ (by rw [hw4]; exact Blk.new wr _ _)
                    change Code.wp _ _ _ _ (wr.alloc (.cells #[.string p.1, .int .i64 p.2] 64))
                    rw [← hw4]
                    clear hw4 p16 c0 c1
                    replace FR := hid_ (FR.out.then_none f4)
                    replace BR := hid_ (BR.out.fr f4 id)
                    clear f4
                    go_cut [87] (fun u wq => u = .bool (unb || ltS p.1 high) ∧ Fr none_ w4 wq)
                    case first =>
                      have e0 : w4.cell? ⟨wr.heap.size, 0, none⟩ = some (.string p.1) := BE.out.cell' rfl
                      cases unb with
                      | true =>
                        go_wp2_with fail
                        go_meet
                        case rel => exact ⟨by simp, by repeat (first | exact Fr.refl _ _ | apply Fr.drewN | apply Fr.drew)⟩
                      | false =>
                        go_wp2_with fail
                        refine (compare_ok p.1 high w4 HZ.out.le HK.out.le).mono ?_
                        rintro e w5 ⟨rfl, q, hw5⟩
                        have hf : Fr none_ w4 w5 := by rw [hw5]; exact (Fr.refl none_ w4).drewN q
                        have hc := cmp_neg p.1 high
                        go_wp2_with fail
                        go_meet
                        case rel => exact ⟨by simp, by repeat (first | exact hf | exact Fr.refl _ _ | apply Fr.drewN | apply Fr.drew)⟩
                    case rest =>
                    obtain ⟨rfl, hf⟩ := hcut
                    obtain ⟨w6, hnw⟩ : ∃ z, z = wc := ⟨_, rfl⟩
                    rw [← hnw] at hf ⊢
                    clear hnw
                    replace FR := hid_ (FR.out.then_none hf)
                    replace BR := hid_ (BR.out.fr hf id)
                    have e1 : w6.cell? ⟨wr.heap.size, 1, none⟩ = some (.int .i64 p.2) := (BE.out.fr hf id).cell' rfl
                    clear hf
                    have hso := BR.out.lt
                    cases ht : (unb || ltS p.1 high) with
                    | true =>
                      have HN : Hid (lastTo P.iv.ents high unb P.iv.ents.length = some p) := hid_ (by rw [HA.out]; exact last_hit HPJ.out ht)
                      clear ht
                      replace F0 := hid_ (F0.out.then_none FR.out)
                      replace BO := hid_ BR.out
                      go_wp2_with (refine wpList_store_mid rfl 81 (.tmp 8) (.tmp 90) rfl (w.heap.size + 1) 0 (pnA (⟨1, p.2, nilS, 0, 0, 0, nilS⟩ : Pn)) rfl rfl (BO.out.there7 rfl) plan_size (by simp [Value.oneCell']) ?_; have ov := BO.out.over7 (pnA (⟨1, p.2, nilS, 0, 0, 0, nilS⟩ : Pn)).toList rfl; obtain ⟨w9, hw9⟩ : ∃ z, z = w6.setCells (w.heap.size + 1) 0 (pnA (⟨1, p.2, nilS, 0, 0, 0, nilS⟩ : Pn)).toList := ⟨_, rfl⟩; rw [← hw9] at ov; change wpList _ _ _ _ _ (w6.setCells (w.heap.size + 1) 0 (pnA (⟨1, p.2, nilS, 0, 0, 0, nilS⟩ : Pn)).toList); rw [← hw9]; have OV := hid_ ov; clear hw9 ov)
                      refine bodyPost_ret (results_cell7 _ _ rfl (w.heap.size + 1) 0 (pnA (⟨1, p.2, nilS, 0, 0, 0, nilS⟩ : Pn)).toList _ rfl (Blk.range7 (l := (pnA (⟨1, p.2, nilS, 0, 0, 0, nilS⟩ : Pn)).toList) OV.out.1) Try.underlying81 rfl plan_size) rfl ⟨?_, F0.out.then_only OV.out.2 (.inr (by omega))⟩
                      show Ending.returned (.agg (pnA (⟨1, p.2, nilS, 0, 0, 0, nilS⟩ : Pn))) = _
                      rw [show backM P high unb helps = _ from bk_f HG.out HH.out HB.out HL.out HN.out]
                    | false =>
                      have HN : Hid (lastTo P.iv.ents high unb P.iv.ents.length = lastTo P.iv.ents high unb j) := hid_ (by rw [HA.out]; exact last_miss HPJ.out ht)
                      clear ht
                      go_wp2_with fail
                      go_roundw
                      case rel => exact ⟨j, by omega, by go_num, HN.out, FR.out⟩
                      case measure => first | (simp [intOf]; done) | (simp [intOf]; omega)
end Go.Proofs.Ytpjbncbmdfmlpaa

/- PlanLast of layer 11. Written by gen_last11.py. -/
import Derived.Test.YtpjbncbmdfmlpaaEq11
namespace Go.Proofs.Ytpjbncbmdfmlpaa
open Go.RowKit Go.BigFrame
set_option maxRecDepth 100000
set_option linter.unusedVariables false
theorem of_sound {P : Pz} {l : List Rc} (h : ofM l = some (P.leaf, P.lv, P.iv)) (hl : P.leaf = false) : Good P.iv := by
  unfold ofM at h
  split at h
  · cases hf : foldL l with
    | none => rw [hf] at h; cases h
    | some v =>
      rw [hf] at h
      have h1 : (true, v, Vw.zero) = (P.leaf, P.lv, P.iv) := Option.some.inj h
      have h2 := congrArg Prod.fst h1
      rw [hl] at h2; cases h2
  · cases hf : foldU l with
    | none => rw [hf] at h; cases h
    | some v =>
      rw [hf] at h
      have h1 : (false, Lw.zero, v) = (P.leaf, P.lv, P.iv) := Option.some.inj h
      have h2 : v = P.iv := congrArg (fun x => x.2.2) h1
      rw [← h2]
      exact fold_good hf
set_option maxHeartbeats 8000000 in
theorem last11_law (c : Cz) (L1 L2 : List Ch) (w : World) (h : CzIn w c L1 L2) : Calls Try.prog 9 #[.agg (czA c)] w (RetQ (.bool true) w) := by
  obtain ⟨w0, hw0⟩ : ∃ z, z = w.alloc (.cells (czA c) 75) := ⟨_, rfl⟩
  have f0 : Fr none_ w w0 := by rw [hw0]; exact (Fr.refl none_ w).alloc _
  have BC := hid_ (show Blk w0 w.heap.size 75 (czA c) by rw [hw0]; exact Blk.new w _ _)
  have F := hid_ f0
  have H := hid_ (h.keep f0)
  clear f0 h
  go_enter Try.func9, Try.ntmps9
  go_upto_region 1 with fail
  change Code.wp _ _ _ _ (w.alloc (.cells (czA c) 75))
  rw [← hw0]
  clear hw0
  go_wp2_with (refine wpList_load_mid rfl 75 (.tmp 1) rfl w.heap.size 0 rfl (czA c).toList _ (Blk.range7 (l := (czA c).toList) BC.out) Try.underlying75 rfl case_size ?_)
  refine (cfew_ok c L1 L2 w0 H.out).mono ?_
  rintro e w1 ⟨b, rfl, hb, hf⟩
  have G0 := hid_ hb
  replace F := hid_ (F.out.then_none hf)
  replace BC := hid_ (BC.out.fr hf id)
  replace H := hid_ (H.out.keep hf)
  clear hb hf
  cases b with
  | false =>
    go_wp2_with fail
    refine (awake11_ok w1).mono ?_
    rintro e w2 ⟨rfl, hf⟩
    go_wp2
    go_ret
    exact ⟨rfl, F.out.then_none hf⟩
  | true =>
    have HF := hid_ (G0.out rfl)
    clear G0
    go_wp2_with (refine wpList_load_mid rfl 75 (.tmp 1) rfl w.heap.size 0 rfl (czA c).toList _ (Blk.range7 (l := (czA c).toList) BC.out) Try.underlying75 rfl case_size ?_)
    refine (made11_ok c L1 L2 w1 H.out HF.out).mono ?_
    rintro e w2 ⟨pv, a, ok, rfl, hsz, hoc, hvi, hfu, hf, hok⟩
    have VI := hid_ hvi
    have FU := hid_ hfu
    have HOK := hid_ hok
    have HSZ := hid_ hsz
    have HOC := hid_ hoc
    replace F := hid_ (F.out.then_none hf)
    replace BC := hid_ (BC.out.fr hf id)
    replace H := hid_ (H.out.keep hf)
    have hsw := BC.out.lt
    clear hf hvi hfu hok hsz hoc
    have hwB : Hid (w.heap.size ≤ w2.heap.size ∧ w.heap.size ≤ w2.heap.size + 1) := hid_ (by omega)
    go_upto_region 4 with (first | (obtain ⟨w3, hw3⟩ : ∃ z, z = ((w2.alloc (.cells pgZ 45)).alloc (.cells azZ 77)) := ⟨_, rfl⟩; have BZ : Hid (Blk w3 w2.heap.size 45 pgZ ∧ Blk w3 (w2.heap.size + 1) 77 azZ ∧ Fr none_ w2 w3) := hid_ (by rw [hw3]; exact ⟨(Blk.new w2 _ _).alloc _, Blk.new7 _ _ (by simp), ((Fr.refl none_ w2).alloc _).alloc _⟩); change wpList _ _ _ _ _ ((w2.alloc (.cells pgZ 45)).alloc (.cells azZ 77)); rw [← hw3]; clear hw3; refine wpList_store_mid rfl 45 (.tmp 3) (.tmp 13) rfl w2.heap.size 0 pv rfl rfl (by rw [HSZ.out]; exact BZ.out.1.there7 rfl) (by rw [HSZ.out]; exact page_size) HOC.out ?_; have ov := BZ.out.1.over7 pv.toList (by rw [Array.length_toList, HSZ.out]; rfl); obtain ⟨w4, hw4⟩ : ∃ z, z = w3.setCells w2.heap.size 0 pv.toList := ⟨_, rfl⟩; change wpList _ _ _ _ _ (w3.setCells w2.heap.size 0 pv.toList); rw [← hw4] at ov ⊢; clear hw4; have OV := hid_ ov; clear ov) | (refine wpList_store_mid rfl 77 (.tmp 4) (.tmp 14) rfl (w2.heap.size + 1) 0 (azA a) rfl rfl ((BZ.out.2.1.fr OV.out.2 (only_ne (by omega))).there7 rfl) above_size7 (by simp [Value.oneCell']) ?_; have ow := (BZ.out.2.1.fr OV.out.2 (only_ne (by omega))).over7 (azA a).toList rfl; obtain ⟨w5, hw5⟩ : ∃ z, z = w4.setCells (w2.heap.size + 1) 0 (azA a).toList := ⟨_, rfl⟩; change wpList _ _ _ _ _ (w4.setCells (w2.heap.size + 1) 0 (azA a).toList); rw [← hw5] at ow ⊢; clear hw5; have OW := hid_ ow; clear ow))
    have F5 : Hid (Fr none_ w w5) := hid_ (((F.out.then_none BZ.out.2.2).then_only OV.out.2 (.inr hwB.out.1)).then_only OW.out.2 (.inr hwB.out.2))
    have BA := hid_ OW.out.1
    have BP := hid_ (OV.out.1.fr OW.out.2 (only_ne (by omega)))
    have B5 := hid_ (((BC.out.fr BZ.out.2.2 id).fr OV.out.2 (only_ne (by omega))).fr OW.out.2 (only_ne (by omega)))
    have V5 : Hid (VwIn w5 a.V a.B a.d) := hid_ (((VI.out.keep BZ.out.2.2).farZ BZ.out.1 OV.out.2).farA (BZ.out.2.1.fr OV.out.2 (only_ne (by omega))) OW.out.2)
    clear hwB
    go_cut [43] (fun u wq => ∃ b, u = .bool b ∧ (b = false → ok = true ∧ ∃ P p, pv = pzA P ∧ PzOk w5 P ∧ P.leaf = false ∧ P.iv.unb = true ∧ Sound P.iv ∧ P.iv.ents[P.iv.ents.length - 1]? = some p ∧ ltS c.key p.1 = false) ∧ Fr none_ w5 wq)
    case first =>
      cases ok with
      | false =>
        go_wp2_with fail
        go_quiet (fail)
        go_wp2
        go_meet
        case rel => exact ⟨_, rfl, (fun h => by cases h), by repeat (first | exact Fr.refl _ _ | apply Fr.drewN | apply Fr.drew)⟩
      | true =>
        obtain ⟨P, hpe, hpo, hpn, hpc, hpof⟩ := HOK.out rfl
        have HPE := hid_ hpe
        have PO := hid_ hpo
        have HOF := hid_ (And.intro hpn (And.intro hpc hpof))
        clear hpe hpo hpn hpc hpof
        have P5 : Hid (PzOk w5 P) := hid_ (by have h4 := PO.out; exact ⟨h4.low, h4.high, h4.rows, ((h4.iv.keep BZ.out.2.2).farZ BZ.out.1 OV.out.2).farA (BZ.out.2.1.fr OV.out.2 (only_ne (by omega))) OW.out.2, h4.nc⟩)
        have K5 := hid_ (H.out.key)
        rw [HPE.out] at BP
        have p5 : w5.cell? ⟨w2.heap.size, 5, none⟩ = some (.bool P.leaf) := BP.out.cell' rfl
        have p14 : w5.cell? ⟨w2.heap.size, 14, none⟩ = some (.bool P.iv.unb) := BP.out.cell' rfl
        cases hl : P.leaf with
        | true =>
          rw [hl] at p5
          clear hl
          go_wp2_with fail
          go_quiet (fail)
          go_wp2
          go_meet
          case rel => exact ⟨_, rfl, (fun h => by cases h), by repeat (first | exact Fr.refl _ _ | apply Fr.drewN | apply Fr.drew)⟩
        | false =>
          rw [hl] at p5
          have HL := hid_ hl
          clear hl
          cases hu : P.iv.unb with
          | false =>
            rw [hu] at p14
            clear hu
            go_wp2_with fail
            go_quiet (fail)
            go_wp2
            go_meet
            case rel => exact ⟨_, rfl, (fun h => by cases h), by repeat (first | exact Fr.refl _ _ | apply Fr.drewN | apply Fr.drew)⟩
          | true =>
            rw [hu] at p14
            have HU := hid_ hu
            clear hu
            have HG := hid_ (of_sound HOF.out.2.2 HL.out)
            have hpos := HG.out.s.pos
            have hlen : P.iv.ents.length ≤ 1000 := P5.out.iv.ok.ents.1
            obtain ⟨k, hk⟩ : ∃ k : Nat, P.iv.ents.length = k + 1 := ⟨P.iv.ents.length - 1, by omega⟩
            obtain ⟨p, hp⟩ : ∃ p, P.iv.ents[k]? = some p := ⟨_, List.getElem?_eq_getElem (by omega)⟩
            have HP1 : Hid (P.iv.ents[P.iv.ents.length - 1]? = some p) := hid_ (by rw [hk]; exact hp)
            obtain ⟨eb, eo, hA, heb, c0, c1⟩ := et_at P5.out.iv.rd hp
            have p16 : w5.cell? ⟨w2.heap.size, 16, none⟩ = some (.slice P.B P.iv.ents.length P.d) := BP.out.cell' rfl
            rw [hA] at p16
            obtain ⟨n, hn⟩ : ∃ n, P.iv.ents.length = n := ⟨_, rfl⟩
            rw [hn] at p16 hk hlen
            have HN := hid_ hn
            have hsub : ((n : Nat) : Int) - 1 = (k : Int) := by omega
            have hi0 : (0 : Int) ≤ (k : Int) := Int.natCast_nonneg _
            have hi1 : (k : Int) < ((n : Nat) : Int) := by omega
            have k4 : w5.cell? ⟨w.heap.size, 4, none⟩ = some (.string c.key) := B5.out.cell' rfl
            have hbl := bl_ltS c.key p.1
            have HP := hid_ hp
            clear hp hA hn hpos hk
            cases ht : ltS c.key p.1 with
            | true =>
              rw [ht] at hbl
              clear ht
              go_wp2_with fail
              go_quiet (fail)
              go_wp2
              go_meet
              case rel => exact ⟨_, rfl, (fun h => by cases h), by repeat (first | exact Fr.refl _ _ | apply Fr.drewN | apply Fr.drew)⟩
            | false =>
              rw [ht] at hbl
              have HT := hid_ ht
              clear ht
              go_wp2_with fail
              go_quiet (fail)
              go_wp2
              go_meet
              case rel => exact ⟨_, rfl, (fun _ => ⟨by first | trivial | rfl, P, p, HPE.out, P5.out, HL.out, HU.out, HG.out.s, HP1.out, HT.out⟩), by repeat (first | exact Fr.refl _ _ | apply Fr.drewN | apply Fr.drew)⟩
    case rest =>
      obtain ⟨b, rfl, hb, hf⟩ := hcut
      have HB := hid_ hb
      clear hb
      obtain ⟨w6, hnw⟩ : ∃ z, z = wc := ⟨_, rfl⟩
      rw [← hnw] at hf ⊢
      clear hnw
      cases b with
      | true =>
        go_wp2_with fail
        refine (awake11_ok w6).mono ?_
        rintro e w7 ⟨rfl, hf7⟩
        go_wp2
        go_ret
        exact ⟨rfl, (F5.out.then_none hf).then_none hf7⟩
      | false =>
        obtain ⟨hok, P, p, hpe, hpo, h1, h2, h3, h4, h5⟩ := HB.out rfl
        subst hok
        have BP := hid_ BP.out
        rw [hpe] at BP
        have HD := hid_ (dec_last (P := P) (a := a) (key := c.key) (l := c.l) h1 h2 h3 h4 h5)
        have HK := hid_ (back_last (P := P) h1 h2 h4)
        have P6 := hid_ (hpo.keep hf)
        have V6 := hid_ (V5.out.keep hf)
        have K6 := hid_ (H.out.key)
        have BP6 := hid_ (BP.out.fr hf id)
        have BA6 := hid_ (BA.out.fr hf id)
        have B6 := hid_ (B5.out.fr hf id)
        have F6 := hid_ (F5.out.then_none hf)
        clear h1 h2 h3 h4 h5 hpo hf HB
        go_upto_region 6 with fail
        refine wp_region_q7 (fun w' => Fr none_ w6 w') (by kernel_rfl) (by kernel_rfl) (Fr.refl none_ w6).drew ?_
        refine q_mid7 (some 45) (pzA P).toList 45 (.tmp 3) w2.heap.size 0 _ rfl (by kernel_rfl) rfl (by kernel_rfl) (fun w' hC => Blk.range7 (l := (pzA P).toList) (BP6.out.fr hC id)) Try.underlying45 rfl (page_size) ?_
        refine q_call7 (some 46) (.agg (pnA (⟨1, p.2, nilS, 0, 0, 0, nilS⟩ : Pn))) 37 #[.agg (pzA P), .string ⟨#[]⟩, .bool true, .bool false] rfl (by kernel_rfl) (fun w' hC => by kernel_rfl) (fun w' hC => ((back_ok P nilS true false w' (P6.out.keep hC) (Nat.zero_le _)).mono (fun e w2 h => ⟨by rw [h.1, HK.out], hC.then_none h.2⟩))) ?_
        refine q_mid7 (some 47) (pzA P).toList 45 (.tmp 3) w2.heap.size 0 _ rfl (by kernel_rfl) rfl (by kernel_rfl) (fun w' hC => Blk.range7 (l := (pzA P).toList) (BP6.out.fr hC id)) Try.underlying45 rfl (page_size) ?_
        refine q_mid7 (some 48) (azA a).toList 77 (.tmp 4) (w2.heap.size + 1) 0 _ rfl (by kernel_rfl) rfl (by kernel_rfl) (fun w' hC => Blk.range7 (l := (azA a).toList) (BA6.out.fr hC id)) Try.underlying77 rfl (above_size7) ?_
        refine q_val7 (some 49) (.pointer (some ⟨w.heap.size, 4, none⟩)) rfl (by kernel_rfl) (fun w' hC => by kernel_rfl) ?_
        refine q_cell7 (some 50) (.string c.key) 9 (.tmp 49) ⟨w.heap.size, 4, none⟩ _ rfl (by kernel_rfl) rfl (by kernel_rfl) (fun w' hC => (B6.out.fr hC id).cell' rfl) Try.underlying9 rfl ?_
        refine q_val7 (some 51) (.pointer (some ⟨w.heap.size, 5, none⟩)) rfl (by kernel_rfl) (fun w' hC => by kernel_rfl) ?_
        refine q_mid7 (some 52) (l6A c.l).toList 28 (.tmp 51) w.heap.size 5 _ rfl (by kernel_rfl) rfl (by kernel_rfl) (fun w' hC => lim_range c (B6.out.fr hC id)) Try.underlying28 rfl (lim_size7) ?_
        refine q_call7 (some 53) (.agg (pnA (⟨1, p.2, nilS, 0, 0, 0, nilS⟩ : Pn))) 31 #[.agg (pzA P), .agg (azA a), .string c.key, .agg (l6A c.l), .bool false] rfl (by kernel_rfl) (fun w' hC => by kernel_rfl) (fun w' hC => ((decide_ok P a c.key c.l false w' (P6.out.keep hC) (V6.out.keep hC) K6.out (fun h => by cases h)).mono (fun e w2 h => ⟨by rw [h.1, HD.out], hC.then_none h.2⟩))) ?_
        refine q_op7 (some 54) (.bool true) (do eqGuard .eql 81 (.tmp 46) (.tmp 53) (.agg (pnA (⟨1, p.2, nilS, 0, 0, 0, nilS⟩ : Pn))) (.agg (pnA (⟨1, p.2, nilS, 0, 0, 0, nilS⟩ : Pn))); binOp .eql 81 (.agg (pnA (⟨1, p.2, nilS, 0, 0, 0, nilS⟩ : Pn))) (.agg (pnA (⟨1, p.2, nilS, 0, 0, 0, nilS⟩ : Pn)))) rfl (by kernel_rfl) (by kernel_rfl) (fun w' hC => eql_pg _ _ _ w' (by kernel_rfl)) ?_
        refine q_val7 (some 55) (.bool true) rfl (by kernel_rfl) (fun w' hC => by kernel_rfl) ?_
        refine q_call7 (some 56) (.bool true) 28 #[] rfl (by kernel_rfl) (fun w' hC => by kernel_rfl) (fun w' hC => ((awake11_ok w').mono (fun e w2 h => ⟨h.1, hC.then_none h.2⟩))) ?_
        refine q_val7 (some 57) (.bool true) rfl (by kernel_rfl) (fun w' hC => by kernel_rfl) ?_
        refine q_val7 (some 2) (.bool true) rfl (by kernel_rfl) (fun w' hC => by kernel_rfl) ?_
        refine q_done7 ?_
        intro w7 hf7
        replace F6 := hid_ (F6.out.then_none hf7)
        clear hf7
        go_wp2
        go_ret
        exact ⟨rfl, F6.out⟩
end Go.Proofs.Ytpjbncbmdfmlpaa

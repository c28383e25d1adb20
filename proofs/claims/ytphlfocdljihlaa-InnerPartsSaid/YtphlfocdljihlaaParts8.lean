/- InnerParts' walk. Written by gen_parts8.py. -/
import Derived.Test.YtphlfocdljihlaaTree8
namespace Go.Proofs.Ytphlfocdljihlaa
open Go.RowKit Go.BigFrame Go.ChangeShapes Go.WideShapes
set_option maxRecDepth 100000
set_option linter.unusedVariables false

set_option maxHeartbeats 8000000 in
theorem parts8_walk (A : Option Addr) (n cap : Nat) (L : List Ch) (page : Int) (key : ByteArray) (hks : SzOk key) (w : World) (h : InReads w A n L) (hm : n ≤ maxLen) :
    Calls Try.prog 5 #[.slice A n cap, .int .i64 page, .string key] w fun e w' => e = .returned (.bool true) ∧ Fr none_ w w' := by
  obtain ⟨i0, hi0, hz0, hs0, hb0⟩ := info_parts record_info
  have Hi := hid_ (And.intro hi0 (And.intro hz0 (And.intro hs0 hb0)))
  clear hi0 hz0 hs0 hb0
  obtain rfl : L.length = n := h.1
  have H := hid_ h
  have H0 := H
  have F := hid_ (Fr.refl none_ w)
  clear h
  go_enter Try.func5, Try.ntmps5
  go_wp2_with fail
  refine (few8_ok A L.length cap L _ H.out hm).mono ?_
  rintro e w1 ⟨b, rfl, hb, hf1⟩
  have HB := hid_ hb
  replace H := hid_ (H.out.keep hf1)
  replace F := hid_ (F.out.then_none hf1)
  clear hb hf1
  cases b with
  | false =>
    go_wp2_with fail
    refine (awake8 _).mono ?_
    rintro e w9 ⟨rfl, hf9⟩
    have F9 := hid_ hf9
    clear hf9
    go_wp2_with fail
    go_ret
    exact ⟨rfl, (F.out).then_none F9.out⟩
  | true =>
    have hfo := HB.out (by first | rfl | trivial)
    have h40 := hfo.1
    have HE := hid_ (few_ents hfo)
    clear hfo HB
    by_cases hg : (100 : Int) < (key.size : Int)
    · have hd : decide ((100 : Int) < (key.size : Int)) = true := by simpa using hg
      clear hg
      go_wp2_with fail
      refine (awake8 _).mono ?_
      rintro e w9 ⟨rfl, hf9⟩
      have F9 := hid_ hf9
      clear hf9
      go_wp2_with fail
      go_ret
      exact ⟨rfl, (F.out).then_none F9.out⟩
    have hd : decide ((100 : Int) < (key.size : Int)) = false := by simpa using hg
    clear hg
    go_wp2_with fail
    refine (own8_ok A L.length cap L _ (H.out.few HE.out) (by omega) (in_rows H.out)).mono ?_
    rintro e w2 ⟨A2, c2, Cs, rfl, hCs, hown, hco, hf2⟩
    have CR := hid_ (And.intro hown hco)
    have HM := hid_ hCs
    replace H := hid_ (H.out.keep hf2)
    replace F := hid_ (F.out.then_none hf2)
    clear hCs hown hco hf2
    have HCE := hid_ (map_ents HM.out HE.out)
    go_wp2_with fail
    refine (fold_ok A2 L.length c2 Cs _ (own_ch HM.out CR.out) (by omega) (fun C hC => by have := HCE.out C hC; omega)).mono ?_
    rintro e w3 (⟨V, A3, c3, hkk, hfo, rfl, hvin, hheld, hf3⟩ | ⟨k, hk, hno, rfl, hf3⟩)
    rotate_left
    · skip
      replace H := hid_ (H.out.keep hf3)
      replace F := hid_ (F.out.then_none hf3)
      replace CR := hid_ (And.intro (own_none CR.out.1 hf3) (fun C hC => (CR.out.2 C hC).keep hf3))
      clear hf3 hno
      go_wp2_with fail
      refine (split_ok Vw.zero page none 0 _ (zero_in _)).mono ?_
      rintro e w4 (⟨k2, hk2, rfl, hf4⟩ | ⟨_, _, _, _, h2, _⟩)
      rotate_left
      · exact absurd h2 (by show ¬ (2 ≤ 0); omega)
      have hg4 := ((Fr.refl none_ w3).alloc _).then_none hf4
      replace H := hid_ (H.out.keep hg4)
      replace F := hid_ (F.out.then_none hg4)
      replace CR := hid_ (And.intro (own_none CR.out.1 hg4) (fun C hC => (CR.out.2 C hC).keep hg4))
      have hk0 := hk2.ne
      clear hf4 hg4 hk2 hk0
      go_wp2_with (first | (refine wpList_store_mid rfl 39 (.tmp 9) (.tmp 41) rfl w4.heap.size 0 (recL ⟨Rc.zero, none, 0, none, 0⟩).toArray rfl rfl ((two_new1 w4 39 recZ8).there0 rfl) rec_size8 (rec_one ⟨Rc.zero, none, 0, none, 0⟩) ?_; obtain ⟨wz0, hz0⟩ : ∃ x, x = (((w4.alloc (.cells recZ8 39)).alloc (.cells recZ8 39))).setCells (w4.heap.size) 0 (recL ⟨Rc.zero, none, 0, none, 0⟩) := ⟨_, rfl⟩; have ov := (two_new1 w4 39 recZ8).over (recL ⟨Rc.zero, none, 0, none, 0⟩) rfl; have K1 := hid_ ov.1; have K2 := hid_ ((two_new2 w4 39 recZ8).fr ov.2 (only_ne (by omega))); have FZ := hid_ ((two_fr w4 39 recZ8).then_only ov.2 (.inr (Nat.le_refl _))); rw [← hz0] at K1 K2 FZ; change wpList _ _ _ _ _ ((((w4.alloc (.cells recZ8 39)).alloc (.cells recZ8 39))).setCells (w4.heap.size) 0 (recL ⟨Rc.zero, none, 0, none, 0⟩)); rw [← hz0]; clear hz0 ov) | (refine wpList_store_mid rfl 39 (.tmp 10) (.tmp 42) rfl (w4.heap.size + 1) 0 (recL ⟨Rc.zero, none, 0, none, 0⟩).toArray rfl rfl (K2.out.there0 rfl) rec_size8 (rec_one ⟨Rc.zero, none, 0, none, 0⟩) ?_; obtain ⟨w6, hz0⟩ : ∃ x, x = wz0.setCells (w4.heap.size + 1) 0 (recL ⟨Rc.zero, none, 0, none, 0⟩) := ⟨_, rfl⟩; have ov := K2.out.over (recL ⟨Rc.zero, none, 0, none, 0⟩) rfl; rw [← hz0] at ov; change wpList _ _ _ _ _ (wz0.setCells (w4.heap.size + 1) 0 (recL ⟨Rc.zero, none, 0, none, 0⟩)); rw [← hz0]; clear hz0; replace K2 := hid_ ov.1; replace K1 := hid_ (K1.out.fr ov.2 (only_ne (by omega))); replace FZ := hid_ (FZ.out.then_only ov.2 (.inr (by omega))); clear ov))
      replace H := hid_ (H.out.keep FZ.out)
      replace F := hid_ (F.out.then_none FZ.out)
      replace CR := hid_ (And.intro (own_none CR.out.1 FZ.out) (fun C hC => (CR.out.2 C hC).keep FZ.out))
      refine (awake8 _).mono ?_
      rintro e w9 ⟨rfl, hf9⟩
      have F9 := hid_ hf9
      clear hf9
      go_wp2_with fail
      go_ret
      exact ⟨rfl, (F.out).then_none F9.out⟩
    have hlen : V.ents.length ≤ 140 := by
      have h1 := fold_len (b := 100) hfo (fun R hR => by
        obtain ⟨C, hC, rfl⟩ := List.mem_map.1 hR
        exact HCE.out C hC)
      have h2 := congrArg List.length HM.out
      simp only [List.length_map] at h1 h2
      omega
    have G := hid_ (fold_good hfo)
    have HFO := hid_ (And.intro hkk hfo)
    have VI := hid_ hvin
    replace H := hid_ (H.out.keep hf3)
    replace F := hid_ (F.out.then_none hf3)
    replace CR := hid_ (And.intro (own_none CR.out.1 hf3) (fun C hC => (CR.out.2 C hC).keep hf3))
    have hsz := F.out.size
    have HSZ := hid_ hsz
    clear hsz hfo hkk hheld hvin hf3
    have VI0 := VI
    have FV := hid_ (Fr.refl none_ w3)
    clear CR
    go_upto_region 4 with fail
    obtain ⟨w4, hw4⟩ : ∃ z, z = w3.alloc (.cells (vwA V (.slice A3 V.ents.length c3)) 29) := ⟨_, rfl⟩
    have fw4 : Fr none_ w3 w4 := by rw [hw4]; exact (Fr.refl none_ w3).alloc _
    have BV : Hid (Blk w4 w3.heap.size 29 (vwA V (.slice A3 V.ents.length c3))) := hid_ (by rw [hw4]; exact Blk.new w3 _ _)
    replace H := hid_ (H.out.keep fw4)
    replace F := hid_ (F.out.then_none fw4)
    replace VI := hid_ (VI.out.keep fw4)
    replace FV := hid_ (FV.out.then_none fw4)
    change Code.wp _ _ _ _ (w3.alloc (.cells (vwA V (.slice A3 V.ents.length c3)) 29))
    rw [← hw4]
    clear hw4 fw4
    have v0 : w4.cell? ⟨w3.heap.size, 0, none⟩ = some (.string V.low) := BV.out.cell' rfl
    have v1 : w4.cell? ⟨w3.heap.size, 1, none⟩ = some (.string V.high) := BV.out.cell' rfl
    have v2 : w4.cell? ⟨w3.heap.size, 2, none⟩ = some (.bool V.unb) := BV.out.cell' rfl
    have v3 : w4.cell? ⟨w3.heap.size, 3, none⟩ = some (.int .i64 V.right) := BV.out.cell' rfl
    have v4 : w4.cell? ⟨w3.heap.size, 4, none⟩ = some (.slice A3 V.ents.length c3) := BV.out.cell' rfl
    have v5 : w4.cell? ⟨w3.heap.size, 5, none⟩ = some (.bool V.held) := BV.out.cell' rfl
    have v6 : w4.cell? ⟨w3.heap.size, 6, none⟩ = some (.int .i64 V.hp) := BV.out.cell' rfl
    have v7 : w4.cell? ⟨w3.heap.size, 7, none⟩ = some (.int .i64 V.hl) := BV.out.cell' rfl
    have v8 : w4.cell? ⟨w3.heap.size, 8, none⟩ = some (.string V.hk) := BV.out.cell' rfl
    go_wp2_with fail
    refine (split_ok V page A3 c3 _ VI.out).mono ?_
    rintro e w5 (⟨k2, hk2, rfl, hf5⟩ | ⟨q, X2, x2, hvh, h2, hq, rfl, ho2, ok2, hf5⟩)
    · skip
      replace H := hid_ (H.out.keep hf5)
      replace F := hid_ (F.out.then_none hf5)
      replace VI := hid_ (VI.out.keep hf5)
      replace FV := hid_ (FV.out.then_none hf5)
      replace BV := hid_ (BV.out.fr hf5 id)
      have hk0 := hk2.ne
      clear hf5 hk2 hk0
      clear v0 v1 v2 v3 v4 v5 v6 v7 v8
      go_wp2_with (first | (refine wpList_store_mid rfl 39 (.tmp 9) (.tmp 41) rfl w5.heap.size 0 (recL ⟨Rc.zero, none, 0, none, 0⟩).toArray rfl rfl ((two_new1 w5 39 recZ8).there0 rfl) rec_size8 (rec_one ⟨Rc.zero, none, 0, none, 0⟩) ?_; obtain ⟨wz0, hz0⟩ : ∃ x, x = (((w5.alloc (.cells recZ8 39)).alloc (.cells recZ8 39))).setCells (w5.heap.size) 0 (recL ⟨Rc.zero, none, 0, none, 0⟩) := ⟨_, rfl⟩; have ov := (two_new1 w5 39 recZ8).over (recL ⟨Rc.zero, none, 0, none, 0⟩) rfl; have K1 := hid_ ov.1; have K2 := hid_ ((two_new2 w5 39 recZ8).fr ov.2 (only_ne (by omega))); have FZ := hid_ ((two_fr w5 39 recZ8).then_only ov.2 (.inr (Nat.le_refl _))); rw [← hz0] at K1 K2 FZ; change wpList _ _ _ _ _ ((((w5.alloc (.cells recZ8 39)).alloc (.cells recZ8 39))).setCells (w5.heap.size) 0 (recL ⟨Rc.zero, none, 0, none, 0⟩)); rw [← hz0]; clear hz0 ov) | (refine wpList_store_mid rfl 39 (.tmp 10) (.tmp 42) rfl (w5.heap.size + 1) 0 (recL ⟨Rc.zero, none, 0, none, 0⟩).toArray rfl rfl (K2.out.there0 rfl) rec_size8 (rec_one ⟨Rc.zero, none, 0, none, 0⟩) ?_; obtain ⟨w6, hz0⟩ : ∃ x, x = wz0.setCells (w5.heap.size + 1) 0 (recL ⟨Rc.zero, none, 0, none, 0⟩) := ⟨_, rfl⟩; have ov := K2.out.over (recL ⟨Rc.zero, none, 0, none, 0⟩) rfl; rw [← hz0] at ov; change wpList _ _ _ _ _ (wz0.setCells (w5.heap.size + 1) 0 (recL ⟨Rc.zero, none, 0, none, 0⟩)); rw [← hz0]; clear hz0; replace K2 := hid_ ov.1; replace K1 := hid_ (K1.out.fr ov.2 (only_ne (by omega))); replace FZ := hid_ (FZ.out.then_only ov.2 (.inr (by omega))); clear ov))
      replace H := hid_ (H.out.keep FZ.out)
      replace F := hid_ (F.out.then_none FZ.out)
      replace VI := hid_ (VI.out.keep FZ.out)
      replace FV := hid_ (FV.out.then_none FZ.out)
      replace BV := hid_ (BV.out.fr FZ.out id)
      refine (awake8 _).mono ?_
      rintro e w9 ⟨rfl, hf9⟩
      have F9 := hid_ hf9
      clear hf9
      go_wp2_with fail
      go_ret
      exact ⟨rfl, (F.out).then_none F9.out⟩
    have O2 := hid_ ho2
    have OK := hid_ ok2
    have HQ := hid_ (And.intro hvh (And.intro h2 hq))
    replace H := hid_ (H.out.keep hf5)
    replace F := hid_ (F.out.then_none hf5)
    replace VI := hid_ (VI.out.keep hf5)
    replace FV := hid_ (FV.out.then_none hf5)
    replace BV := hid_ (BV.out.fr hf5 id)
    clear hf5 ho2 ok2 hvh hq
    clear v0 v1 v2 v3 v4 v5 v6 v7 v8
    go_upto_region 5 with (first | (refine wpList_store_mid rfl 39 (.tmp 9) (.tmp 41) rfl w5.heap.size 0 (recL ⟨splitR q.1 page, none, 0, none, 0⟩).toArray rfl rfl ((two_new1 w5 39 recZ8).there0 rfl) rec_size8 (rec_one ⟨splitR q.1 page, none, 0, none, 0⟩) ?_; obtain ⟨wz0, hz0⟩ : ∃ x, x = (((w5.alloc (.cells recZ8 39)).alloc (.cells recZ8 39))).setCells (w5.heap.size) 0 (recL ⟨splitR q.1 page, none, 0, none, 0⟩) := ⟨_, rfl⟩; have ov := (two_new1 w5 39 recZ8).over (recL ⟨splitR q.1 page, none, 0, none, 0⟩) rfl; have K1 := hid_ ov.1; have K2 := hid_ ((two_new2 w5 39 recZ8).fr ov.2 (only_ne (by omega))); have FZ := hid_ ((two_fr w5 39 recZ8).then_only ov.2 (.inr (Nat.le_refl _))); rw [← hz0] at K1 K2 FZ; change wpList _ _ _ _ _ ((((w5.alloc (.cells recZ8 39)).alloc (.cells recZ8 39))).setCells (w5.heap.size) 0 (recL ⟨splitR q.1 page, none, 0, none, 0⟩)); rw [← hz0]; clear hz0 ov) | (refine wpList_store_mid rfl 39 (.tmp 10) (.tmp 42) rfl (w5.heap.size + 1) 0 (recL ⟨baseR (rightV V (V.ents.length / 2) q.1), none, 0, X2, x2⟩).toArray rfl rfl (K2.out.there0 rfl) rec_size8 (rec_one ⟨baseR (rightV V (V.ents.length / 2) q.1), none, 0, X2, x2⟩) ?_; obtain ⟨w6, hz0⟩ : ∃ x, x = wz0.setCells (w5.heap.size + 1) 0 (recL ⟨baseR (rightV V (V.ents.length / 2) q.1), none, 0, X2, x2⟩) := ⟨_, rfl⟩; have ov := K2.out.over (recL ⟨baseR (rightV V (V.ents.length / 2) q.1), none, 0, X2, x2⟩) rfl; rw [← hz0] at ov; change wpList _ _ _ _ _ (wz0.setCells (w5.heap.size + 1) 0 (recL ⟨baseR (rightV V (V.ents.length / 2) q.1), none, 0, X2, x2⟩)); rw [← hz0]; clear hz0; replace K2 := hid_ ov.1; replace K1 := hid_ (K1.out.fr ov.2 (only_ne (by omega))); replace FZ := hid_ (FZ.out.then_only ov.2 (.inr (by omega))); clear ov))
    replace H := hid_ (H.out.keep FZ.out)
    replace F := hid_ (F.out.then_none FZ.out)
    replace VI := hid_ (VI.out.keep FZ.out)
    replace FV := hid_ (FV.out.then_none FZ.out)
    replace BV := hid_ (BV.out.fr FZ.out id)
    replace O2 := hid_ (own_none O2.out FZ.out)
    have R1 := hid_ K1.out
    have R2 := hid_ K2.out
    clear K1 K2 FZ
    have hn0 : V.ents.length / 2 ≠ 0 := by omega
    have HN0 := hid_ hn0
    have S2 := hid_ (rightV_sound G.out.s HQ.out.2.2)
    have UP := hid_ (parts_left G.out.s HQ.out.1 hn0 HQ.out.2.2 page)
    have hql : SzOk q.1 := VI.out.ok.ents.2 q (List.mem_of_getElem? HQ.out.2.2)
    have HQL := hid_ hql
    have hl2 : (rightV V (V.ents.length / 2) q.1).ents.length ≤ 140 := by show (List.drop _ _).length ≤ 140; simp; omega
    have HL2 := hid_ hl2
    clear hl2 hql hn0 h2
    go_upto_region 7 with fail
    go_cut [12, 13] (fun u v wq => ∃ (b : Nat) (A5 : Option Addr) (c5 : Nat), u = .pointer (some ⟨b, 0, none⟩) ∧ v = .nilIface ∧ w6.heap.size ≤ b ∧ Blk wq b 29 (vwA (leftV V (V.ents.length / 2) q.1 page) (.slice A5 (leftV V (V.ents.length / 2) q.1 page).ents.length c5)) ∧ VwIn wq (leftV V (V.ents.length / 2) q.1 page) A5 c5 ∧ Fr none_ w6 wq)
    case first =>
      skip
      have hS1 : (fun w' : World => Fr none_ w6 w') w6.drew := (Fr.refl none_ w6).drew
      refine wp_region_U (m := 12) (S := (fun w' : World => Fr none_ w6 w')) (by kernel_rfl) ?_
      refine wpAnyU_take2 (i := 0) (v := _) rfl (by kernel_rfl) (by kernel_rfl) (by kernel_rfl) (by kernel_rfl) (fun _ _ _ h => h) (.inl ⟨by kernel_rfl, fun w' hS => by have s_0 : w'.cell? ⟨w5.heap.size, 0, none⟩ = some (.int .i64 (splitR q.1 page).kind) := cellFr (R1.out.cell' rfl) hS; have s_1 : w'.cell? ⟨w5.heap.size, 1, none⟩ = some (.string (splitR q.1 page).low) := cellFr (R1.out.cell' rfl) hS; have s_2 : w'.cell? ⟨w5.heap.size, 2, none⟩ = some (.string (splitR q.1 page).high) := cellFr (R1.out.cell' rfl) hS; have s_3 : w'.cell? ⟨w5.heap.size, 3, none⟩ = some (.bool (splitR q.1 page).unb) := cellFr (R1.out.cell' rfl) hS; have s_4 : w'.cell? ⟨w5.heap.size, 4, none⟩ = some (.int .i64 (splitR q.1 page).right) := cellFr (R1.out.cell' rfl) hS; have s_5 : w'.cell? ⟨w5.heap.size, 5, none⟩ = some (.slice none 0 0) := cellFr (R1.out.cell' rfl) hS; have s_6 : w'.cell? ⟨w5.heap.size, 6, none⟩ = some (.slice none 0 0) := cellFr (R1.out.cell' rfl) hS; have s_7 : w'.cell? ⟨w5.heap.size, 7, none⟩ = some (.string (splitR q.1 page).key) := cellFr (R1.out.cell' rfl) hS; have s_8 : w'.cell? ⟨w5.heap.size, 8, none⟩ = some (.string (splitR q.1 page).val) := cellFr (R1.out.cell' rfl) hS; have s_9 : w'.cell? ⟨w5.heap.size, 9, none⟩ = some (.int .i64 (splitR q.1 page).page) := cellFr (R1.out.cell' rfl) hS; have s_10 : w'.cell? ⟨w5.heap.size, 10, none⟩ = some (.int .i64 (splitR q.1 page).hpage) := cellFr (R1.out.cell' rfl) hS; have s_11 : w'.cell? ⟨w5.heap.size, 11, none⟩ = some (.int .i64 (splitR q.1 page).hleft) := cellFr (R1.out.cell' rfl) hS; have s_12 : w'.cell? ⟨w5.heap.size, 12, none⟩ = some (.string (splitR q.1 page).hkey) := cellFr (R1.out.cell' rfl) hS; have s_13 : w'.cell? ⟨w5.heap.size, 13, none⟩ = some (.int .i64 (splitR q.1 page).nslot) := cellFr (R1.out.cell' rfl) hS; have s_14 : w'.cell? ⟨w5.heap.size, 14, none⟩ = some (.int .i64 (splitR q.1 page).ngen) := cellFr (R1.out.cell' rfl) hS; go_simp; rfl⟩) hS1 ?_
      refine wpAnyU_take2 (i := 2) (v := _) rfl (by kernel_rfl) (by kernel_rfl) (by kernel_rfl) (by kernel_rfl) (fun _ _ _ h => h) (.inl ⟨by kernel_rfl, fun w' hS => by go_simp; rfl⟩) hS1 ?_
      have FS := hid_ ((Fr.refl none_ w6).drew)
      obtain ⟨we, hwe⟩ : ∃ z, z = w6.drew := ⟨_, rfl⟩
      rw [← hwe] at FS
      change wpAnyU _ _ _ _ _ _ _ _ _ w6.drew
      rw [← hwe]
      clear hwe hS1
      refine wpAnyU_three (i := 1) (j := 3) (l := 9) rfl rfl rfl rfl rfl rfl (by kernel_rfl) ?_ ?_ ?_
      · skip
        go_simp
        have HG := hid_ FS.out.size
        obtain ⟨wt1, hz⟩ : ∃ z, z = we.alloc (.cells (recL ⟨splitR q.1 page, none, 0, none, 0⟩).toArray 39) := ⟨_, rfl⟩
        have fz : Fr none_ we wt1 := by rw [hz]; exact (Fr.refl none_ we).alloc _
        have BP : Hid (Blk wt1 we.heap.size 39 (recL ⟨splitR q.1 page, none, 0, none, 0⟩).toArray) := hid_ (by rw [hz]; exact Blk.new we _ _)
        replace FS := hid_ (FS.out.then_none fz)
        change Fr none_ w6 (we.alloc (.cells (recL ⟨splitR q.1 page, none, 0, none, 0⟩).toArray 39)) ∧ wpAnyU _ _ _ _ _ _ _ _ _ (we.alloc (.cells (recL ⟨splitR q.1 page, none, 0, none, 0⟩).toArray 39))
        rw [← hz]
        refine ⟨FS.out, ?_⟩
        clear hz fz
        refine wpAnyU_two (i := 3) (j := 9) rfl rfl rfl rfl (by kernel_rfl) ?_ ?_
        · skip
          go_simp
          refine (own8_ok A L.length cap L _ (((H.out.keep FS.out)).few HE.out) (by omega) (in_rows (H.out.keep FS.out))).mono ?_
          rintro e wt2 ⟨A9, c9, Ds, rfl, hCs, hown, hco, hf2⟩
          have DR := hid_ (And.intro hown hco)
          have DM := hid_ hCs
          replace BP := hid_ (BP.out.fr hf2 id)
          replace FS := hid_ (FS.out.then_none hf2)
          refine ⟨FS.out, ?_⟩
          clear hCs hown hco hf2
          refine wpAnyU_two (i := 4) (j := 9) rfl rfl rfl rfl (by kernel_rfl) ?_ ?_
          · skip
            refine wp_append_any _ (.tmp 53) (.tmp 55) 22 rfl 0 39 i0 _ 15 192 Try.underlying22 Hi.out.1 Hi.out.2.1 Hi.out.2.2.1 Hi.out.2.2.2 rfl (by omega) (.slice (some ⟨we.heap.size, 0, none⟩) 1 1) 1 (recL ⟨splitR q.1 page, none, 0, none, 0⟩) rfl (own_rec BP.out) A9 L.length c9 (recFlat Ds) rfl (Reads.of_own DR.out.1) (recFlat_one _) (by simp only [maxLen]; omega) (by omega) (Nat.zero_le _) ?_
            intro A7 c7 wt3 hown hgr
            obtain ⟨hch, hfb⟩ := push_chain DM.out rfl BP.out DR.out hown hgr (bare_ok rfl rfl SzOk.nil SzOk.nil HQL.out SzOk.nil)
            have CH := hid_ hch
            replace FS := hid_ (FS.out.then_only hfb (.inr HG.out))
            refine ⟨.inr FS.out, ?_⟩
            clear hch hfb hown hgr DR BP
            refine wpAnyU_two (i := 5) (j := 9) rfl rfl rfl rfl (by kernel_rfl) ?_ ?_
            · skip
              go_simp
              have hpf : foldU ((⟨splitR q.1 page, none, 0, none, 0⟩ :: Ds).map (·.R)) = some (leftV V (V.ents.length / 2) q.1 page) := (fold_push_of HM.out DM.out HFO.out.2 _).trans (UP.out)
              have KP := hid_ (kind_push HM.out DM.out HFO.out.1 (R := splitR q.1 page) ⟨by show (7 : Int) ≤ 9; decide, by show (9 : Int) ≤ 11; decide⟩ (P := ⟨splitR q.1 page, none, 0, none, 0⟩) rfl)
              refine (fold_ok A7 (1 + L.length) c7 (⟨splitR q.1 page, none, 0, none, 0⟩ :: Ds) _ CH.out (by omega) (ents_push DM.out HE.out (Nat.zero_le _))).mono ?_
              rintro e wt4 (⟨W, A5, c5, -, hfo, rfl, hvin, -, hff⟩ | ⟨kk, -, hno, rfl, hff⟩)
              rotate_left
              · rw [hno KP.out] at hpf
                cases hpf
              obtain rfl : (leftV V (V.ents.length / 2) q.1 page) = W := Option.some.inj (hpf.symm.trans hfo)
              have WI := hid_ hvin
              replace FS := hid_ (FS.out.then_none hff)
              refine ⟨FS.out, ?_⟩
              clear hfo hvin hff hpf KP CH
              refine wpAnyU_take2 (i := 6) (v := _) rfl (by kernel_rfl) (by kernel_rfl) (by kernel_rfl) (by kernel_rfl) (fun _ _ _ h => h) (.inl ⟨by kernel_rfl, fun w' hS => by go_simp; rfl⟩) FS.out ?_
              refine wpAnyU_take2 (i := 7) (v := _) rfl (by kernel_rfl) (by kernel_rfl) (by kernel_rfl) (by kernel_rfl) (fun _ _ _ h => h) (.inl ⟨by kernel_rfl, fun w' hS => by go_simp; rfl⟩) FS.out ?_
              refine wpAnyU_take2 (i := 8) (v := _) rfl (by kernel_rfl) (by kernel_rfl) (by kernel_rfl) (by kernel_rfl) (fun _ _ _ h => h) (.inl ⟨by kernel_rfl, fun w' hS => by go_simp; rfl⟩) FS.out ?_
              refine wpAnyU_oneG (i := 9) rfl (by kernel_rfl) (by kernel_rfl) ?_
              go_simp
              have HA := hid_ FS.out.size
              obtain ⟨wt5, hz⟩ : ∃ z, z = wt4.alloc (.cells (vwA Vw.zero (.slice none 0 0)) 29) := ⟨_, rfl⟩
              have fz : Fr none_ wt4 wt5 := by rw [hz]; exact (Fr.refl none_ wt4).alloc _
              have BA : Hid (Blk wt5 wt4.heap.size 29 (vwA Vw.zero (.slice none 0 0))) := hid_ (by rw [hz]; exact Blk.new wt4 _ _)
              replace WI := hid_ (WI.out.keep fz)
              replace FS := hid_ (FS.out.then_none fz)
              change Fr none_ w6 (wt4.alloc (.cells (vwA Vw.zero (.slice none 0 0)) 29)) ∧ wpAnyU _ _ _ _ _ _ _ _ _ (wt4.alloc (.cells (vwA Vw.zero (.slice none 0 0)) 29))
              rw [← hz]
              refine ⟨FS.out, ?_⟩
              clear hz fz
              refine wpAnyU_oneG (i := 10) rfl (by kernel_rfl) (by kernel_rfl) ?_
              refine wp_store_mid 29 (.tmp 12) (.tmp 58) rfl wt4.heap.size 0 (vwA (leftV V (V.ents.length / 2) q.1 page) (.slice A5 (leftV V (V.ents.length / 2) q.1 page).ents.length c5)) rfl rfl (BA.out.there0 rfl) view_sz8 (by simp [Value.oneCell']) ?_
              obtain ⟨wf, hz⟩ : ∃ z, z = wt5.setCells (wt4.heap.size) 0 (vwA (leftV V (V.ents.length / 2) q.1 page) (.slice A5 (leftV V (V.ents.length / 2) q.1 page).ents.length c5)).toList := ⟨_, rfl⟩
              have ov := BA.out.over (vwA (leftV V (V.ents.length / 2) q.1 page) (.slice A5 (leftV V (V.ents.length / 2) q.1 page).ents.length c5)).toList rfl
              rw [← hz] at ov
              have fS := FS.out.then_only ov.2 (.inr HA.out)
              refine ⟨.inr (by rw [← hz]; exact fS), ?_⟩
              change wpAnyU _ _ _ _ _ _ _ _ _ (wt5.setCells (wt4.heap.size) 0 (vwA (leftV V (V.ents.length / 2) q.1 page) (.slice A5 (leftV V (V.ents.length / 2) q.1 page).ents.length c5)).toList)
              rw [← hz]
              clear hz
              have WJ := hid_ (WI.out.far BA.out ov.2)
              have OV := hid_ (show Blk wf (wt4.heap.size) 29 (vwA (leftV V (V.ents.length / 2) q.1 page) (.slice A5 (leftV V (V.ents.length / 2) q.1 page).ents.length c5)) from ov.1)
              refine wpAnyU_take2 (i := 11) (v := _) rfl (by kernel_rfl) (by kernel_rfl) (by kernel_rfl) (by kernel_rfl) (fun _ _ _ h => h) (.inl ⟨by kernel_rfl, fun w' hS => by go_simp; rfl⟩) fS ?_
              refine wpAnyU_done (by kernel_rfl) ?_ _
              go_wp2_with fail
              go_meet
              exact ⟨_, A5, c5, rfl, rfl, HA.out, OV.out, WJ.out, fS⟩
            · skip
              go_simp
              have HA := hid_ FS.out.size
              obtain ⟨wt6, hz⟩ : ∃ z, z = wt3.alloc (.cells (vwA Vw.zero (.slice none 0 0)) 29) := ⟨_, rfl⟩
              have fz : Fr none_ wt3 wt6 := by rw [hz]; exact (Fr.refl none_ wt3).alloc _
              have BA : Hid (Blk wt6 wt3.heap.size 29 (vwA Vw.zero (.slice none 0 0))) := hid_ (by rw [hz]; exact Blk.new wt3 _ _)
              replace CH := hid_ (CH.out.keep fz)
              replace FS := hid_ (FS.out.then_none fz)
              change Fr none_ w6 (wt3.alloc (.cells (vwA Vw.zero (.slice none 0 0)) 29)) ∧ wpAnyU _ _ _ _ _ _ _ _ _ (wt3.alloc (.cells (vwA Vw.zero (.slice none 0 0)) 29))
              rw [← hz]
              refine ⟨FS.out, ?_⟩
              clear hz fz
              refine wpAnyU_oneG (i := 5) rfl (by kernel_rfl) (by kernel_rfl) ?_
              go_simp
              have hpf : foldU ((⟨splitR q.1 page, none, 0, none, 0⟩ :: Ds).map (·.R)) = some (leftV V (V.ents.length / 2) q.1 page) := (fold_push_of HM.out DM.out HFO.out.2 _).trans (UP.out)
              have KP := hid_ (kind_push HM.out DM.out HFO.out.1 (R := splitR q.1 page) ⟨by show (7 : Int) ≤ 9; decide, by show (9 : Int) ≤ 11; decide⟩ (P := ⟨splitR q.1 page, none, 0, none, 0⟩) rfl)
              refine (fold_ok A7 (1 + L.length) c7 (⟨splitR q.1 page, none, 0, none, 0⟩ :: Ds) _ CH.out (by omega) (ents_push DM.out HE.out (Nat.zero_le _))).mono ?_
              rintro e wt7 (⟨W, A5, c5, -, hfo, rfl, hvin, -, hff⟩ | ⟨kk, -, hno, rfl, hff⟩)
              rotate_left
              · rw [hno KP.out] at hpf
                cases hpf
              obtain rfl : (leftV V (V.ents.length / 2) q.1 page) = W := Option.some.inj (hpf.symm.trans hfo)
              have WI := hid_ hvin
              replace BA := hid_ (BA.out.fr hff id)
              replace FS := hid_ (FS.out.then_none hff)
              refine ⟨FS.out, ?_⟩
              clear hfo hvin hff hpf KP CH
              refine wpAnyU_take2 (i := 6) (v := _) rfl (by kernel_rfl) (by kernel_rfl) (by kernel_rfl) (by kernel_rfl) (fun _ _ _ h => h) (.inl ⟨by kernel_rfl, fun w' hS => by go_simp; rfl⟩) FS.out ?_
              refine wpAnyU_take2 (i := 7) (v := _) rfl (by kernel_rfl) (by kernel_rfl) (by kernel_rfl) (by kernel_rfl) (fun _ _ _ h => h) (.inl ⟨by kernel_rfl, fun w' hS => by go_simp; rfl⟩) FS.out ?_
              refine wpAnyU_take2 (i := 8) (v := _) rfl (by kernel_rfl) (by kernel_rfl) (by kernel_rfl) (by kernel_rfl) (fun _ _ _ h => h) (.inl ⟨by kernel_rfl, fun w' hS => by go_simp; rfl⟩) FS.out ?_
              refine wpAnyU_oneG (i := 10) rfl (by kernel_rfl) (by kernel_rfl) ?_
              refine wp_store_mid 29 (.tmp 12) (.tmp 58) rfl wt3.heap.size 0 (vwA (leftV V (V.ents.length / 2) q.1 page) (.slice A5 (leftV V (V.ents.length / 2) q.1 page).ents.length c5)) rfl rfl (BA.out.there0 rfl) view_sz8 (by simp [Value.oneCell']) ?_
              obtain ⟨wf, hz⟩ : ∃ z, z = wt7.setCells (wt3.heap.size) 0 (vwA (leftV V (V.ents.length / 2) q.1 page) (.slice A5 (leftV V (V.ents.length / 2) q.1 page).ents.length c5)).toList := ⟨_, rfl⟩
              have ov := BA.out.over (vwA (leftV V (V.ents.length / 2) q.1 page) (.slice A5 (leftV V (V.ents.length / 2) q.1 page).ents.length c5)).toList rfl
              rw [← hz] at ov
              have fS := FS.out.then_only ov.2 (.inr HA.out)
              refine ⟨.inr (by rw [← hz]; exact fS), ?_⟩
              change wpAnyU _ _ _ _ _ _ _ _ _ (wt7.setCells (wt3.heap.size) 0 (vwA (leftV V (V.ents.length / 2) q.1 page) (.slice A5 (leftV V (V.ents.length / 2) q.1 page).ents.length c5)).toList)
              rw [← hz]
              clear hz
              have WJ := hid_ (WI.out.far BA.out ov.2)
              have OV := hid_ (show Blk wf (wt3.heap.size) 29 (vwA (leftV V (V.ents.length / 2) q.1 page) (.slice A5 (leftV V (V.ents.length / 2) q.1 page).ents.length c5)) from ov.1)
              refine wpAnyU_take2 (i := 11) (v := _) rfl (by kernel_rfl) (by kernel_rfl) (by kernel_rfl) (by kernel_rfl) (fun _ _ _ h => h) (.inl ⟨by kernel_rfl, fun w' hS => by go_simp; rfl⟩) fS ?_
              refine wpAnyU_done (by kernel_rfl) ?_ _
              go_wp2_with fail
              go_meet
              exact ⟨_, A5, c5, rfl, rfl, HA.out, OV.out, WJ.out, fS⟩
          · skip
            go_simp
            have HA := hid_ FS.out.size
            obtain ⟨wt8, hz⟩ : ∃ z, z = wt2.alloc (.cells (vwA Vw.zero (.slice none 0 0)) 29) := ⟨_, rfl⟩
            have fz : Fr none_ wt2 wt8 := by rw [hz]; exact (Fr.refl none_ wt2).alloc _
            have BA : Hid (Blk wt8 wt2.heap.size 29 (vwA Vw.zero (.slice none 0 0))) := hid_ (by rw [hz]; exact Blk.new wt2 _ _)
            replace BP := hid_ (BP.out.fr fz id)
            replace DR := hid_ (And.intro (own_none DR.out.1 fz) (fun C hC => (DR.out.2 C hC).keep fz))
            replace FS := hid_ (FS.out.then_none fz)
            change Fr none_ w6 (wt2.alloc (.cells (vwA Vw.zero (.slice none 0 0)) 29)) ∧ wpAnyU _ _ _ _ _ _ _ _ _ (wt2.alloc (.cells (vwA Vw.zero (.slice none 0 0)) 29))
            rw [← hz]
            refine ⟨FS.out, ?_⟩
            clear hz fz
            refine wpAnyU_oneG (i := 4) rfl (by kernel_rfl) (by kernel_rfl) ?_
            refine wp_append_any _ (.tmp 53) (.tmp 55) 22 rfl 0 39 i0 _ 15 192 Try.underlying22 Hi.out.1 Hi.out.2.1 Hi.out.2.2.1 Hi.out.2.2.2 rfl (by omega) (.slice (some ⟨we.heap.size, 0, none⟩) 1 1) 1 (recL ⟨splitR q.1 page, none, 0, none, 0⟩) rfl (own_rec BP.out) A9 L.length c9 (recFlat Ds) rfl (Reads.of_own DR.out.1) (recFlat_one _) (by simp only [maxLen]; omega) (by omega) (Nat.zero_le _) ?_
            intro A7 c7 wt9 hown hgr
            obtain ⟨hch, hfb⟩ := push_chain DM.out rfl BP.out DR.out hown hgr (bare_ok rfl rfl SzOk.nil SzOk.nil HQL.out SzOk.nil)
            have CH := hid_ hch
            replace BA := hid_ (BA.out.fr hfb (only_ne (Blk.ne_ BA.out BP.out (by decide))))
            replace FS := hid_ (FS.out.then_only hfb (.inr HG.out))
            refine ⟨.inr FS.out, ?_⟩
            clear hch hfb hown hgr DR BP
            refine wpAnyU_oneG (i := 5) rfl (by kernel_rfl) (by kernel_rfl) ?_
            go_simp
            have hpf : foldU ((⟨splitR q.1 page, none, 0, none, 0⟩ :: Ds).map (·.R)) = some (leftV V (V.ents.length / 2) q.1 page) := (fold_push_of HM.out DM.out HFO.out.2 _).trans (UP.out)
            have KP := hid_ (kind_push HM.out DM.out HFO.out.1 (R := splitR q.1 page) ⟨by show (7 : Int) ≤ 9; decide, by show (9 : Int) ≤ 11; decide⟩ (P := ⟨splitR q.1 page, none, 0, none, 0⟩) rfl)
            refine (fold_ok A7 (1 + L.length) c7 (⟨splitR q.1 page, none, 0, none, 0⟩ :: Ds) _ CH.out (by omega) (ents_push DM.out HE.out (Nat.zero_le _))).mono ?_
            rintro e wt10 (⟨W, A5, c5, -, hfo, rfl, hvin, -, hff⟩ | ⟨kk, -, hno, rfl, hff⟩)
            rotate_left
            · rw [hno KP.out] at hpf
              cases hpf
            obtain rfl : (leftV V (V.ents.length / 2) q.1 page) = W := Option.some.inj (hpf.symm.trans hfo)
            have WI := hid_ hvin
            replace BA := hid_ (BA.out.fr hff id)
            replace FS := hid_ (FS.out.then_none hff)
            refine ⟨FS.out, ?_⟩
            clear hfo hvin hff hpf KP CH
            refine wpAnyU_take2 (i := 6) (v := _) rfl (by kernel_rfl) (by kernel_rfl) (by kernel_rfl) (by kernel_rfl) (fun _ _ _ h => h) (.inl ⟨by kernel_rfl, fun w' hS => by go_simp; rfl⟩) FS.out ?_
            refine wpAnyU_take2 (i := 7) (v := _) rfl (by kernel_rfl) (by kernel_rfl) (by kernel_rfl) (by kernel_rfl) (fun _ _ _ h => h) (.inl ⟨by kernel_rfl, fun w' hS => by go_simp; rfl⟩) FS.out ?_
            refine wpAnyU_take2 (i := 8) (v := _) rfl (by kernel_rfl) (by kernel_rfl) (by kernel_rfl) (by kernel_rfl) (fun _ _ _ h => h) (.inl ⟨by kernel_rfl, fun w' hS => by go_simp; rfl⟩) FS.out ?_
            refine wpAnyU_oneG (i := 10) rfl (by kernel_rfl) (by kernel_rfl) ?_
            refine wp_store_mid 29 (.tmp 12) (.tmp 58) rfl wt2.heap.size 0 (vwA (leftV V (V.ents.length / 2) q.1 page) (.slice A5 (leftV V (V.ents.length / 2) q.1 page).ents.length c5)) rfl rfl (BA.out.there0 rfl) view_sz8 (by simp [Value.oneCell']) ?_
            obtain ⟨wf, hz⟩ : ∃ z, z = wt10.setCells (wt2.heap.size) 0 (vwA (leftV V (V.ents.length / 2) q.1 page) (.slice A5 (leftV V (V.ents.length / 2) q.1 page).ents.length c5)).toList := ⟨_, rfl⟩
            have ov := BA.out.over (vwA (leftV V (V.ents.length / 2) q.1 page) (.slice A5 (leftV V (V.ents.length / 2) q.1 page).ents.length c5)).toList rfl
            rw [← hz] at ov
            have fS := FS.out.then_only ov.2 (.inr HA.out)
            refine ⟨.inr (by rw [← hz]; exact fS), ?_⟩
            change wpAnyU _ _ _ _ _ _ _ _ _ (wt10.setCells (wt2.heap.size) 0 (vwA (leftV V (V.ents.length / 2) q.1 page) (.slice A5 (leftV V (V.ents.length / 2) q.1 page).ents.length c5)).toList)
            rw [← hz]
            clear hz
            have WJ := hid_ (WI.out.far BA.out ov.2)
            have OV := hid_ (show Blk wf (wt2.heap.size) 29 (vwA (leftV V (V.ents.length / 2) q.1 page) (.slice A5 (leftV V (V.ents.length / 2) q.1 page).ents.length c5)) from ov.1)
            refine wpAnyU_take2 (i := 11) (v := _) rfl (by kernel_rfl) (by kernel_rfl) (by kernel_rfl) (by kernel_rfl) (fun _ _ _ h => h) (.inl ⟨by kernel_rfl, fun w' hS => by go_simp; rfl⟩) fS ?_
            refine wpAnyU_done (by kernel_rfl) ?_ _
            go_wp2_with fail
            go_meet
            exact ⟨_, A5, c5, rfl, rfl, HA.out, OV.out, WJ.out, fS⟩
        · skip
          go_simp
          have HA := hid_ FS.out.size
          obtain ⟨wt11, hz⟩ : ∃ z, z = wt1.alloc (.cells (vwA Vw.zero (.slice none 0 0)) 29) := ⟨_, rfl⟩
          have fz : Fr none_ wt1 wt11 := by rw [hz]; exact (Fr.refl none_ wt1).alloc _
          have BA : Hid (Blk wt11 wt1.heap.size 29 (vwA Vw.zero (.slice none 0 0))) := hid_ (by rw [hz]; exact Blk.new wt1 _ _)
          replace BP := hid_ (BP.out.fr fz id)
          replace FS := hid_ (FS.out.then_none fz)
          change Fr none_ w6 (wt1.alloc (.cells (vwA Vw.zero (.slice none 0 0)) 29)) ∧ wpAnyU _ _ _ _ _ _ _ _ _ (wt1.alloc (.cells (vwA Vw.zero (.slice none 0 0)) 29))
          rw [← hz]
          refine ⟨FS.out, ?_⟩
          clear hz fz
          refine wpAnyU_oneG (i := 3) rfl (by kernel_rfl) (by kernel_rfl) ?_
          go_simp
          refine (own8_ok A L.length cap L _ (((H.out.keep FS.out)).few HE.out) (by omega) (in_rows (H.out.keep FS.out))).mono ?_
          rintro e wt12 ⟨A9, c9, Ds, rfl, hCs, hown, hco, hf2⟩
          have DR := hid_ (And.intro hown hco)
          have DM := hid_ hCs
          replace BP := hid_ (BP.out.fr hf2 id)
          replace BA := hid_ (BA.out.fr hf2 id)
          replace FS := hid_ (FS.out.then_none hf2)
          refine ⟨FS.out, ?_⟩
          clear hCs hown hco hf2
          refine wpAnyU_oneG (i := 4) rfl (by kernel_rfl) (by kernel_rfl) ?_
          refine wp_append_any _ (.tmp 53) (.tmp 55) 22 rfl 0 39 i0 _ 15 192 Try.underlying22 Hi.out.1 Hi.out.2.1 Hi.out.2.2.1 Hi.out.2.2.2 rfl (by omega) (.slice (some ⟨we.heap.size, 0, none⟩) 1 1) 1 (recL ⟨splitR q.1 page, none, 0, none, 0⟩) rfl (own_rec BP.out) A9 L.length c9 (recFlat Ds) rfl (Reads.of_own DR.out.1) (recFlat_one _) (by simp only [maxLen]; omega) (by omega) (Nat.zero_le _) ?_
          intro A7 c7 wt13 hown hgr
          obtain ⟨hch, hfb⟩ := push_chain DM.out rfl BP.out DR.out hown hgr (bare_ok rfl rfl SzOk.nil SzOk.nil HQL.out SzOk.nil)
          have CH := hid_ hch
          replace BA := hid_ (BA.out.fr hfb (only_ne (Blk.ne_ BA.out BP.out (by decide))))
          replace FS := hid_ (FS.out.then_only hfb (.inr HG.out))
          refine ⟨.inr FS.out, ?_⟩
          clear hch hfb hown hgr DR BP
          refine wpAnyU_oneG (i := 5) rfl (by kernel_rfl) (by kernel_rfl) ?_
          go_simp
          have hpf : foldU ((⟨splitR q.1 page, none, 0, none, 0⟩ :: Ds).map (·.R)) = some (leftV V (V.ents.length / 2) q.1 page) := (fold_push_of HM.out DM.out HFO.out.2 _).trans (UP.out)
          have KP := hid_ (kind_push HM.out DM.out HFO.out.1 (R := splitR q.1 page) ⟨by show (7 : Int) ≤ 9; decide, by show (9 : Int) ≤ 11; decide⟩ (P := ⟨splitR q.1 page, none, 0, none, 0⟩) rfl)
          refine (fold_ok A7 (1 + L.length) c7 (⟨splitR q.1 page, none, 0, none, 0⟩ :: Ds) _ CH.out (by omega) (ents_push DM.out HE.out (Nat.zero_le _))).mono ?_
          rintro e wt14 (⟨W, A5, c5, -, hfo, rfl, hvin, -, hff⟩ | ⟨kk, -, hno, rfl, hff⟩)
          rotate_left
          · rw [hno KP.out] at hpf
            cases hpf
          obtain rfl : (leftV V (V.ents.length / 2) q.1 page) = W := Option.some.inj (hpf.symm.trans hfo)
          have WI := hid_ hvin
          replace BA := hid_ (BA.out.fr hff id)
          replace FS := hid_ (FS.out.then_none hff)
          refine ⟨FS.out, ?_⟩
          clear hfo hvin hff hpf KP CH
          refine wpAnyU_take2 (i := 6) (v := _) rfl (by kernel_rfl) (by kernel_rfl) (by kernel_rfl) (by kernel_rfl) (fun _ _ _ h => h) (.inl ⟨by kernel_rfl, fun w' hS => by go_simp; rfl⟩) FS.out ?_
          refine wpAnyU_take2 (i := 7) (v := _) rfl (by kernel_rfl) (by kernel_rfl) (by kernel_rfl) (by kernel_rfl) (fun _ _ _ h => h) (.inl ⟨by kernel_rfl, fun w' hS => by go_simp; rfl⟩) FS.out ?_
          refine wpAnyU_take2 (i := 8) (v := _) rfl (by kernel_rfl) (by kernel_rfl) (by kernel_rfl) (by kernel_rfl) (fun _ _ _ h => h) (.inl ⟨by kernel_rfl, fun w' hS => by go_simp; rfl⟩) FS.out ?_
          refine wpAnyU_oneG (i := 10) rfl (by kernel_rfl) (by kernel_rfl) ?_
          refine wp_store_mid 29 (.tmp 12) (.tmp 58) rfl wt1.heap.size 0 (vwA (leftV V (V.ents.length / 2) q.1 page) (.slice A5 (leftV V (V.ents.length / 2) q.1 page).ents.length c5)) rfl rfl (BA.out.there0 rfl) view_sz8 (by simp [Value.oneCell']) ?_
          obtain ⟨wf, hz⟩ : ∃ z, z = wt14.setCells (wt1.heap.size) 0 (vwA (leftV V (V.ents.length / 2) q.1 page) (.slice A5 (leftV V (V.ents.length / 2) q.1 page).ents.length c5)).toList := ⟨_, rfl⟩
          have ov := BA.out.over (vwA (leftV V (V.ents.length / 2) q.1 page) (.slice A5 (leftV V (V.ents.length / 2) q.1 page).ents.length c5)).toList rfl
          rw [← hz] at ov
          have fS := FS.out.then_only ov.2 (.inr HA.out)
          refine ⟨.inr (by rw [← hz]; exact fS), ?_⟩
          change wpAnyU _ _ _ _ _ _ _ _ _ (wt14.setCells (wt1.heap.size) 0 (vwA (leftV V (V.ents.length / 2) q.1 page) (.slice A5 (leftV V (V.ents.length / 2) q.1 page).ents.length c5)).toList)
          rw [← hz]
          clear hz
          have WJ := hid_ (WI.out.far BA.out ov.2)
          have OV := hid_ (show Blk wf (wt1.heap.size) 29 (vwA (leftV V (V.ents.length / 2) q.1 page) (.slice A5 (leftV V (V.ents.length / 2) q.1 page).ents.length c5)) from ov.1)
          refine wpAnyU_take2 (i := 11) (v := _) rfl (by kernel_rfl) (by kernel_rfl) (by kernel_rfl) (by kernel_rfl) (fun _ _ _ h => h) (.inl ⟨by kernel_rfl, fun w' hS => by go_simp; rfl⟩) fS ?_
          refine wpAnyU_done (by kernel_rfl) ?_ _
          go_wp2_with fail
          go_meet
          exact ⟨_, A5, c5, rfl, rfl, HA.out, OV.out, WJ.out, fS⟩
      · skip
        go_simp
        refine (own8_ok A L.length cap L _ (((H.out.keep FS.out)).few HE.out) (by omega) (in_rows (H.out.keep FS.out))).mono ?_
        rintro e wt15 ⟨A9, c9, Ds, rfl, hCs, hown, hco, hf2⟩
        have DR := hid_ (And.intro hown hco)
        have DM := hid_ hCs
        replace FS := hid_ (FS.out.then_none hf2)
        refine ⟨FS.out, ?_⟩
        clear hCs hown hco hf2
        refine wpAnyU_two (i := 1) (j := 9) rfl rfl rfl rfl (by kernel_rfl) ?_ ?_
        · skip
          go_simp
          have HG := hid_ FS.out.size
          obtain ⟨wt16, hz⟩ : ∃ z, z = wt15.alloc (.cells (recL ⟨splitR q.1 page, none, 0, none, 0⟩).toArray 39) := ⟨_, rfl⟩
          have fz : Fr none_ wt15 wt16 := by rw [hz]; exact (Fr.refl none_ wt15).alloc _
          have BP : Hid (Blk wt16 wt15.heap.size 39 (recL ⟨splitR q.1 page, none, 0, none, 0⟩).toArray) := hid_ (by rw [hz]; exact Blk.new wt15 _ _)
          replace DR := hid_ (And.intro (own_none DR.out.1 fz) (fun C hC => (DR.out.2 C hC).keep fz))
          replace FS := hid_ (FS.out.then_none fz)
          change Fr none_ w6 (wt15.alloc (.cells (recL ⟨splitR q.1 page, none, 0, none, 0⟩).toArray 39)) ∧ wpAnyU _ _ _ _ _ _ _ _ _ (wt15.alloc (.cells (recL ⟨splitR q.1 page, none, 0, none, 0⟩).toArray 39))
          rw [← hz]
          refine ⟨FS.out, ?_⟩
          clear hz fz
          refine wpAnyU_two (i := 4) (j := 9) rfl rfl rfl rfl (by kernel_rfl) ?_ ?_
          · skip
            refine wp_append_any _ (.tmp 53) (.tmp 55) 22 rfl 0 39 i0 _ 15 192 Try.underlying22 Hi.out.1 Hi.out.2.1 Hi.out.2.2.1 Hi.out.2.2.2 rfl (by omega) (.slice (some ⟨wt15.heap.size, 0, none⟩) 1 1) 1 (recL ⟨splitR q.1 page, none, 0, none, 0⟩) rfl (own_rec BP.out) A9 L.length c9 (recFlat Ds) rfl (Reads.of_own DR.out.1) (recFlat_one _) (by simp only [maxLen]; omega) (by omega) (Nat.zero_le _) ?_
            intro A7 c7 wt17 hown hgr
            obtain ⟨hch, hfb⟩ := push_chain DM.out rfl BP.out DR.out hown hgr (bare_ok rfl rfl SzOk.nil SzOk.nil HQL.out SzOk.nil)
            have CH := hid_ hch
            replace FS := hid_ (FS.out.then_only hfb (.inr HG.out))
            refine ⟨.inr FS.out, ?_⟩
            clear hch hfb hown hgr DR BP
            refine wpAnyU_two (i := 5) (j := 9) rfl rfl rfl rfl (by kernel_rfl) ?_ ?_
            · skip
              go_simp
              have hpf : foldU ((⟨splitR q.1 page, none, 0, none, 0⟩ :: Ds).map (·.R)) = some (leftV V (V.ents.length / 2) q.1 page) := (fold_push_of HM.out DM.out HFO.out.2 _).trans (UP.out)
              have KP := hid_ (kind_push HM.out DM.out HFO.out.1 (R := splitR q.1 page) ⟨by show (7 : Int) ≤ 9; decide, by show (9 : Int) ≤ 11; decide⟩ (P := ⟨splitR q.1 page, none, 0, none, 0⟩) rfl)
              refine (fold_ok A7 (1 + L.length) c7 (⟨splitR q.1 page, none, 0, none, 0⟩ :: Ds) _ CH.out (by omega) (ents_push DM.out HE.out (Nat.zero_le _))).mono ?_
              rintro e wt18 (⟨W, A5, c5, -, hfo, rfl, hvin, -, hff⟩ | ⟨kk, -, hno, rfl, hff⟩)
              rotate_left
              · rw [hno KP.out] at hpf
                cases hpf
              obtain rfl : (leftV V (V.ents.length / 2) q.1 page) = W := Option.some.inj (hpf.symm.trans hfo)
              have WI := hid_ hvin
              replace FS := hid_ (FS.out.then_none hff)
              refine ⟨FS.out, ?_⟩
              clear hfo hvin hff hpf KP CH
              refine wpAnyU_take2 (i := 6) (v := _) rfl (by kernel_rfl) (by kernel_rfl) (by kernel_rfl) (by kernel_rfl) (fun _ _ _ h => h) (.inl ⟨by kernel_rfl, fun w' hS => by go_simp; rfl⟩) FS.out ?_
              refine wpAnyU_take2 (i := 7) (v := _) rfl (by kernel_rfl) (by kernel_rfl) (by kernel_rfl) (by kernel_rfl) (fun _ _ _ h => h) (.inl ⟨by kernel_rfl, fun w' hS => by go_simp; rfl⟩) FS.out ?_
              refine wpAnyU_take2 (i := 8) (v := _) rfl (by kernel_rfl) (by kernel_rfl) (by kernel_rfl) (by kernel_rfl) (fun _ _ _ h => h) (.inl ⟨by kernel_rfl, fun w' hS => by go_simp; rfl⟩) FS.out ?_
              refine wpAnyU_oneG (i := 9) rfl (by kernel_rfl) (by kernel_rfl) ?_
              go_simp
              have HA := hid_ FS.out.size
              obtain ⟨wt19, hz⟩ : ∃ z, z = wt18.alloc (.cells (vwA Vw.zero (.slice none 0 0)) 29) := ⟨_, rfl⟩
              have fz : Fr none_ wt18 wt19 := by rw [hz]; exact (Fr.refl none_ wt18).alloc _
              have BA : Hid (Blk wt19 wt18.heap.size 29 (vwA Vw.zero (.slice none 0 0))) := hid_ (by rw [hz]; exact Blk.new wt18 _ _)
              replace WI := hid_ (WI.out.keep fz)
              replace FS := hid_ (FS.out.then_none fz)
              change Fr none_ w6 (wt18.alloc (.cells (vwA Vw.zero (.slice none 0 0)) 29)) ∧ wpAnyU _ _ _ _ _ _ _ _ _ (wt18.alloc (.cells (vwA Vw.zero (.slice none 0 0)) 29))
              rw [← hz]
              refine ⟨FS.out, ?_⟩
              clear hz fz
              refine wpAnyU_oneG (i := 10) rfl (by kernel_rfl) (by kernel_rfl) ?_
              refine wp_store_mid 29 (.tmp 12) (.tmp 58) rfl wt18.heap.size 0 (vwA (leftV V (V.ents.length / 2) q.1 page) (.slice A5 (leftV V (V.ents.length / 2) q.1 page).ents.length c5)) rfl rfl (BA.out.there0 rfl) view_sz8 (by simp [Value.oneCell']) ?_
              obtain ⟨wf, hz⟩ : ∃ z, z = wt19.setCells (wt18.heap.size) 0 (vwA (leftV V (V.ents.length / 2) q.1 page) (.slice A5 (leftV V (V.ents.length / 2) q.1 page).ents.length c5)).toList := ⟨_, rfl⟩
              have ov := BA.out.over (vwA (leftV V (V.ents.length / 2) q.1 page) (.slice A5 (leftV V (V.ents.length / 2) q.1 page).ents.length c5)).toList rfl
              rw [← hz] at ov
              have fS := FS.out.then_only ov.2 (.inr HA.out)
              refine ⟨.inr (by rw [← hz]; exact fS), ?_⟩
              change wpAnyU _ _ _ _ _ _ _ _ _ (wt19.setCells (wt18.heap.size) 0 (vwA (leftV V (V.ents.length / 2) q.1 page) (.slice A5 (leftV V (V.ents.length / 2) q.1 page).ents.length c5)).toList)
              rw [← hz]
              clear hz
              have WJ := hid_ (WI.out.far BA.out ov.2)
              have OV := hid_ (show Blk wf (wt18.heap.size) 29 (vwA (leftV V (V.ents.length / 2) q.1 page) (.slice A5 (leftV V (V.ents.length / 2) q.1 page).ents.length c5)) from ov.1)
              refine wpAnyU_take2 (i := 11) (v := _) rfl (by kernel_rfl) (by kernel_rfl) (by kernel_rfl) (by kernel_rfl) (fun _ _ _ h => h) (.inl ⟨by kernel_rfl, fun w' hS => by go_simp; rfl⟩) fS ?_
              refine wpAnyU_done (by kernel_rfl) ?_ _
              go_wp2_with fail
              go_meet
              exact ⟨_, A5, c5, rfl, rfl, HA.out, OV.out, WJ.out, fS⟩
            · skip
              go_simp
              have HA := hid_ FS.out.size
              obtain ⟨wt20, hz⟩ : ∃ z, z = wt17.alloc (.cells (vwA Vw.zero (.slice none 0 0)) 29) := ⟨_, rfl⟩
              have fz : Fr none_ wt17 wt20 := by rw [hz]; exact (Fr.refl none_ wt17).alloc _
              have BA : Hid (Blk wt20 wt17.heap.size 29 (vwA Vw.zero (.slice none 0 0))) := hid_ (by rw [hz]; exact Blk.new wt17 _ _)
              replace CH := hid_ (CH.out.keep fz)
              replace FS := hid_ (FS.out.then_none fz)
              change Fr none_ w6 (wt17.alloc (.cells (vwA Vw.zero (.slice none 0 0)) 29)) ∧ wpAnyU _ _ _ _ _ _ _ _ _ (wt17.alloc (.cells (vwA Vw.zero (.slice none 0 0)) 29))
              rw [← hz]
              refine ⟨FS.out, ?_⟩
              clear hz fz
              refine wpAnyU_oneG (i := 5) rfl (by kernel_rfl) (by kernel_rfl) ?_
              go_simp
              have hpf : foldU ((⟨splitR q.1 page, none, 0, none, 0⟩ :: Ds).map (·.R)) = some (leftV V (V.ents.length / 2) q.1 page) := (fold_push_of HM.out DM.out HFO.out.2 _).trans (UP.out)
              have KP := hid_ (kind_push HM.out DM.out HFO.out.1 (R := splitR q.1 page) ⟨by show (7 : Int) ≤ 9; decide, by show (9 : Int) ≤ 11; decide⟩ (P := ⟨splitR q.1 page, none, 0, none, 0⟩) rfl)
              refine (fold_ok A7 (1 + L.length) c7 (⟨splitR q.1 page, none, 0, none, 0⟩ :: Ds) _ CH.out (by omega) (ents_push DM.out HE.out (Nat.zero_le _))).mono ?_
              rintro e wt21 (⟨W, A5, c5, -, hfo, rfl, hvin, -, hff⟩ | ⟨kk, -, hno, rfl, hff⟩)
              rotate_left
              · rw [hno KP.out] at hpf
                cases hpf
              obtain rfl : (leftV V (V.ents.length / 2) q.1 page) = W := Option.some.inj (hpf.symm.trans hfo)
              have WI := hid_ hvin
              replace BA := hid_ (BA.out.fr hff id)
              replace FS := hid_ (FS.out.then_none hff)
              refine ⟨FS.out, ?_⟩
              clear hfo hvin hff hpf KP CH
              refine wpAnyU_take2 (i := 6) (v := _) rfl (by kernel_rfl) (by kernel_rfl) (by kernel_rfl) (by kernel_rfl) (fun _ _ _ h => h) (.inl ⟨by kernel_rfl, fun w' hS => by go_simp; rfl⟩) FS.out ?_
              refine wpAnyU_take2 (i := 7) (v := _) rfl (by kernel_rfl) (by kernel_rfl) (by kernel_rfl) (by kernel_rfl) (fun _ _ _ h => h) (.inl ⟨by kernel_rfl, fun w' hS => by go_simp; rfl⟩) FS.out ?_
              refine wpAnyU_take2 (i := 8) (v := _) rfl (by kernel_rfl) (by kernel_rfl) (by kernel_rfl) (by kernel_rfl) (fun _ _ _ h => h) (.inl ⟨by kernel_rfl, fun w' hS => by go_simp; rfl⟩) FS.out ?_
              refine wpAnyU_oneG (i := 10) rfl (by kernel_rfl) (by kernel_rfl) ?_
              refine wp_store_mid 29 (.tmp 12) (.tmp 58) rfl wt17.heap.size 0 (vwA (leftV V (V.ents.length / 2) q.1 page) (.slice A5 (leftV V (V.ents.length / 2) q.1 page).ents.length c5)) rfl rfl (BA.out.there0 rfl) view_sz8 (by simp [Value.oneCell']) ?_
              obtain ⟨wf, hz⟩ : ∃ z, z = wt21.setCells (wt17.heap.size) 0 (vwA (leftV V (V.ents.length / 2) q.1 page) (.slice A5 (leftV V (V.ents.length / 2) q.1 page).ents.length c5)).toList := ⟨_, rfl⟩
              have ov := BA.out.over (vwA (leftV V (V.ents.length / 2) q.1 page) (.slice A5 (leftV V (V.ents.length / 2) q.1 page).ents.length c5)).toList rfl
              rw [← hz] at ov
              have fS := FS.out.then_only ov.2 (.inr HA.out)
              refine ⟨.inr (by rw [← hz]; exact fS), ?_⟩
              change wpAnyU _ _ _ _ _ _ _ _ _ (wt21.setCells (wt17.heap.size) 0 (vwA (leftV V (V.ents.length / 2) q.1 page) (.slice A5 (leftV V (V.ents.length / 2) q.1 page).ents.length c5)).toList)
              rw [← hz]
              clear hz
              have WJ := hid_ (WI.out.far BA.out ov.2)
              have OV := hid_ (show Blk wf (wt17.heap.size) 29 (vwA (leftV V (V.ents.length / 2) q.1 page) (.slice A5 (leftV V (V.ents.length / 2) q.1 page).ents.length c5)) from ov.1)
              refine wpAnyU_take2 (i := 11) (v := _) rfl (by kernel_rfl) (by kernel_rfl) (by kernel_rfl) (by kernel_rfl) (fun _ _ _ h => h) (.inl ⟨by kernel_rfl, fun w' hS => by go_simp; rfl⟩) fS ?_
              refine wpAnyU_done (by kernel_rfl) ?_ _
              go_wp2_with fail
              go_meet
              exact ⟨_, A5, c5, rfl, rfl, HA.out, OV.out, WJ.out, fS⟩
          · skip
            go_simp
            have HA := hid_ FS.out.size
            obtain ⟨wt22, hz⟩ : ∃ z, z = wt16.alloc (.cells (vwA Vw.zero (.slice none 0 0)) 29) := ⟨_, rfl⟩
            have fz : Fr none_ wt16 wt22 := by rw [hz]; exact (Fr.refl none_ wt16).alloc _
            have BA : Hid (Blk wt22 wt16.heap.size 29 (vwA Vw.zero (.slice none 0 0))) := hid_ (by rw [hz]; exact Blk.new wt16 _ _)
            replace BP := hid_ (BP.out.fr fz id)
            replace DR := hid_ (And.intro (own_none DR.out.1 fz) (fun C hC => (DR.out.2 C hC).keep fz))
            replace FS := hid_ (FS.out.then_none fz)
            change Fr none_ w6 (wt16.alloc (.cells (vwA Vw.zero (.slice none 0 0)) 29)) ∧ wpAnyU _ _ _ _ _ _ _ _ _ (wt16.alloc (.cells (vwA Vw.zero (.slice none 0 0)) 29))
            rw [← hz]
            refine ⟨FS.out, ?_⟩
            clear hz fz
            refine wpAnyU_oneG (i := 4) rfl (by kernel_rfl) (by kernel_rfl) ?_
            refine wp_append_any _ (.tmp 53) (.tmp 55) 22 rfl 0 39 i0 _ 15 192 Try.underlying22 Hi.out.1 Hi.out.2.1 Hi.out.2.2.1 Hi.out.2.2.2 rfl (by omega) (.slice (some ⟨wt15.heap.size, 0, none⟩) 1 1) 1 (recL ⟨splitR q.1 page, none, 0, none, 0⟩) rfl (own_rec BP.out) A9 L.length c9 (recFlat Ds) rfl (Reads.of_own DR.out.1) (recFlat_one _) (by simp only [maxLen]; omega) (by omega) (Nat.zero_le _) ?_
            intro A7 c7 wt23 hown hgr
            obtain ⟨hch, hfb⟩ := push_chain DM.out rfl BP.out DR.out hown hgr (bare_ok rfl rfl SzOk.nil SzOk.nil HQL.out SzOk.nil)
            have CH := hid_ hch
            replace BA := hid_ (BA.out.fr hfb (only_ne (Blk.ne_ BA.out BP.out (by decide))))
            replace FS := hid_ (FS.out.then_only hfb (.inr HG.out))
            refine ⟨.inr FS.out, ?_⟩
            clear hch hfb hown hgr DR BP
            refine wpAnyU_oneG (i := 5) rfl (by kernel_rfl) (by kernel_rfl) ?_
            go_simp
            have hpf : foldU ((⟨splitR q.1 page, none, 0, none, 0⟩ :: Ds).map (·.R)) = some (leftV V (V.ents.length / 2) q.1 page) := (fold_push_of HM.out DM.out HFO.out.2 _).trans (UP.out)
            have KP := hid_ (kind_push HM.out DM.out HFO.out.1 (R := splitR q.1 page) ⟨by show (7 : Int) ≤ 9; decide, by show (9 : Int) ≤ 11; decide⟩ (P := ⟨splitR q.1 page, none, 0, none, 0⟩) rfl)
            refine (fold_ok A7 (1 + L.length) c7 (⟨splitR q.1 page, none, 0, none, 0⟩ :: Ds) _ CH.out (by omega) (ents_push DM.out HE.out (Nat.zero_le _))).mono ?_
            rintro e wt24 (⟨W, A5, c5, -, hfo, rfl, hvin, -, hff⟩ | ⟨kk, -, hno, rfl, hff⟩)
            rotate_left
            · rw [hno KP.out] at hpf
              cases hpf
            obtain rfl : (leftV V (V.ents.length / 2) q.1 page) = W := Option.some.inj (hpf.symm.trans hfo)
            have WI := hid_ hvin
            replace BA := hid_ (BA.out.fr hff id)
            replace FS := hid_ (FS.out.then_none hff)
            refine ⟨FS.out, ?_⟩
            clear hfo hvin hff hpf KP CH
            refine wpAnyU_take2 (i := 6) (v := _) rfl (by kernel_rfl) (by kernel_rfl) (by kernel_rfl) (by kernel_rfl) (fun _ _ _ h => h) (.inl ⟨by kernel_rfl, fun w' hS => by go_simp; rfl⟩) FS.out ?_
            refine wpAnyU_take2 (i := 7) (v := _) rfl (by kernel_rfl) (by kernel_rfl) (by kernel_rfl) (by kernel_rfl) (fun _ _ _ h => h) (.inl ⟨by kernel_rfl, fun w' hS => by go_simp; rfl⟩) FS.out ?_
            refine wpAnyU_take2 (i := 8) (v := _) rfl (by kernel_rfl) (by kernel_rfl) (by kernel_rfl) (by kernel_rfl) (fun _ _ _ h => h) (.inl ⟨by kernel_rfl, fun w' hS => by go_simp; rfl⟩) FS.out ?_
            refine wpAnyU_oneG (i := 10) rfl (by kernel_rfl) (by kernel_rfl) ?_
            refine wp_store_mid 29 (.tmp 12) (.tmp 58) rfl wt16.heap.size 0 (vwA (leftV V (V.ents.length / 2) q.1 page) (.slice A5 (leftV V (V.ents.length / 2) q.1 page).ents.length c5)) rfl rfl (BA.out.there0 rfl) view_sz8 (by simp [Value.oneCell']) ?_
            obtain ⟨wf, hz⟩ : ∃ z, z = wt24.setCells (wt16.heap.size) 0 (vwA (leftV V (V.ents.length / 2) q.1 page) (.slice A5 (leftV V (V.ents.length / 2) q.1 page).ents.length c5)).toList := ⟨_, rfl⟩
            have ov := BA.out.over (vwA (leftV V (V.ents.length / 2) q.1 page) (.slice A5 (leftV V (V.ents.length / 2) q.1 page).ents.length c5)).toList rfl
            rw [← hz] at ov
            have fS := FS.out.then_only ov.2 (.inr HA.out)
            refine ⟨.inr (by rw [← hz]; exact fS), ?_⟩
            change wpAnyU _ _ _ _ _ _ _ _ _ (wt24.setCells (wt16.heap.size) 0 (vwA (leftV V (V.ents.length / 2) q.1 page) (.slice A5 (leftV V (V.ents.length / 2) q.1 page).ents.length c5)).toList)
            rw [← hz]
            clear hz
            have WJ := hid_ (WI.out.far BA.out ov.2)
            have OV := hid_ (show Blk wf (wt16.heap.size) 29 (vwA (leftV V (V.ents.length / 2) q.1 page) (.slice A5 (leftV V (V.ents.length / 2) q.1 page).ents.length c5)) from ov.1)
            refine wpAnyU_take2 (i := 11) (v := _) rfl (by kernel_rfl) (by kernel_rfl) (by kernel_rfl) (by kernel_rfl) (fun _ _ _ h => h) (.inl ⟨by kernel_rfl, fun w' hS => by go_simp; rfl⟩) fS ?_
            refine wpAnyU_done (by kernel_rfl) ?_ _
            go_wp2_with fail
            go_meet
            exact ⟨_, A5, c5, rfl, rfl, HA.out, OV.out, WJ.out, fS⟩
        · skip
          go_simp
          have HA := hid_ FS.out.size
          obtain ⟨wt25, hz⟩ : ∃ z, z = wt15.alloc (.cells (vwA Vw.zero (.slice none 0 0)) 29) := ⟨_, rfl⟩
          have fz : Fr none_ wt15 wt25 := by rw [hz]; exact (Fr.refl none_ wt15).alloc _
          have BA : Hid (Blk wt25 wt15.heap.size 29 (vwA Vw.zero (.slice none 0 0))) := hid_ (by rw [hz]; exact Blk.new wt15 _ _)
          replace DR := hid_ (And.intro (own_none DR.out.1 fz) (fun C hC => (DR.out.2 C hC).keep fz))
          replace FS := hid_ (FS.out.then_none fz)
          change Fr none_ w6 (wt15.alloc (.cells (vwA Vw.zero (.slice none 0 0)) 29)) ∧ wpAnyU _ _ _ _ _ _ _ _ _ (wt15.alloc (.cells (vwA Vw.zero (.slice none 0 0)) 29))
          rw [← hz]
          refine ⟨FS.out, ?_⟩
          clear hz fz
          refine wpAnyU_oneG (i := 1) rfl (by kernel_rfl) (by kernel_rfl) ?_
          go_simp
          have HG := hid_ FS.out.size
          obtain ⟨wt26, hz⟩ : ∃ z, z = wt25.alloc (.cells (recL ⟨splitR q.1 page, none, 0, none, 0⟩).toArray 39) := ⟨_, rfl⟩
          have fz : Fr none_ wt25 wt26 := by rw [hz]; exact (Fr.refl none_ wt25).alloc _
          have BP : Hid (Blk wt26 wt25.heap.size 39 (recL ⟨splitR q.1 page, none, 0, none, 0⟩).toArray) := hid_ (by rw [hz]; exact Blk.new wt25 _ _)
          replace DR := hid_ (And.intro (own_none DR.out.1 fz) (fun C hC => (DR.out.2 C hC).keep fz))
          replace BA := hid_ (BA.out.fr fz id)
          replace FS := hid_ (FS.out.then_none fz)
          change Fr none_ w6 (wt25.alloc (.cells (recL ⟨splitR q.1 page, none, 0, none, 0⟩).toArray 39)) ∧ wpAnyU _ _ _ _ _ _ _ _ _ (wt25.alloc (.cells (recL ⟨splitR q.1 page, none, 0, none, 0⟩).toArray 39))
          rw [← hz]
          refine ⟨FS.out, ?_⟩
          clear hz fz
          refine wpAnyU_oneG (i := 4) rfl (by kernel_rfl) (by kernel_rfl) ?_
          refine wp_append_any _ (.tmp 53) (.tmp 55) 22 rfl 0 39 i0 _ 15 192 Try.underlying22 Hi.out.1 Hi.out.2.1 Hi.out.2.2.1 Hi.out.2.2.2 rfl (by omega) (.slice (some ⟨wt25.heap.size, 0, none⟩) 1 1) 1 (recL ⟨splitR q.1 page, none, 0, none, 0⟩) rfl (own_rec BP.out) A9 L.length c9 (recFlat Ds) rfl (Reads.of_own DR.out.1) (recFlat_one _) (by simp only [maxLen]; omega) (by omega) (Nat.zero_le _) ?_
          intro A7 c7 wt27 hown hgr
          obtain ⟨hch, hfb⟩ := push_chain DM.out rfl BP.out DR.out hown hgr (bare_ok rfl rfl SzOk.nil SzOk.nil HQL.out SzOk.nil)
          have CH := hid_ hch
          replace BA := hid_ (BA.out.fr hfb (only_ne (Blk.ne_ BA.out BP.out (by decide))))
          replace FS := hid_ (FS.out.then_only hfb (.inr HG.out))
          refine ⟨.inr FS.out, ?_⟩
          clear hch hfb hown hgr DR BP
          refine wpAnyU_oneG (i := 5) rfl (by kernel_rfl) (by kernel_rfl) ?_
          go_simp
          have hpf : foldU ((⟨splitR q.1 page, none, 0, none, 0⟩ :: Ds).map (·.R)) = some (leftV V (V.ents.length / 2) q.1 page) := (fold_push_of HM.out DM.out HFO.out.2 _).trans (UP.out)
          have KP := hid_ (kind_push HM.out DM.out HFO.out.1 (R := splitR q.1 page) ⟨by show (7 : Int) ≤ 9; decide, by show (9 : Int) ≤ 11; decide⟩ (P := ⟨splitR q.1 page, none, 0, none, 0⟩) rfl)
          refine (fold_ok A7 (1 + L.length) c7 (⟨splitR q.1 page, none, 0, none, 0⟩ :: Ds) _ CH.out (by omega) (ents_push DM.out HE.out (Nat.zero_le _))).mono ?_
          rintro e wt28 (⟨W, A5, c5, -, hfo, rfl, hvin, -, hff⟩ | ⟨kk, -, hno, rfl, hff⟩)
          rotate_left
          · rw [hno KP.out] at hpf
            cases hpf
          obtain rfl : (leftV V (V.ents.length / 2) q.1 page) = W := Option.some.inj (hpf.symm.trans hfo)
          have WI := hid_ hvin
          replace BA := hid_ (BA.out.fr hff id)
          replace FS := hid_ (FS.out.then_none hff)
          refine ⟨FS.out, ?_⟩
          clear hfo hvin hff hpf KP CH
          refine wpAnyU_take2 (i := 6) (v := _) rfl (by kernel_rfl) (by kernel_rfl) (by kernel_rfl) (by kernel_rfl) (fun _ _ _ h => h) (.inl ⟨by kernel_rfl, fun w' hS => by go_simp; rfl⟩) FS.out ?_
          refine wpAnyU_take2 (i := 7) (v := _) rfl (by kernel_rfl) (by kernel_rfl) (by kernel_rfl) (by kernel_rfl) (fun _ _ _ h => h) (.inl ⟨by kernel_rfl, fun w' hS => by go_simp; rfl⟩) FS.out ?_
          refine wpAnyU_take2 (i := 8) (v := _) rfl (by kernel_rfl) (by kernel_rfl) (by kernel_rfl) (by kernel_rfl) (fun _ _ _ h => h) (.inl ⟨by kernel_rfl, fun w' hS => by go_simp; rfl⟩) FS.out ?_
          refine wpAnyU_oneG (i := 10) rfl (by kernel_rfl) (by kernel_rfl) ?_
          refine wp_store_mid 29 (.tmp 12) (.tmp 58) rfl wt15.heap.size 0 (vwA (leftV V (V.ents.length / 2) q.1 page) (.slice A5 (leftV V (V.ents.length / 2) q.1 page).ents.length c5)) rfl rfl (BA.out.there0 rfl) view_sz8 (by simp [Value.oneCell']) ?_
          obtain ⟨wf, hz⟩ : ∃ z, z = wt28.setCells (wt15.heap.size) 0 (vwA (leftV V (V.ents.length / 2) q.1 page) (.slice A5 (leftV V (V.ents.length / 2) q.1 page).ents.length c5)).toList := ⟨_, rfl⟩
          have ov := BA.out.over (vwA (leftV V (V.ents.length / 2) q.1 page) (.slice A5 (leftV V (V.ents.length / 2) q.1 page).ents.length c5)).toList rfl
          rw [← hz] at ov
          have fS := FS.out.then_only ov.2 (.inr HA.out)
          refine ⟨.inr (by rw [← hz]; exact fS), ?_⟩
          change wpAnyU _ _ _ _ _ _ _ _ _ (wt28.setCells (wt15.heap.size) 0 (vwA (leftV V (V.ents.length / 2) q.1 page) (.slice A5 (leftV V (V.ents.length / 2) q.1 page).ents.length c5)).toList)
          rw [← hz]
          clear hz
          have WJ := hid_ (WI.out.far BA.out ov.2)
          have OV := hid_ (show Blk wf (wt15.heap.size) 29 (vwA (leftV V (V.ents.length / 2) q.1 page) (.slice A5 (leftV V (V.ents.length / 2) q.1 page).ents.length c5)) from ov.1)
          refine wpAnyU_take2 (i := 11) (v := _) rfl (by kernel_rfl) (by kernel_rfl) (by kernel_rfl) (by kernel_rfl) (fun _ _ _ h => h) (.inl ⟨by kernel_rfl, fun w' hS => by go_simp; rfl⟩) fS ?_
          refine wpAnyU_done (by kernel_rfl) ?_ _
          go_wp2_with fail
          go_meet
          exact ⟨_, A5, c5, rfl, rfl, HA.out, OV.out, WJ.out, fS⟩
      · skip
        go_simp
        have HA := hid_ FS.out.size
        obtain ⟨wt29, hz⟩ : ∃ z, z = we.alloc (.cells (vwA Vw.zero (.slice none 0 0)) 29) := ⟨_, rfl⟩
        have fz : Fr none_ we wt29 := by rw [hz]; exact (Fr.refl none_ we).alloc _
        have BA : Hid (Blk wt29 we.heap.size 29 (vwA Vw.zero (.slice none 0 0))) := hid_ (by rw [hz]; exact Blk.new we _ _)
        replace FS := hid_ (FS.out.then_none fz)
        change Fr none_ w6 (we.alloc (.cells (vwA Vw.zero (.slice none 0 0)) 29)) ∧ wpAnyU _ _ _ _ _ _ _ _ _ (we.alloc (.cells (vwA Vw.zero (.slice none 0 0)) 29))
        rw [← hz]
        refine ⟨FS.out, ?_⟩
        clear hz fz
        refine wpAnyU_two (i := 1) (j := 3) rfl rfl rfl rfl (by kernel_rfl) ?_ ?_
        · skip
          go_simp
          have HG := hid_ FS.out.size
          obtain ⟨wt30, hz⟩ : ∃ z, z = wt29.alloc (.cells (recL ⟨splitR q.1 page, none, 0, none, 0⟩).toArray 39) := ⟨_, rfl⟩
          have fz : Fr none_ wt29 wt30 := by rw [hz]; exact (Fr.refl none_ wt29).alloc _
          have BP : Hid (Blk wt30 wt29.heap.size 39 (recL ⟨splitR q.1 page, none, 0, none, 0⟩).toArray) := hid_ (by rw [hz]; exact Blk.new wt29 _ _)
          replace BA := hid_ (BA.out.fr fz id)
          replace FS := hid_ (FS.out.then_none fz)
          change Fr none_ w6 (wt29.alloc (.cells (recL ⟨splitR q.1 page, none, 0, none, 0⟩).toArray 39)) ∧ wpAnyU _ _ _ _ _ _ _ _ _ (wt29.alloc (.cells (recL ⟨splitR q.1 page, none, 0, none, 0⟩).toArray 39))
          rw [← hz]
          refine ⟨FS.out, ?_⟩
          clear hz fz
          refine wpAnyU_oneG (i := 3) rfl (by kernel_rfl) (by kernel_rfl) ?_
          go_simp
          refine (own8_ok A L.length cap L _ (((H.out.keep FS.out)).few HE.out) (by omega) (in_rows (H.out.keep FS.out))).mono ?_
          rintro e wt31 ⟨A9, c9, Ds, rfl, hCs, hown, hco, hf2⟩
          have DR := hid_ (And.intro hown hco)
          have DM := hid_ hCs
          replace BP := hid_ (BP.out.fr hf2 id)
          replace BA := hid_ (BA.out.fr hf2 id)
          replace FS := hid_ (FS.out.then_none hf2)
          refine ⟨FS.out, ?_⟩
          clear hCs hown hco hf2
          refine wpAnyU_oneG (i := 4) rfl (by kernel_rfl) (by kernel_rfl) ?_
          refine wp_append_any _ (.tmp 53) (.tmp 55) 22 rfl 0 39 i0 _ 15 192 Try.underlying22 Hi.out.1 Hi.out.2.1 Hi.out.2.2.1 Hi.out.2.2.2 rfl (by omega) (.slice (some ⟨wt29.heap.size, 0, none⟩) 1 1) 1 (recL ⟨splitR q.1 page, none, 0, none, 0⟩) rfl (own_rec BP.out) A9 L.length c9 (recFlat Ds) rfl (Reads.of_own DR.out.1) (recFlat_one _) (by simp only [maxLen]; omega) (by omega) (Nat.zero_le _) ?_
          intro A7 c7 wt32 hown hgr
          obtain ⟨hch, hfb⟩ := push_chain DM.out rfl BP.out DR.out hown hgr (bare_ok rfl rfl SzOk.nil SzOk.nil HQL.out SzOk.nil)
          have CH := hid_ hch
          replace BA := hid_ (BA.out.fr hfb (only_ne (Blk.ne_ BA.out BP.out (by decide))))
          replace FS := hid_ (FS.out.then_only hfb (.inr HG.out))
          refine ⟨.inr FS.out, ?_⟩
          clear hch hfb hown hgr DR BP
          refine wpAnyU_oneG (i := 5) rfl (by kernel_rfl) (by kernel_rfl) ?_
          go_simp
          have hpf : foldU ((⟨splitR q.1 page, none, 0, none, 0⟩ :: Ds).map (·.R)) = some (leftV V (V.ents.length / 2) q.1 page) := (fold_push_of HM.out DM.out HFO.out.2 _).trans (UP.out)
          have KP := hid_ (kind_push HM.out DM.out HFO.out.1 (R := splitR q.1 page) ⟨by show (7 : Int) ≤ 9; decide, by show (9 : Int) ≤ 11; decide⟩ (P := ⟨splitR q.1 page, none, 0, none, 0⟩) rfl)
          refine (fold_ok A7 (1 + L.length) c7 (⟨splitR q.1 page, none, 0, none, 0⟩ :: Ds) _ CH.out (by omega) (ents_push DM.out HE.out (Nat.zero_le _))).mono ?_
          rintro e wt33 (⟨W, A5, c5, -, hfo, rfl, hvin, -, hff⟩ | ⟨kk, -, hno, rfl, hff⟩)
          rotate_left
          · rw [hno KP.out] at hpf
            cases hpf
          obtain rfl : (leftV V (V.ents.length / 2) q.1 page) = W := Option.some.inj (hpf.symm.trans hfo)
          have WI := hid_ hvin
          replace BA := hid_ (BA.out.fr hff id)
          replace FS := hid_ (FS.out.then_none hff)
          refine ⟨FS.out, ?_⟩
          clear hfo hvin hff hpf KP CH
          refine wpAnyU_take2 (i := 6) (v := _) rfl (by kernel_rfl) (by kernel_rfl) (by kernel_rfl) (by kernel_rfl) (fun _ _ _ h => h) (.inl ⟨by kernel_rfl, fun w' hS => by go_simp; rfl⟩) FS.out ?_
          refine wpAnyU_take2 (i := 7) (v := _) rfl (by kernel_rfl) (by kernel_rfl) (by kernel_rfl) (by kernel_rfl) (fun _ _ _ h => h) (.inl ⟨by kernel_rfl, fun w' hS => by go_simp; rfl⟩) FS.out ?_
          refine wpAnyU_take2 (i := 8) (v := _) rfl (by kernel_rfl) (by kernel_rfl) (by kernel_rfl) (by kernel_rfl) (fun _ _ _ h => h) (.inl ⟨by kernel_rfl, fun w' hS => by go_simp; rfl⟩) FS.out ?_
          refine wpAnyU_oneG (i := 10) rfl (by kernel_rfl) (by kernel_rfl) ?_
          refine wp_store_mid 29 (.tmp 12) (.tmp 58) rfl we.heap.size 0 (vwA (leftV V (V.ents.length / 2) q.1 page) (.slice A5 (leftV V (V.ents.length / 2) q.1 page).ents.length c5)) rfl rfl (BA.out.there0 rfl) view_sz8 (by simp [Value.oneCell']) ?_
          obtain ⟨wf, hz⟩ : ∃ z, z = wt33.setCells (we.heap.size) 0 (vwA (leftV V (V.ents.length / 2) q.1 page) (.slice A5 (leftV V (V.ents.length / 2) q.1 page).ents.length c5)).toList := ⟨_, rfl⟩
          have ov := BA.out.over (vwA (leftV V (V.ents.length / 2) q.1 page) (.slice A5 (leftV V (V.ents.length / 2) q.1 page).ents.length c5)).toList rfl
          rw [← hz] at ov
          have fS := FS.out.then_only ov.2 (.inr HA.out)
          refine ⟨.inr (by rw [← hz]; exact fS), ?_⟩
          change wpAnyU _ _ _ _ _ _ _ _ _ (wt33.setCells (we.heap.size) 0 (vwA (leftV V (V.ents.length / 2) q.1 page) (.slice A5 (leftV V (V.ents.length / 2) q.1 page).ents.length c5)).toList)
          rw [← hz]
          clear hz
          have WJ := hid_ (WI.out.far BA.out ov.2)
          have OV := hid_ (show Blk wf (we.heap.size) 29 (vwA (leftV V (V.ents.length / 2) q.1 page) (.slice A5 (leftV V (V.ents.length / 2) q.1 page).ents.length c5)) from ov.1)
          refine wpAnyU_take2 (i := 11) (v := _) rfl (by kernel_rfl) (by kernel_rfl) (by kernel_rfl) (by kernel_rfl) (fun _ _ _ h => h) (.inl ⟨by kernel_rfl, fun w' hS => by go_simp; rfl⟩) fS ?_
          refine wpAnyU_done (by kernel_rfl) ?_ _
          go_wp2_with fail
          go_meet
          exact ⟨_, A5, c5, rfl, rfl, HA.out, OV.out, WJ.out, fS⟩
        · skip
          go_simp
          refine (own8_ok A L.length cap L _ (((H.out.keep FS.out)).few HE.out) (by omega) (in_rows (H.out.keep FS.out))).mono ?_
          rintro e wt34 ⟨A9, c9, Ds, rfl, hCs, hown, hco, hf2⟩
          have DR := hid_ (And.intro hown hco)
          have DM := hid_ hCs
          replace BA := hid_ (BA.out.fr hf2 id)
          replace FS := hid_ (FS.out.then_none hf2)
          refine ⟨FS.out, ?_⟩
          clear hCs hown hco hf2
          refine wpAnyU_oneG (i := 1) rfl (by kernel_rfl) (by kernel_rfl) ?_
          go_simp
          have HG := hid_ FS.out.size
          obtain ⟨wt35, hz⟩ : ∃ z, z = wt34.alloc (.cells (recL ⟨splitR q.1 page, none, 0, none, 0⟩).toArray 39) := ⟨_, rfl⟩
          have fz : Fr none_ wt34 wt35 := by rw [hz]; exact (Fr.refl none_ wt34).alloc _
          have BP : Hid (Blk wt35 wt34.heap.size 39 (recL ⟨splitR q.1 page, none, 0, none, 0⟩).toArray) := hid_ (by rw [hz]; exact Blk.new wt34 _ _)
          replace DR := hid_ (And.intro (own_none DR.out.1 fz) (fun C hC => (DR.out.2 C hC).keep fz))
          replace BA := hid_ (BA.out.fr fz id)
          replace FS := hid_ (FS.out.then_none fz)
          change Fr none_ w6 (wt34.alloc (.cells (recL ⟨splitR q.1 page, none, 0, none, 0⟩).toArray 39)) ∧ wpAnyU _ _ _ _ _ _ _ _ _ (wt34.alloc (.cells (recL ⟨splitR q.1 page, none, 0, none, 0⟩).toArray 39))
          rw [← hz]
          refine ⟨FS.out, ?_⟩
          clear hz fz
          refine wpAnyU_oneG (i := 4) rfl (by kernel_rfl) (by kernel_rfl) ?_
          refine wp_append_any _ (.tmp 53) (.tmp 55) 22 rfl 0 39 i0 _ 15 192 Try.underlying22 Hi.out.1 Hi.out.2.1 Hi.out.2.2.1 Hi.out.2.2.2 rfl (by omega) (.slice (some ⟨wt34.heap.size, 0, none⟩) 1 1) 1 (recL ⟨splitR q.1 page, none, 0, none, 0⟩) rfl (own_rec BP.out) A9 L.length c9 (recFlat Ds) rfl (Reads.of_own DR.out.1) (recFlat_one _) (by simp only [maxLen]; omega) (by omega) (Nat.zero_le _) ?_
          intro A7 c7 wt36 hown hgr
          obtain ⟨hch, hfb⟩ := push_chain DM.out rfl BP.out DR.out hown hgr (bare_ok rfl rfl SzOk.nil SzOk.nil HQL.out SzOk.nil)
          have CH := hid_ hch
          replace BA := hid_ (BA.out.fr hfb (only_ne (Blk.ne_ BA.out BP.out (by decide))))
          replace FS := hid_ (FS.out.then_only hfb (.inr HG.out))
          refine ⟨.inr FS.out, ?_⟩
          clear hch hfb hown hgr DR BP
          refine wpAnyU_oneG (i := 5) rfl (by kernel_rfl) (by kernel_rfl) ?_
          go_simp
          have hpf : foldU ((⟨splitR q.1 page, none, 0, none, 0⟩ :: Ds).map (·.R)) = some (leftV V (V.ents.length / 2) q.1 page) := (fold_push_of HM.out DM.out HFO.out.2 _).trans (UP.out)
          have KP := hid_ (kind_push HM.out DM.out HFO.out.1 (R := splitR q.1 page) ⟨by show (7 : Int) ≤ 9; decide, by show (9 : Int) ≤ 11; decide⟩ (P := ⟨splitR q.1 page, none, 0, none, 0⟩) rfl)
          refine (fold_ok A7 (1 + L.length) c7 (⟨splitR q.1 page, none, 0, none, 0⟩ :: Ds) _ CH.out (by omega) (ents_push DM.out HE.out (Nat.zero_le _))).mono ?_
          rintro e wt37 (⟨W, A5, c5, -, hfo, rfl, hvin, -, hff⟩ | ⟨kk, -, hno, rfl, hff⟩)
          rotate_left
          · rw [hno KP.out] at hpf
            cases hpf
          obtain rfl : (leftV V (V.ents.length / 2) q.1 page) = W := Option.some.inj (hpf.symm.trans hfo)
          have WI := hid_ hvin
          replace BA := hid_ (BA.out.fr hff id)
          replace FS := hid_ (FS.out.then_none hff)
          refine ⟨FS.out, ?_⟩
          clear hfo hvin hff hpf KP CH
          refine wpAnyU_take2 (i := 6) (v := _) rfl (by kernel_rfl) (by kernel_rfl) (by kernel_rfl) (by kernel_rfl) (fun _ _ _ h => h) (.inl ⟨by kernel_rfl, fun w' hS => by go_simp; rfl⟩) FS.out ?_
          refine wpAnyU_take2 (i := 7) (v := _) rfl (by kernel_rfl) (by kernel_rfl) (by kernel_rfl) (by kernel_rfl) (fun _ _ _ h => h) (.inl ⟨by kernel_rfl, fun w' hS => by go_simp; rfl⟩) FS.out ?_
          refine wpAnyU_take2 (i := 8) (v := _) rfl (by kernel_rfl) (by kernel_rfl) (by kernel_rfl) (by kernel_rfl) (fun _ _ _ h => h) (.inl ⟨by kernel_rfl, fun w' hS => by go_simp; rfl⟩) FS.out ?_
          refine wpAnyU_oneG (i := 10) rfl (by kernel_rfl) (by kernel_rfl) ?_
          refine wp_store_mid 29 (.tmp 12) (.tmp 58) rfl we.heap.size 0 (vwA (leftV V (V.ents.length / 2) q.1 page) (.slice A5 (leftV V (V.ents.length / 2) q.1 page).ents.length c5)) rfl rfl (BA.out.there0 rfl) view_sz8 (by simp [Value.oneCell']) ?_
          obtain ⟨wf, hz⟩ : ∃ z, z = wt37.setCells (we.heap.size) 0 (vwA (leftV V (V.ents.length / 2) q.1 page) (.slice A5 (leftV V (V.ents.length / 2) q.1 page).ents.length c5)).toList := ⟨_, rfl⟩
          have ov := BA.out.over (vwA (leftV V (V.ents.length / 2) q.1 page) (.slice A5 (leftV V (V.ents.length / 2) q.1 page).ents.length c5)).toList rfl
          rw [← hz] at ov
          have fS := FS.out.then_only ov.2 (.inr HA.out)
          refine ⟨.inr (by rw [← hz]; exact fS), ?_⟩
          change wpAnyU _ _ _ _ _ _ _ _ _ (wt37.setCells (we.heap.size) 0 (vwA (leftV V (V.ents.length / 2) q.1 page) (.slice A5 (leftV V (V.ents.length / 2) q.1 page).ents.length c5)).toList)
          rw [← hz]
          clear hz
          have WJ := hid_ (WI.out.far BA.out ov.2)
          have OV := hid_ (show Blk wf (we.heap.size) 29 (vwA (leftV V (V.ents.length / 2) q.1 page) (.slice A5 (leftV V (V.ents.length / 2) q.1 page).ents.length c5)) from ov.1)
          refine wpAnyU_take2 (i := 11) (v := _) rfl (by kernel_rfl) (by kernel_rfl) (by kernel_rfl) (by kernel_rfl) (fun _ _ _ h => h) (.inl ⟨by kernel_rfl, fun w' hS => by go_simp; rfl⟩) fS ?_
          refine wpAnyU_done (by kernel_rfl) ?_ _
          go_wp2_with fail
          go_meet
          exact ⟨_, A5, c5, rfl, rfl, HA.out, OV.out, WJ.out, fS⟩
    case rest =>
      obtain ⟨b, A5, c5, rfl, rfl, hb, hbt, hvi, hf⟩ := hcut
      have BL := hid_ hbt
      have WL := hid_ hvi
      replace H := hid_ (H.out.keep hf)
      replace F := hid_ (F.out.then_none hf)
      replace VI := hid_ (VI.out.keep hf)
      replace FV := hid_ (FV.out.then_none hf)
      replace BV := hid_ (BV.out.fr hf id)
      replace O2 := hid_ (own_none O2.out hf)
      replace R1 := hid_ (R1.out.fr hf id)
      replace R2 := hid_ (R2.out.fr hf id)
      clear hbt hvi hf
      go_wp2_with (refine wpList_load_mid rfl 39 (.tmp 10) rfl (w5.heap.size + 1) 0 rfl (recL ⟨baseR (rightV V (V.ents.length / 2) q.1), none, 0, X2, x2⟩) _ R2.out.range Try.underlying39 rfl rec_size8 ?_)
      obtain ⟨wa, hwa⟩ : ∃ z, z = wc.alloc (.cells (recL ⟨baseR (rightV V (V.ents.length / 2) q.1), none, 0, X2, x2⟩).toArray 39) := ⟨_, rfl⟩
      have fwa : Fr none_ wc wa := by rw [hwa]; exact (Fr.refl none_ wc).alloc _
      have BR0 : Hid (Blk wa wc.heap.size 39 ((recL ⟨baseR (rightV V (V.ents.length / 2) q.1), none, 0, X2, x2⟩).toArray)) := hid_ (by rw [hwa]; exact Blk.new wc _ _)
      replace H := hid_ (H.out.keep fwa)
      replace F := hid_ (F.out.then_none fwa)
      replace VI := hid_ (VI.out.keep fwa)
      replace FV := hid_ (FV.out.then_none fwa)
      replace BV := hid_ (BV.out.fr fwa id)
      replace O2 := hid_ (own_none O2.out fwa)
      replace R1 := hid_ (R1.out.fr fwa id)
      replace R2 := hid_ (R2.out.fr fwa id)
      replace BL := hid_ (BL.out.fr fwa id)
      replace WL := hid_ (WL.out.keep fwa)
      change Calls _ _ _ (wc.alloc (.cells (recL ⟨baseR (rightV V (V.ents.length / 2) q.1), none, 0, X2, x2⟩).toArray 39)) _
      rw [← hwa]
      clear hwa fwa
      have CR := hid_ (chReads_blk (w := wa) (g := wc.heap.size) (Cs := [⟨baseR (rightV V (V.ents.length / 2) q.1), none, 0, X2, x2⟩]) BR0.out rfl (fun C hC => by
        obtain rfl : C = ⟨baseR (rightV V (V.ents.length / 2) q.1), none, 0, X2, x2⟩ := by simpa using hC
        exact base_chok O2.out OK.out))
      refine (fold_ok (some ⟨wc.heap.size, 0, none⟩) 1 1 [⟨baseR (rightV V (V.ents.length / 2) q.1), none, 0, X2, x2⟩] _ CR.out (by omega) (fun C hC => by
        obtain rfl : C = ⟨baseR (rightV V (V.ents.length / 2) q.1), none, 0, X2, x2⟩ := by simpa using hC
        have := HL2.out
        show (rightV V (V.ents.length / 2) q.1).ents.length ≤ 500
        omega)).mono ?_
      rintro e wb (⟨W, Y2, y2, -, hfo, rfl, hvin, -, hf7⟩ | ⟨k, -, hno, rfl, hf7⟩)
      rotate_left
      · have : foldU [baseR (rightV V (V.ents.length / 2) q.1)] = none := hno (fun R hR => by
          obtain rfl : R = baseR (rightV V (V.ents.length / 2) q.1) := by simpa using hR
          exact ⟨by show (7 : Int) ≤ 7; decide, by show (7 : Int) ≤ 11; decide⟩)
        rw [base_fold S2.out] at this
        cases this
      obtain rfl : dropH (rightV V (V.ents.length / 2) q.1) = W := by have hfo : foldU [baseR (rightV V (V.ents.length / 2) q.1)] = some W := hfo; rw [base_fold S2.out] at hfo; exact Option.some.inj hfo
      have WR := hid_ hvin
      replace H := hid_ (H.out.keep hf7)
      replace F := hid_ (F.out.then_none hf7)
      replace VI := hid_ (VI.out.keep hf7)
      replace FV := hid_ (FV.out.then_none hf7)
      replace BV := hid_ (BV.out.fr hf7 id)
      replace O2 := hid_ (own_none O2.out hf7)
      replace R1 := hid_ (R1.out.fr hf7 id)
      replace R2 := hid_ (R2.out.fr hf7 id)
      replace BL := hid_ (BL.out.fr hf7 id)
      replace WL := hid_ (WL.out.keep hf7)
      clear hfo hvin hf7 CR BR0
      go_upto_region 9 with fail
      obtain ⟨wd, hwd⟩ : ∃ z, z = wb.alloc (.cells (vwA (dropH (rightV V (V.ents.length / 2) q.1)) (.slice Y2 (rightV V (V.ents.length / 2) q.1).ents.length y2)) 29) := ⟨_, rfl⟩
      have fwd : Fr none_ wb wd := by rw [hwd]; exact (Fr.refl none_ wb).alloc _
      have BX : Hid (Blk wd wb.heap.size 29 (vwA (dropH (rightV V (V.ents.length / 2) q.1)) (.slice Y2 (rightV V (V.ents.length / 2) q.1).ents.length y2))) := hid_ (by rw [hwd]; exact Blk.new wb _ _)
      replace H := hid_ (H.out.keep fwd)
      replace F := hid_ (F.out.then_none fwd)
      replace VI := hid_ (VI.out.keep fwd)
      replace FV := hid_ (FV.out.then_none fwd)
      replace BV := hid_ (BV.out.fr fwd id)
      replace O2 := hid_ (own_none O2.out fwd)
      replace R1 := hid_ (R1.out.fr fwd id)
      replace R2 := hid_ (R2.out.fr fwd id)
      replace BL := hid_ (BL.out.fr fwd id)
      replace WL := hid_ (WL.out.keep fwd)
      replace WR := hid_ (WR.out.keep fwd)
      change Code.wp _ _ _ _ (wb.alloc (.cells (vwA (dropH (rightV V (V.ents.length / 2) q.1)) (.slice Y2 (rightV V (V.ents.length / 2) q.1).ents.length y2)) 29))
      rw [← hwd]
      clear hwd fwd
      have l1 : wd.cell? ⟨b, 1, none⟩ = some (.string q.1) := BL.out.cell' rfl
      have l2 : wd.cell? ⟨b, 2, none⟩ = some (.bool false) := BL.out.cell' rfl
      have l3 : wd.cell? ⟨b, 3, none⟩ = some (.int .i64 page) := BL.out.cell' rfl
      have l4 : wd.cell? ⟨b, 4, none⟩ = some (.slice A5 (leftV V (V.ents.length / 2) q.1 page).ents.length c5) := BL.out.cell' rfl
      have x0 : wd.cell? ⟨wb.heap.size, 0, none⟩ = some (.string q.1) := BX.out.cell' rfl
      have x1 : wd.cell? ⟨wb.heap.size, 1, none⟩ = some (.string V.high) := BX.out.cell' rfl
      have x2 : wd.cell? ⟨wb.heap.size, 2, none⟩ = some (.bool V.unb) := BX.out.cell' rfl
      have x3 : wd.cell? ⟨wb.heap.size, 3, none⟩ = some (.int .i64 V.right) := BX.out.cell' rfl
      have x4 : wd.cell? ⟨wb.heap.size, 4, none⟩ = some (.slice Y2 (rightV V (V.ents.length / 2) q.1).ents.length y2) := BX.out.cell' rfl
      have v1 : wd.cell? ⟨w3.heap.size, 1, none⟩ = some (.string V.high) := BV.out.cell' rfl
      have v2 : wd.cell? ⟨w3.heap.size, 2, none⟩ = some (.bool V.unb) := BV.out.cell' rfl
      have v3 : wd.cell? ⟨w3.heap.size, 3, none⟩ = some (.int .i64 V.right) := BV.out.cell' rfl
      have v4 : wd.cell? ⟨w3.heap.size, 4, none⟩ = some (.slice A3 V.ents.length c3) := BV.out.cell' rfl
      obtain ⟨j0, hj0, hy0, ht0, hc0⟩ := info_parts entry_info
      have Hj := hid_ (And.intro hj0 (And.intro hy0 (And.intro ht0 hc0)))
      clear hj0 hy0 ht0 hc0
      have hS1 : (fun w' : World => Fr none_ wd w') wd.drew := (Fr.refl none_ wd).drew
      refine wp_region_U (m := 57) (S := fun w' : World => Fr none_ wd w') (by kernel_rfl) ?_
      refine wpAnyU_take2 (i := 0) (v := _) rfl (by kernel_rfl) (by kernel_rfl) (by kernel_rfl) (by kernel_rfl) (fun _ _ _ h => h) (.inl ⟨by kernel_rfl, fun w' hS => by go_simp; rfl⟩) hS1 ?_
      refine wpAnyU_take2 (i := 1) (v := _) rfl (by kernel_rfl) (by kernel_rfl) (by kernel_rfl) (by kernel_rfl) (fun _ _ _ h => h) (.inl ⟨by kernel_rfl, fun w' hS => by go_simp; rfl⟩) hS1 ?_
      refine wpAnyU_take2 (i := 2) (v := _) rfl (by kernel_rfl) (by kernel_rfl) (by kernel_rfl) (by kernel_rfl) (fun _ _ _ h => h) (.inl ⟨by kernel_rfl, fun w' hS => by go_simp; rfl⟩) hS1 ?_
      refine wpAnyU_take2 (i := 3) (v := _) rfl (by kernel_rfl) (by kernel_rfl) (by kernel_rfl) (by kernel_rfl) (fun _ _ _ h => h) (.inl ⟨by kernel_rfl, fun w' hS => by go_simp; rfl⟩) hS1 ?_
      refine wpAnyU_take2 (i := 4) (v := _) rfl (by kernel_rfl) (by kernel_rfl) (by kernel_rfl) (by kernel_rfl) (fun _ _ _ h => h) (.inl ⟨by kernel_rfl, fun w' hS => by go_simp; rfl⟩) hS1 ?_
      refine wpAnyU_take2 (i := 5) (v := _) rfl (by kernel_rfl) (by kernel_rfl) (by kernel_rfl) (by kernel_rfl) (fun _ _ _ h => h) (.inl ⟨by kernel_rfl, fun w' hS => by go_simp; rfl⟩) hS1 ?_
      refine wpAnyU_take2 (i := 6) (v := _) rfl (by kernel_rfl) (by kernel_rfl) (by kernel_rfl) (by kernel_rfl) (fun _ _ _ h => h) (.inl ⟨by kernel_rfl, fun w' hS => by go_simp; rfl⟩) hS1 ?_
      refine wpAnyU_take2 (i := 7) (v := _) rfl (by kernel_rfl) (by kernel_rfl) (by kernel_rfl) (by kernel_rfl) (fun _ _ _ h => h) (.inl ⟨by kernel_rfl, fun w' hS => by go_simp; rfl⟩) hS1 ?_
      refine wpAnyU_take2 (i := 8) (v := _) rfl (by kernel_rfl) (by kernel_rfl) (by kernel_rfl) (by kernel_rfl) (fun _ _ _ h => h) (.inl ⟨by kernel_rfl, fun w' hS => by have s_ := cellFr l1 hS; go_simp; rfl⟩) hS1 ?_
      refine wpAnyU_take2 (i := 9) (v := _) rfl (by kernel_rfl) (by kernel_rfl) (by kernel_rfl) (by kernel_rfl) (fun _ _ _ h => h) (.inl ⟨by kernel_rfl, fun w' hS => by go_simp; rfl⟩) hS1 ?_
      refine wpAnyU_take2 (i := 10) (v := _) rfl (by kernel_rfl) (by kernel_rfl) (by kernel_rfl) (by kernel_rfl) (fun _ _ _ h => h) (.inl ⟨by kernel_rfl, fun w' hS => by have s_ := cellFr x0 hS; go_simp; rfl⟩) hS1 ?_
      refine wpAnyU_take2 (i := 11) (v := _) rfl (by kernel_rfl) (by kernel_rfl) (by kernel_rfl) (by kernel_rfl) (fun _ _ _ h => h) (.inl ⟨by kernel_rfl, fun w' hS => by go_simp; rfl⟩) hS1 ?_
      refine wpAnyU_take2 (i := 12) (v := _) rfl (by kernel_rfl) (by kernel_rfl) (by kernel_rfl) (by kernel_rfl) (fun _ _ _ h => h) (.inl ⟨by kernel_rfl, fun w' hS => by go_simp; rfl⟩) hS1 ?_
      refine wpAnyU_take2 (i := 13) (v := _) rfl (by kernel_rfl) (by kernel_rfl) (by kernel_rfl) (by kernel_rfl) (fun _ _ _ h => h) (.inl ⟨by kernel_rfl, fun w' hS => by go_simp; rfl⟩) hS1 ?_
      refine wpAnyU_take2 (i := 14) (v := _) rfl (by kernel_rfl) (by kernel_rfl) (by kernel_rfl) (by kernel_rfl) (fun _ _ _ h => h) (.inl ⟨by kernel_rfl, fun w' hS => by go_simp; rfl⟩) hS1 ?_
      refine wpAnyU_take2 (i := 15) (v := _) rfl (by kernel_rfl) (by kernel_rfl) (by kernel_rfl) (by kernel_rfl) (fun _ _ _ h => h) (.inl ⟨by kernel_rfl, fun w' hS => by have s_ := cellFr l2 hS; go_simp; rfl⟩) hS1 ?_
      refine wpAnyU_take2 (i := 16) (v := _) rfl (by kernel_rfl) (by kernel_rfl) (by kernel_rfl) (by kernel_rfl) (fun _ _ _ h => h) (.inl ⟨by kernel_rfl, fun w' hS => by go_simp; rfl⟩) hS1 ?_
      refine wpAnyU_take2 (i := 17) (v := _) rfl (by kernel_rfl) (by kernel_rfl) (by kernel_rfl) (by kernel_rfl) (fun _ _ _ h => h) (.inl ⟨by kernel_rfl, fun w' hS => by go_simp; rfl⟩) hS1 ?_
      refine wpAnyU_take2 (i := 18) (v := _) rfl (by kernel_rfl) (by kernel_rfl) (by kernel_rfl) (by kernel_rfl) (fun _ _ _ h => h) (.inl ⟨by kernel_rfl, fun w' hS => by go_simp; rfl⟩) hS1 ?_
      refine wpAnyU_take2 (i := 19) (v := _) rfl (by kernel_rfl) (by kernel_rfl) (by kernel_rfl) (by kernel_rfl) (fun _ _ _ h => h) (.inl ⟨by kernel_rfl, fun w' hS => by have s_ := cellFr l3 hS; go_simp; rfl⟩) hS1 ?_
      refine wpAnyU_take2 (i := 20) (v := _) rfl (by kernel_rfl) (by kernel_rfl) (by kernel_rfl) (by kernel_rfl) (fun _ _ _ h => h) (.inl ⟨by kernel_rfl, fun w' hS => by go_simp; rfl⟩) hS1 ?_
      refine wpAnyU_take2 (i := 21) (v := _) rfl (by kernel_rfl) (by kernel_rfl) (by kernel_rfl) (by kernel_rfl) (fun _ _ _ h => h) (.inl ⟨by kernel_rfl, fun w' hS => by go_simp; rfl⟩) hS1 ?_
      refine wpAnyU_take2 (i := 22) (v := _) rfl (by kernel_rfl) (by kernel_rfl) (by kernel_rfl) (by kernel_rfl) (fun _ _ _ h => h) (.inl ⟨by kernel_rfl, fun w' hS => by go_simp; rfl⟩) hS1 ?_
      refine wpAnyU_take2 (i := 23) (v := _) rfl (by kernel_rfl) (by kernel_rfl) (by kernel_rfl) (by kernel_rfl) (fun _ _ _ h => h) (.inl ⟨by kernel_rfl, fun w' hS => by go_simp; rfl⟩) hS1 ?_
      refine wpAnyU_take2 (i := 24) (v := _) rfl (by kernel_rfl) (by kernel_rfl) (by kernel_rfl) (by kernel_rfl) (fun _ _ _ h => h) (.inl ⟨by kernel_rfl, fun w' hS => by go_simp; rfl⟩) hS1 ?_
      refine wpAnyU_take2 (i := 25) (v := _) rfl (by kernel_rfl) (by kernel_rfl) (by kernel_rfl) (by kernel_rfl) (fun _ _ _ h => h) (.inl ⟨by kernel_rfl, fun w' hS => by have s_ := cellFr x3 hS; go_simp; rfl⟩) hS1 ?_
      refine wpAnyU_take2 (i := 26) (v := _) rfl (by kernel_rfl) (by kernel_rfl) (by kernel_rfl) (by kernel_rfl) (fun _ _ _ h => h) (.inl ⟨by kernel_rfl, fun w' hS => by go_simp; rfl⟩) hS1 ?_
      refine wpAnyU_take2 (i := 27) (v := _) rfl (by kernel_rfl) (by kernel_rfl) (by kernel_rfl) (by kernel_rfl) (fun _ _ _ h => h) (.inl ⟨by kernel_rfl, fun w' hS => by have s_ := cellFr v3 hS; go_simp; rfl⟩) hS1 ?_
      refine wpAnyU_take2 (i := 28) (v := _) rfl (by kernel_rfl) (by kernel_rfl) (by kernel_rfl) (by kernel_rfl) (fun _ _ _ h => h) (.inl ⟨by kernel_rfl, fun w' hS => by go_simp; rfl⟩) hS1 ?_
      refine wpAnyU_take2 (i := 29) (v := _) rfl (by kernel_rfl) (by kernel_rfl) (by kernel_rfl) (by kernel_rfl) (fun _ _ _ h => h) (.inl ⟨by kernel_rfl, fun w' hS => by go_simp; rfl⟩) hS1 ?_
      refine wpAnyU_take2 (i := 30) (v := _) rfl (by kernel_rfl) (by kernel_rfl) (by kernel_rfl) (by kernel_rfl) (fun _ _ _ h => h) (.inl ⟨by kernel_rfl, fun w' hS => by go_simp; rfl⟩) hS1 ?_
      refine wpAnyU_take2 (i := 31) (v := _) rfl (by kernel_rfl) (by kernel_rfl) (by kernel_rfl) (by kernel_rfl) (fun _ _ _ h => h) (.inl ⟨by kernel_rfl, fun w' hS => by go_simp; rfl⟩) hS1 ?_
      refine wpAnyU_take2 (i := 32) (v := _) rfl (by kernel_rfl) (by kernel_rfl) (by kernel_rfl) (by kernel_rfl) (fun _ _ _ h => h) (.inl ⟨by kernel_rfl, fun w' hS => by have s_ := cellFr x1 hS; go_simp; rfl⟩) hS1 ?_
      refine wpAnyU_take2 (i := 33) (v := _) rfl (by kernel_rfl) (by kernel_rfl) (by kernel_rfl) (by kernel_rfl) (fun _ _ _ h => h) (.inl ⟨by kernel_rfl, fun w' hS => by go_simp; rfl⟩) hS1 ?_
      refine wpAnyU_take2 (i := 34) (v := _) rfl (by kernel_rfl) (by kernel_rfl) (by kernel_rfl) (by kernel_rfl) (fun _ _ _ h => h) (.inl ⟨by kernel_rfl, fun w' hS => by have s_ := cellFr v1 hS; go_simp; rfl⟩) hS1 ?_
      refine wpAnyU_take2 (i := 35) (v := _) rfl (by kernel_rfl) (by kernel_rfl) (by kernel_rfl) (by kernel_rfl) (fun _ _ _ h => h) (.inl ⟨by kernel_rfl, fun w' hS => by go_simp; rfl⟩) hS1 ?_
      refine wpAnyU_take2 (i := 36) (v := _) rfl (by kernel_rfl) (by kernel_rfl) (by kernel_rfl) (by kernel_rfl) (fun _ _ _ h => h) (.inl ⟨by kernel_rfl, fun w' hS => by go_simp; rfl⟩) hS1 ?_
      refine wpAnyU_take2 (i := 37) (v := _) rfl (by kernel_rfl) (by kernel_rfl) (by kernel_rfl) (by kernel_rfl) (fun _ _ _ h => h) (.inl ⟨by kernel_rfl, fun w' hS => by go_simp; rfl⟩) hS1 ?_
      refine wpAnyU_take2 (i := 38) (v := _) rfl (by kernel_rfl) (by kernel_rfl) (by kernel_rfl) (by kernel_rfl) (fun _ _ _ h => h) (.inl ⟨by kernel_rfl, fun w' hS => by go_simp; rfl⟩) hS1 ?_
      refine wpAnyU_take2 (i := 39) (v := _) rfl (by kernel_rfl) (by kernel_rfl) (by kernel_rfl) (by kernel_rfl) (fun _ _ _ h => h) (.inl ⟨by kernel_rfl, fun w' hS => by have s_ := cellFr x2 hS; go_simp; rfl⟩) hS1 ?_
      refine wpAnyU_take2 (i := 40) (v := _) rfl (by kernel_rfl) (by kernel_rfl) (by kernel_rfl) (by kernel_rfl) (fun _ _ _ h => h) (.inl ⟨by kernel_rfl, fun w' hS => by go_simp; rfl⟩) hS1 ?_
      refine wpAnyU_take2 (i := 41) (v := _) rfl (by kernel_rfl) (by kernel_rfl) (by kernel_rfl) (by kernel_rfl) (fun _ _ _ h => h) (.inl ⟨by kernel_rfl, fun w' hS => by have s_ := cellFr v2 hS; go_simp; rfl⟩) hS1 ?_
      refine wpAnyU_take2 (i := 42) (v := _) rfl (by kernel_rfl) (by kernel_rfl) (by kernel_rfl) (by kernel_rfl) (fun _ _ _ h => h) (.inl ⟨by kernel_rfl, fun w' hS => by go_simp; rfl⟩) hS1 ?_
      refine wpAnyU_take2 (i := 43) (v := _) rfl (by kernel_rfl) (by kernel_rfl) (by kernel_rfl) (by kernel_rfl) (fun _ _ _ h => h) (.inl ⟨by kernel_rfl, fun w' hS => by go_simp; rfl⟩) hS1 ?_
      refine wpAnyU_take2 (i := 44) (v := _) rfl (by kernel_rfl) (by kernel_rfl) (by kernel_rfl) (by kernel_rfl) (fun _ _ _ h => h) (.inl ⟨by kernel_rfl, fun w' hS => by go_simp; rfl⟩) hS1 ?_
      refine wpAnyU_take2 (i := 46) (v := _) rfl (by kernel_rfl) (by kernel_rfl) (by kernel_rfl) (by kernel_rfl) (fun _ _ _ h => h) (.inl ⟨by kernel_rfl, fun w' hS => by go_simp; rfl⟩) hS1 ?_
      refine wpAnyU_take2 (i := 47) (v := _) rfl (by kernel_rfl) (by kernel_rfl) (by kernel_rfl) (by kernel_rfl) (fun _ _ _ h => h) (.inl ⟨by kernel_rfl, fun w' hS => by have s_ := cellFr l4 hS; go_simp; rfl⟩) hS1 ?_
      refine wpAnyU_take2 (i := 49) (v := _) rfl (by kernel_rfl) (by kernel_rfl) (by kernel_rfl) (by kernel_rfl) (fun _ _ _ h => h) (.inl ⟨by kernel_rfl, fun w' hS => by go_simp; rfl⟩) hS1 ?_
      refine wpAnyU_take2 (i := 50) (v := _) rfl (by kernel_rfl) (by kernel_rfl) (by kernel_rfl) (by kernel_rfl) (fun _ _ _ h => h) (.inl ⟨by kernel_rfl, fun w' hS => by have s_ := cellFr x4 hS; go_simp; rfl⟩) hS1 ?_
      refine wpAnyU_take2 (i := 52) (v := _) rfl (by kernel_rfl) (by kernel_rfl) (by kernel_rfl) (by kernel_rfl) (fun _ _ _ h => h) (.inl ⟨by kernel_rfl, fun w' hS => by go_simp; rfl⟩) hS1 ?_
      refine wpAnyU_take2 (i := 53) (v := _) rfl (by kernel_rfl) (by kernel_rfl) (by kernel_rfl) (by kernel_rfl) (fun _ _ _ h => h) (.inl ⟨by kernel_rfl, fun w' hS => by have s_ := cellFr v4 hS; go_simp; rfl⟩) hS1 ?_
      clear l1 l2 l3 l4 x0 x1 x2 x3 x4 v1 v2 v3 v4
      have HLL := hid_ (show (leftV V (V.ents.length / 2) q.1 page).ents.length ≤ 140 ∧ (rightV V (V.ents.length / 2) q.1).ents.length ≤ 140 from ⟨by show (List.take _ _).length ≤ 140; simp; omega, HL2.out⟩)
      refine wpAnyU_oneG (i := 45) rfl (by kernel_rfl) (by kernel_rfl) ?_
      go_simp
      refine ⟨((Fr.refl none_ wd).alloc _).drew, ?_⟩
      obtain ⟨we, hwe⟩ : ∃ z, z = (wd.alloc (.cells #[] 47)).drew := ⟨_, rfl⟩
      have hOD : we.ownsRow wd.heap.size 47 2 (.slice (some ⟨wd.heap.size, 0, none⟩) 0 0) 0 [] := by rw [hwe]; exact (own_empty_at wd _ 2 wd.heap.size _ (Nat.le_refl _) rfl).drew
      have fD : Fr none_ wd we := by rw [hwe]; exact ((Fr.refl none_ wd).alloc _).drew
      rw [← hwe]
      clear hwe hS1
      refine wpAnyU_oneG (i := 48) rfl (by kernel_rfl) (by kernel_rfl) ?_
      refine wp_append_at _ (.tmp 111) (.tmp 113) 25 rfl wd.heap.size 47 j0 _ 2 24 Try.underlying25 Hj.out.1 Hj.out.2.1 Hj.out.2.2.1 Hj.out.2.2.2 rfl (by omega) (.slice (some ⟨wd.heap.size, 0, none⟩) 0 0) (0) ([]) rfl hOD A5 (leftV V (V.ents.length / 2) q.1 page).ents.length c5 (etFlat (leftV V (V.ents.length / 2) q.1 page).ents) rfl ((WL.out.keep fD).rd) (etFlat_one _) (by simp only [maxLen]; have := HLL.out; omega) (by have := HLL.out; omega) (by have := fD.size; omega) ?_
      intro v1 wx1 hown1 hgr1 hat1
      have fX : Fr none_ wd wx1 := fD.grown hgr1 (fun k hk => .inr (hOD.lt k hk).1)
      refine ⟨.inr fX, ?_⟩
      clear hgr1 hat1 hOD fD
      refine wpAnyU_oneG (i := 51) rfl (by kernel_rfl) (by kernel_rfl) ?_
      refine wp_append_at _ (.tmp 114) (.tmp 116) 25 rfl wd.heap.size 47 j0 _ 2 24 Try.underlying25 Hj.out.1 Hj.out.2.1 Hj.out.2.2.1 Hj.out.2.2.2 rfl (by omega) (v1) (0 + (leftV V (V.ents.length / 2) q.1 page).ents.length) ([] ++ etFlat (leftV V (V.ents.length / 2) q.1 page).ents) rfl hown1 Y2 (rightV V (V.ents.length / 2) q.1).ents.length y2 (etFlat (rightV V (V.ents.length / 2) q.1).ents) rfl ((WR.out.keep fX).rd) (etFlat_one _) (by simp only [maxLen]; have := HLL.out; omega) (by have := HLL.out; omega) (by have := fX.size; omega) ?_
      intro v2 wx2 hown2 hgr2 hat2
      have fX2 : Fr none_ wd wx2 := fX.grown hgr2 (fun k hk => .inr (hown1.lt k hk).1)
      refine ⟨.inr fX2, ?_⟩
      clear hgr2 hat2 hown1 fX
      have hee : (leftV V (V.ents.length / 2) q.1 page).ents ++ (rightV V (V.ents.length / 2) q.1).ents = V.ents := halves_ents
      have hL : 0 + (leftV V (V.ents.length / 2) q.1 page).ents.length + (rightV V (V.ents.length / 2) q.1).ents.length = V.ents.length := by have h9 := congrArg List.length hee; rw [List.length_append] at h9; omega
      have hX : [] ++ etFlat (leftV V (V.ents.length / 2) q.1 page).ents ++ etFlat (rightV V (V.ents.length / 2) q.1).ents = etFlat V.ents := by rw [← congrArg etFlat hee]; simp [etFlat]
      rw [hL, hX] at hown2
      obtain ⟨Aq, cq, hv2, -⟩ := own_parts hown2
      subst hv2
      clear hL hX hee
      refine wpAnyU_oneG (i := 54) rfl (by kernel_rfl) (by kernel_rfl) ?_
      go_simp
      refine (sameEntries_ok V.ents Aq A3 cq c3 _ (Reads.of_own hown2) (VI.out.keep fX2).rd (by omega)).mono ?_
      rintro e wz ⟨rfl, hfz⟩
      have fZ := fX2.then_none hfz
      refine ⟨fZ, ?_⟩
      clear hown2 fX2 hfz
      refine wpAnyU_oneG (i := 55) rfl (by kernel_rfl) (by kernel_rfl) ?_
      go_simp
      refine wpAnyU_oneG (i := 56) rfl (by kernel_rfl) (by kernel_rfl) ?_
      go_simp
      refine wpAnyU_done (by kernel_rfl) ?_ _
      replace H := hid_ (H.out.keep fZ)
      replace F := hid_ (F.out.then_none fZ)
      replace VI := hid_ (VI.out.keep fZ)
      replace FV := hid_ (FV.out.then_none fZ)
      replace BV := hid_ (BV.out.fr fZ id)
      replace O2 := hid_ (own_none O2.out fZ)
      replace R1 := hid_ (R1.out.fr fZ id)
      replace R2 := hid_ (R2.out.fr fZ id)
      replace BL := hid_ (BL.out.fr fZ id)
      replace WL := hid_ (WL.out.keep fZ)
      replace WR := hid_ (WR.out.keep fZ)
      replace BX := hid_ (BX.out.fr fZ id)
      clear fZ
      have v0 : wz.cell? ⟨w3.heap.size, 0, none⟩ = some (.string V.low) := BV.out.cell' rfl
      have v1 : wz.cell? ⟨w3.heap.size, 1, none⟩ = some (.string V.high) := BV.out.cell' rfl
      have v2 : wz.cell? ⟨w3.heap.size, 2, none⟩ = some (.bool V.unb) := BV.out.cell' rfl
      have v3 : wz.cell? ⟨w3.heap.size, 3, none⟩ = some (.int .i64 V.right) := BV.out.cell' rfl
      have v4 : wz.cell? ⟨w3.heap.size, 4, none⟩ = some (.slice A3 V.ents.length c3) := BV.out.cell' rfl
      have v5 : wz.cell? ⟨w3.heap.size, 5, none⟩ = some (.bool V.held) := BV.out.cell' rfl
      have v6 : wz.cell? ⟨w3.heap.size, 6, none⟩ = some (.int .i64 V.hp) := BV.out.cell' rfl
      have v7 : wz.cell? ⟨w3.heap.size, 7, none⟩ = some (.int .i64 V.hl) := BV.out.cell' rfl
      have v8 : wz.cell? ⟨w3.heap.size, 8, none⟩ = some (.string V.hk) := BV.out.cell' rfl
      go_wp2_with fail
      refine (child_ok V A3 c3 key _ VI.out hks).mono ?_
      rintro e w12 ⟨(⟨cc, hch, rfl⟩ | ⟨hch, rfl⟩), hf12⟩
      rotate_left
      · skip
        replace H := hid_ (H.out.keep hf12)
        replace F := hid_ (F.out.then_none hf12)
        replace VI := hid_ (VI.out.keep hf12)
        replace FV := hid_ (FV.out.then_none hf12)
        replace BV := hid_ (BV.out.fr hf12 id)
        replace O2 := hid_ (own_none O2.out hf12)
        replace R1 := hid_ (R1.out.fr hf12 id)
        replace R2 := hid_ (R2.out.fr hf12 id)
        replace BL := hid_ (BL.out.fr hf12 id)
        replace WL := hid_ (WL.out.keep hf12)
        replace WR := hid_ (WR.out.keep hf12)
        replace BX := hid_ (BX.out.fr hf12 id)
        have HPN := hid_ (parts_none G.out.s HN0.out HQ.out.2.2 page hch)
        clear hf12 hch
        clear v0 v1 v2 v3 v4 v5 v6 v7 v8
        go_upto_region 12 with fail
        obtain ⟨w13, hw13⟩ : ∃ z, z = w12.alloc (.cells #[.string nilS, .int .i64 0] 47) := ⟨_, rfl⟩
        have fw13 : Fr none_ w12 w13 := by rw [hw13]; exact (Fr.refl none_ w12).alloc _
        have BC : Hid (Blk w13 w12.heap.size 47 (#[.string nilS, .int .i64 0])) := hid_ (by rw [hw13]; exact Blk.new w12 _ _)
        replace H := hid_ (H.out.keep fw13)
        replace F := hid_ (F.out.then_none fw13)
        replace VI := hid_ (VI.out.keep fw13)
        replace FV := hid_ (FV.out.then_none fw13)
        replace BV := hid_ (BV.out.fr fw13 id)
        replace O2 := hid_ (own_none O2.out fw13)
        replace R1 := hid_ (R1.out.fr fw13 id)
        replace R2 := hid_ (R2.out.fr fw13 id)
        replace BL := hid_ (BL.out.fr fw13 id)
        replace WL := hid_ (WL.out.keep fw13)
        replace WR := hid_ (WR.out.keep fw13)
        replace BX := hid_ (BX.out.fr fw13 id)
        change Code.wp _ _ _ _ (w12.alloc (.cells #[.string nilS, .int .i64 0] 47))
        rw [← hw13]
        clear hw13 fw13
        have v0 : w13.cell? ⟨b, 0, none⟩ = some (.string (leftV V (V.ents.length / 2) q.1 page).low) := BL.out.cell' rfl
        have v1 : w13.cell? ⟨b, 1, none⟩ = some (.string (leftV V (V.ents.length / 2) q.1 page).high) := BL.out.cell' rfl
        have v2 : w13.cell? ⟨b, 2, none⟩ = some (.bool (leftV V (V.ents.length / 2) q.1 page).unb) := BL.out.cell' rfl
        have v3 : w13.cell? ⟨b, 3, none⟩ = some (.int .i64 (leftV V (V.ents.length / 2) q.1 page).right) := BL.out.cell' rfl
        have v4 : w13.cell? ⟨b, 4, none⟩ = some (.slice A5 (leftV V (V.ents.length / 2) q.1 page).ents.length c5) := BL.out.cell' rfl
        have v5 : w13.cell? ⟨b, 5, none⟩ = some (.bool (leftV V (V.ents.length / 2) q.1 page).held) := BL.out.cell' rfl
        have v6 : w13.cell? ⟨b, 6, none⟩ = some (.int .i64 (leftV V (V.ents.length / 2) q.1 page).hp) := BL.out.cell' rfl
        have v7 : w13.cell? ⟨b, 7, none⟩ = some (.int .i64 (leftV V (V.ents.length / 2) q.1 page).hl) := BL.out.cell' rfl
        have v8 : w13.cell? ⟨b, 8, none⟩ = some (.string (leftV V (V.ents.length / 2) q.1 page).hk) := BL.out.cell' rfl
        go_wp2_with fail
        refine (child_ok (leftV V (V.ents.length / 2) q.1 page) A5 c5 key _ WL.out hks).mono ?_
        rintro e w14 ⟨(⟨d, hd3, rfl⟩ | ⟨hd3, rfl⟩), hf14⟩
        · rw [HPN.out.1] at hd3
          cases hd3
        replace H := hid_ (H.out.keep hf14)
        replace F := hid_ (F.out.then_none hf14)
        replace VI := hid_ (VI.out.keep hf14)
        replace FV := hid_ (FV.out.then_none hf14)
        replace BV := hid_ (BV.out.fr hf14 id)
        replace O2 := hid_ (own_none O2.out hf14)
        replace R1 := hid_ (R1.out.fr hf14 id)
        replace R2 := hid_ (R2.out.fr hf14 id)
        replace BL := hid_ (BL.out.fr hf14 id)
        replace WL := hid_ (WL.out.keep hf14)
        replace WR := hid_ (WR.out.keep hf14)
        replace BX := hid_ (BX.out.fr hf14 id)
        replace BC := hid_ (BC.out.fr hf14 id)
        clear hf14 hd3
        clear v0 v1 v2 v3 v4 v5 v6 v7 v8
        go_upto_region 13 with fail
        obtain ⟨w15, hw15⟩ : ∃ z, z = w14.alloc (.cells #[.string nilS, .int .i64 0] 47) := ⟨_, rfl⟩
        have fw15 : Fr none_ w14 w15 := by rw [hw15]; exact (Fr.refl none_ w14).alloc _
        have BC2 : Hid (Blk w15 w14.heap.size 47 (#[.string nilS, .int .i64 0])) := hid_ (by rw [hw15]; exact Blk.new w14 _ _)
        replace H := hid_ (H.out.keep fw15)
        replace F := hid_ (F.out.then_none fw15)
        replace VI := hid_ (VI.out.keep fw15)
        replace FV := hid_ (FV.out.then_none fw15)
        replace BV := hid_ (BV.out.fr fw15 id)
        replace O2 := hid_ (own_none O2.out fw15)
        replace R1 := hid_ (R1.out.fr fw15 id)
        replace R2 := hid_ (R2.out.fr fw15 id)
        replace BL := hid_ (BL.out.fr fw15 id)
        replace WL := hid_ (WL.out.keep fw15)
        replace WR := hid_ (WR.out.keep fw15)
        replace BX := hid_ (BX.out.fr fw15 id)
        replace BC := hid_ (BC.out.fr fw15 id)
        change Code.wp _ _ _ _ (w14.alloc (.cells #[.string nilS, .int .i64 0] 47))
        rw [← hw15]
        clear hw15 fw15
        have v0 : w15.cell? ⟨wb.heap.size, 0, none⟩ = some (.string (dropH (rightV V (V.ents.length / 2) q.1)).low) := BX.out.cell' rfl
        have v1 : w15.cell? ⟨wb.heap.size, 1, none⟩ = some (.string (dropH (rightV V (V.ents.length / 2) q.1)).high) := BX.out.cell' rfl
        have v2 : w15.cell? ⟨wb.heap.size, 2, none⟩ = some (.bool (dropH (rightV V (V.ents.length / 2) q.1)).unb) := BX.out.cell' rfl
        have v3 : w15.cell? ⟨wb.heap.size, 3, none⟩ = some (.int .i64 (dropH (rightV V (V.ents.length / 2) q.1)).right) := BX.out.cell' rfl
        have v4 : w15.cell? ⟨wb.heap.size, 4, none⟩ = some (.slice Y2 (rightV V (V.ents.length / 2) q.1).ents.length y2) := BX.out.cell' rfl
        have v5 : w15.cell? ⟨wb.heap.size, 5, none⟩ = some (.bool (dropH (rightV V (V.ents.length / 2) q.1)).held) := BX.out.cell' rfl
        have v6 : w15.cell? ⟨wb.heap.size, 6, none⟩ = some (.int .i64 (dropH (rightV V (V.ents.length / 2) q.1)).hp) := BX.out.cell' rfl
        have v7 : w15.cell? ⟨wb.heap.size, 7, none⟩ = some (.int .i64 (dropH (rightV V (V.ents.length / 2) q.1)).hl) := BX.out.cell' rfl
        have v8 : w15.cell? ⟨wb.heap.size, 8, none⟩ = some (.string (dropH (rightV V (V.ents.length / 2) q.1)).hk) := BX.out.cell' rfl
        go_wp2_with fail
        refine (child_ok (dropH (rightV V (V.ents.length / 2) q.1)) Y2 y2 key _ WR.out hks).mono ?_
        rintro e w16 ⟨(⟨d, hd3, rfl⟩ | ⟨hd3, rfl⟩), hf16⟩
        · rw [childM_drop, HPN.out.2] at hd3
          cases hd3
        replace H := hid_ (H.out.keep hf16)
        replace F := hid_ (F.out.then_none hf16)
        replace VI := hid_ (VI.out.keep hf16)
        replace FV := hid_ (FV.out.then_none hf16)
        replace BV := hid_ (BV.out.fr hf16 id)
        replace O2 := hid_ (own_none O2.out hf16)
        replace R1 := hid_ (R1.out.fr hf16 id)
        replace R2 := hid_ (R2.out.fr hf16 id)
        replace BL := hid_ (BL.out.fr hf16 id)
        replace WL := hid_ (WL.out.keep hf16)
        replace WR := hid_ (WR.out.keep hf16)
        replace BX := hid_ (BX.out.fr hf16 id)
        replace BC := hid_ (BC.out.fr hf16 id)
        replace BC2 := hid_ (BC2.out.fr hf16 id)
        clear hf16 hd3
        clear v0 v1 v2 v3 v4 v5 v6 v7 v8
        go_upto_region 14 with fail
        obtain ⟨w17, hw17⟩ : ∃ z, z = w16.alloc (.cells #[.string nilS, .int .i64 0] 47) := ⟨_, rfl⟩
        have fw17 : Fr none_ w16 w17 := by rw [hw17]; exact (Fr.refl none_ w16).alloc _
        have BC3 : Hid (Blk w17 w16.heap.size 47 (#[.string nilS, .int .i64 0])) := hid_ (by rw [hw17]; exact Blk.new w16 _ _)
        replace H := hid_ (H.out.keep fw17)
        replace F := hid_ (F.out.then_none fw17)
        replace VI := hid_ (VI.out.keep fw17)
        replace FV := hid_ (FV.out.then_none fw17)
        replace BV := hid_ (BV.out.fr fw17 id)
        replace O2 := hid_ (own_none O2.out fw17)
        replace R1 := hid_ (R1.out.fr fw17 id)
        replace R2 := hid_ (R2.out.fr fw17 id)
        replace BL := hid_ (BL.out.fr fw17 id)
        replace WL := hid_ (WL.out.keep fw17)
        replace WR := hid_ (WR.out.keep fw17)
        replace BX := hid_ (BX.out.fr fw17 id)
        replace BC := hid_ (BC.out.fr fw17 id)
        replace BC2 := hid_ (BC2.out.fr fw17 id)
        change Code.wp _ _ _ _ (w16.alloc (.cells #[.string nilS, .int .i64 0] 47))
        rw [← hw17]
        clear hw17 fw17
        go_wp2_with fail
        refine (awake8 _).mono ?_
        rintro e w9 ⟨rfl, hf9⟩
        have F9 := hid_ hf9
        clear hf9
        go_wp2_with fail
        go_ret
        exact ⟨rfl, (F.out).then_none F9.out⟩
      replace H := hid_ (H.out.keep hf12)
      replace F := hid_ (F.out.then_none hf12)
      replace VI := hid_ (VI.out.keep hf12)
      replace FV := hid_ (FV.out.then_none hf12)
      replace BV := hid_ (BV.out.fr hf12 id)
      replace O2 := hid_ (own_none O2.out hf12)
      replace R1 := hid_ (R1.out.fr hf12 id)
      replace R2 := hid_ (R2.out.fr hf12 id)
      replace BL := hid_ (BL.out.fr hf12 id)
      replace WL := hid_ (WL.out.keep hf12)
      replace WR := hid_ (WR.out.keep hf12)
      replace BX := hid_ (BX.out.fr hf12 id)
      have HPS := hid_ (parts_some G.out.s HN0.out HQ.out.2.2 page hch)
      clear hf12 hch
      clear v0 v1 v2 v3 v4 v5 v6 v7 v8
      go_upto_region 12 with fail
      obtain ⟨w13, hw13⟩ : ∃ z, z = w12.alloc (.cells #[.string cc.1, .int .i64 cc.2] 47) := ⟨_, rfl⟩
      have fw13 : Fr none_ w12 w13 := by rw [hw13]; exact (Fr.refl none_ w12).alloc _
      have BC : Hid (Blk w13 w12.heap.size 47 (#[.string cc.1, .int .i64 cc.2])) := hid_ (by rw [hw13]; exact Blk.new w12 _ _)
      replace H := hid_ (H.out.keep fw13)
      replace F := hid_ (F.out.then_none fw13)
      replace VI := hid_ (VI.out.keep fw13)
      replace FV := hid_ (FV.out.then_none fw13)
      replace BV := hid_ (BV.out.fr fw13 id)
      replace O2 := hid_ (own_none O2.out fw13)
      replace R1 := hid_ (R1.out.fr fw13 id)
      replace R2 := hid_ (R2.out.fr fw13 id)
      replace BL := hid_ (BL.out.fr fw13 id)
      replace WL := hid_ (WL.out.keep fw13)
      replace WR := hid_ (WR.out.keep fw13)
      replace BX := hid_ (BX.out.fr fw13 id)
      change Code.wp _ _ _ _ (w12.alloc (.cells #[.string cc.1, .int .i64 cc.2] 47))
      rw [← hw13]
      clear hw13 fw13
      have v0 : w13.cell? ⟨b, 0, none⟩ = some (.string (leftV V (V.ents.length / 2) q.1 page).low) := BL.out.cell' rfl
      have v1 : w13.cell? ⟨b, 1, none⟩ = some (.string (leftV V (V.ents.length / 2) q.1 page).high) := BL.out.cell' rfl
      have v2 : w13.cell? ⟨b, 2, none⟩ = some (.bool (leftV V (V.ents.length / 2) q.1 page).unb) := BL.out.cell' rfl
      have v3 : w13.cell? ⟨b, 3, none⟩ = some (.int .i64 (leftV V (V.ents.length / 2) q.1 page).right) := BL.out.cell' rfl
      have v4 : w13.cell? ⟨b, 4, none⟩ = some (.slice A5 (leftV V (V.ents.length / 2) q.1 page).ents.length c5) := BL.out.cell' rfl
      have v5 : w13.cell? ⟨b, 5, none⟩ = some (.bool (leftV V (V.ents.length / 2) q.1 page).held) := BL.out.cell' rfl
      have v6 : w13.cell? ⟨b, 6, none⟩ = some (.int .i64 (leftV V (V.ents.length / 2) q.1 page).hp) := BL.out.cell' rfl
      have v7 : w13.cell? ⟨b, 7, none⟩ = some (.int .i64 (leftV V (V.ents.length / 2) q.1 page).hl) := BL.out.cell' rfl
      have v8 : w13.cell? ⟨b, 8, none⟩ = some (.string (leftV V (V.ents.length / 2) q.1 page).hk) := BL.out.cell' rfl
      rcases HPS.out with ⟨-, hp1, hp2⟩ | ⟨-, hp1, hp2⟩
      · skip
        go_wp2_with fail
        refine (child_ok (leftV V (V.ents.length / 2) q.1 page) A5 c5 key _ WL.out hks).mono ?_
        rintro e w14 ⟨(⟨d, hd3, rfl⟩ | ⟨hd3, rfl⟩), hf14⟩
        rotate_left
        · rw [hp1] at hd3
          cases hd3
        obtain rfl : cc = d := by rw [hp1] at hd3; exact Option.some.inj hd3
        replace H := hid_ (H.out.keep hf14)
        replace F := hid_ (F.out.then_none hf14)
        replace VI := hid_ (VI.out.keep hf14)
        replace FV := hid_ (FV.out.then_none hf14)
        replace BV := hid_ (BV.out.fr hf14 id)
        replace O2 := hid_ (own_none O2.out hf14)
        replace R1 := hid_ (R1.out.fr hf14 id)
        replace R2 := hid_ (R2.out.fr hf14 id)
        replace BL := hid_ (BL.out.fr hf14 id)
        replace WL := hid_ (WL.out.keep hf14)
        replace WR := hid_ (WR.out.keep hf14)
        replace BX := hid_ (BX.out.fr hf14 id)
        replace BC := hid_ (BC.out.fr hf14 id)
        clear hf14 hd3
        clear v0 v1 v2 v3 v4 v5 v6 v7 v8
        go_upto_region 13 with fail
        obtain ⟨w15, hw15⟩ : ∃ z, z = w14.alloc (.cells #[.string cc.1, .int .i64 cc.2] 47) := ⟨_, rfl⟩
        have fw15 : Fr none_ w14 w15 := by rw [hw15]; exact (Fr.refl none_ w14).alloc _
        have BC2 : Hid (Blk w15 w14.heap.size 47 (#[.string cc.1, .int .i64 cc.2])) := hid_ (by rw [hw15]; exact Blk.new w14 _ _)
        replace H := hid_ (H.out.keep fw15)
        replace F := hid_ (F.out.then_none fw15)
        replace VI := hid_ (VI.out.keep fw15)
        replace FV := hid_ (FV.out.then_none fw15)
        replace BV := hid_ (BV.out.fr fw15 id)
        replace O2 := hid_ (own_none O2.out fw15)
        replace R1 := hid_ (R1.out.fr fw15 id)
        replace R2 := hid_ (R2.out.fr fw15 id)
        replace BL := hid_ (BL.out.fr fw15 id)
        replace WL := hid_ (WL.out.keep fw15)
        replace WR := hid_ (WR.out.keep fw15)
        replace BX := hid_ (BX.out.fr fw15 id)
        replace BC := hid_ (BC.out.fr fw15 id)
        change Code.wp _ _ _ _ (w14.alloc (.cells #[.string cc.1, .int .i64 cc.2] 47))
        rw [← hw15]
        clear hw15 fw15
        have v0 : w15.cell? ⟨wb.heap.size, 0, none⟩ = some (.string (dropH (rightV V (V.ents.length / 2) q.1)).low) := BX.out.cell' rfl
        have v1 : w15.cell? ⟨wb.heap.size, 1, none⟩ = some (.string (dropH (rightV V (V.ents.length / 2) q.1)).high) := BX.out.cell' rfl
        have v2 : w15.cell? ⟨wb.heap.size, 2, none⟩ = some (.bool (dropH (rightV V (V.ents.length / 2) q.1)).unb) := BX.out.cell' rfl
        have v3 : w15.cell? ⟨wb.heap.size, 3, none⟩ = some (.int .i64 (dropH (rightV V (V.ents.length / 2) q.1)).right) := BX.out.cell' rfl
        have v4 : w15.cell? ⟨wb.heap.size, 4, none⟩ = some (.slice Y2 (rightV V (V.ents.length / 2) q.1).ents.length y2) := BX.out.cell' rfl
        have v5 : w15.cell? ⟨wb.heap.size, 5, none⟩ = some (.bool (dropH (rightV V (V.ents.length / 2) q.1)).held) := BX.out.cell' rfl
        have v6 : w15.cell? ⟨wb.heap.size, 6, none⟩ = some (.int .i64 (dropH (rightV V (V.ents.length / 2) q.1)).hp) := BX.out.cell' rfl
        have v7 : w15.cell? ⟨wb.heap.size, 7, none⟩ = some (.int .i64 (dropH (rightV V (V.ents.length / 2) q.1)).hl) := BX.out.cell' rfl
        have v8 : w15.cell? ⟨wb.heap.size, 8, none⟩ = some (.string (dropH (rightV V (V.ents.length / 2) q.1)).hk) := BX.out.cell' rfl
        go_wp2_with fail
        refine (child_ok (dropH (rightV V (V.ents.length / 2) q.1)) Y2 y2 key _ WR.out hks).mono ?_
        rintro e w16 ⟨(⟨d, hd3, rfl⟩ | ⟨hd3, rfl⟩), hf16⟩
        · rw [childM_drop, hp2] at hd3
          cases hd3
        replace H := hid_ (H.out.keep hf16)
        replace F := hid_ (F.out.then_none hf16)
        replace VI := hid_ (VI.out.keep hf16)
        replace FV := hid_ (FV.out.then_none hf16)
        replace BV := hid_ (BV.out.fr hf16 id)
        replace O2 := hid_ (own_none O2.out hf16)
        replace R1 := hid_ (R1.out.fr hf16 id)
        replace R2 := hid_ (R2.out.fr hf16 id)
        replace BL := hid_ (BL.out.fr hf16 id)
        replace WL := hid_ (WL.out.keep hf16)
        replace WR := hid_ (WR.out.keep hf16)
        replace BX := hid_ (BX.out.fr hf16 id)
        replace BC := hid_ (BC.out.fr hf16 id)
        replace BC2 := hid_ (BC2.out.fr hf16 id)
        clear hf16 hd3 hp1 hp2
        clear v0 v1 v2 v3 v4 v5 v6 v7 v8
        go_upto_region 14 with fail
        obtain ⟨w17, hw17⟩ : ∃ z, z = w16.alloc (.cells #[.string nilS, .int .i64 0] 47) := ⟨_, rfl⟩
        have fw17 : Fr none_ w16 w17 := by rw [hw17]; exact (Fr.refl none_ w16).alloc _
        have BC3 : Hid (Blk w17 w16.heap.size 47 (#[.string nilS, .int .i64 0])) := hid_ (by rw [hw17]; exact Blk.new w16 _ _)
        replace H := hid_ (H.out.keep fw17)
        replace F := hid_ (F.out.then_none fw17)
        replace VI := hid_ (VI.out.keep fw17)
        replace FV := hid_ (FV.out.then_none fw17)
        replace BV := hid_ (BV.out.fr fw17 id)
        replace O2 := hid_ (own_none O2.out fw17)
        replace R1 := hid_ (R1.out.fr fw17 id)
        replace R2 := hid_ (R2.out.fr fw17 id)
        replace BL := hid_ (BL.out.fr fw17 id)
        replace WL := hid_ (WL.out.keep fw17)
        replace WR := hid_ (WR.out.keep fw17)
        replace BX := hid_ (BX.out.fr fw17 id)
        replace BC := hid_ (BC.out.fr fw17 id)
        replace BC2 := hid_ (BC2.out.fr fw17 id)
        change Code.wp _ _ _ _ (w16.alloc (.cells #[.string nilS, .int .i64 0] 47))
        rw [← hw17]
        clear hw17 fw17
        have c0 : ∀ x : Wx w17, x.to.cell? ⟨w12.heap.size, 0, none⟩ = some (.string cc.1) := fun x => x.cell (BC.out.cell' rfl)
        have c1 : ∀ x : Wx w17, x.to.cell? ⟨w12.heap.size, 1, none⟩ = some (.int .i64 cc.2) := fun x => x.cell (BC.out.cell' rfl)
        have d0 : ∀ x : Wx w17, x.to.cell? ⟨w14.heap.size, 0, none⟩ = some (.string cc.1) := fun x => x.cell (BC2.out.cell' rfl)
        have d1 : ∀ x : Wx w17, x.to.cell? ⟨w14.heap.size, 1, none⟩ = some (.int .i64 cc.2) := fun x => x.cell (BC2.out.cell' rfl)
        have f0 : ∀ x : Wx w17, x.to.cell? ⟨w16.heap.size, 0, none⟩ = some (.string nilS) := fun x => x.cell (BC3.out.cell' rfl)
        have f1 : ∀ x : Wx w17, x.to.cell? ⟨w16.heap.size, 1, none⟩ = some (.int .i64 0) := fun x => x.cell (BC3.out.cell' rfl)
        have XAW : Hid (∀ x : Wx w17, Calls Try.prog 9 #[] x.to fun e w' => e = .returned (.bool true) ∧ Fr none_ x.to w') := hid_ (fun x => awake8 _)
        go_upto_region 16 with fail
        refine wp_region_quiet_x (by kernel_rfl) (by kernel_rfl) ?_
        repeat (first | go_big_quiet_step (((first | (go_at_call 9; exact Calls.quiet_x (XAW.out _))))) | quiet_step (((first | (go_at_call 9; exact Calls.quiet_x (XAW.out _))))))
        refine wpQuiet_nil ?_
        intro _ hw'
        obtain ⟨xq, hw''⟩ := hw'
        subst hw''
        have FX := hid_ xq.fr
        go_wp2_with fail
        go_ret
        exact ⟨rfl, F.out.then_none FX.out⟩
      · skip
        go_wp2_with fail
        refine (child_ok (leftV V (V.ents.length / 2) q.1 page) A5 c5 key _ WL.out hks).mono ?_
        rintro e w14 ⟨(⟨d, hd3, rfl⟩ | ⟨hd3, rfl⟩), hf14⟩
        · rw [hp1] at hd3
          cases hd3
        replace H := hid_ (H.out.keep hf14)
        replace F := hid_ (F.out.then_none hf14)
        replace VI := hid_ (VI.out.keep hf14)
        replace FV := hid_ (FV.out.then_none hf14)
        replace BV := hid_ (BV.out.fr hf14 id)
        replace O2 := hid_ (own_none O2.out hf14)
        replace R1 := hid_ (R1.out.fr hf14 id)
        replace R2 := hid_ (R2.out.fr hf14 id)
        replace BL := hid_ (BL.out.fr hf14 id)
        replace WL := hid_ (WL.out.keep hf14)
        replace WR := hid_ (WR.out.keep hf14)
        replace BX := hid_ (BX.out.fr hf14 id)
        replace BC := hid_ (BC.out.fr hf14 id)
        clear hf14 hd3
        clear v0 v1 v2 v3 v4 v5 v6 v7 v8
        go_upto_region 13 with fail
        obtain ⟨w15, hw15⟩ : ∃ z, z = w14.alloc (.cells #[.string nilS, .int .i64 0] 47) := ⟨_, rfl⟩
        have fw15 : Fr none_ w14 w15 := by rw [hw15]; exact (Fr.refl none_ w14).alloc _
        have BC2 : Hid (Blk w15 w14.heap.size 47 (#[.string nilS, .int .i64 0])) := hid_ (by rw [hw15]; exact Blk.new w14 _ _)
        replace H := hid_ (H.out.keep fw15)
        replace F := hid_ (F.out.then_none fw15)
        replace VI := hid_ (VI.out.keep fw15)
        replace FV := hid_ (FV.out.then_none fw15)
        replace BV := hid_ (BV.out.fr fw15 id)
        replace O2 := hid_ (own_none O2.out fw15)
        replace R1 := hid_ (R1.out.fr fw15 id)
        replace R2 := hid_ (R2.out.fr fw15 id)
        replace BL := hid_ (BL.out.fr fw15 id)
        replace WL := hid_ (WL.out.keep fw15)
        replace WR := hid_ (WR.out.keep fw15)
        replace BX := hid_ (BX.out.fr fw15 id)
        replace BC := hid_ (BC.out.fr fw15 id)
        change Code.wp _ _ _ _ (w14.alloc (.cells #[.string nilS, .int .i64 0] 47))
        rw [← hw15]
        clear hw15 fw15
        have v0 : w15.cell? ⟨wb.heap.size, 0, none⟩ = some (.string (dropH (rightV V (V.ents.length / 2) q.1)).low) := BX.out.cell' rfl
        have v1 : w15.cell? ⟨wb.heap.size, 1, none⟩ = some (.string (dropH (rightV V (V.ents.length / 2) q.1)).high) := BX.out.cell' rfl
        have v2 : w15.cell? ⟨wb.heap.size, 2, none⟩ = some (.bool (dropH (rightV V (V.ents.length / 2) q.1)).unb) := BX.out.cell' rfl
        have v3 : w15.cell? ⟨wb.heap.size, 3, none⟩ = some (.int .i64 (dropH (rightV V (V.ents.length / 2) q.1)).right) := BX.out.cell' rfl
        have v4 : w15.cell? ⟨wb.heap.size, 4, none⟩ = some (.slice Y2 (rightV V (V.ents.length / 2) q.1).ents.length y2) := BX.out.cell' rfl
        have v5 : w15.cell? ⟨wb.heap.size, 5, none⟩ = some (.bool (dropH (rightV V (V.ents.length / 2) q.1)).held) := BX.out.cell' rfl
        have v6 : w15.cell? ⟨wb.heap.size, 6, none⟩ = some (.int .i64 (dropH (rightV V (V.ents.length / 2) q.1)).hp) := BX.out.cell' rfl
        have v7 : w15.cell? ⟨wb.heap.size, 7, none⟩ = some (.int .i64 (dropH (rightV V (V.ents.length / 2) q.1)).hl) := BX.out.cell' rfl
        have v8 : w15.cell? ⟨wb.heap.size, 8, none⟩ = some (.string (dropH (rightV V (V.ents.length / 2) q.1)).hk) := BX.out.cell' rfl
        go_wp2_with fail
        refine (child_ok (dropH (rightV V (V.ents.length / 2) q.1)) Y2 y2 key _ WR.out hks).mono ?_
        rintro e w16 ⟨(⟨d, hd3, rfl⟩ | ⟨hd3, rfl⟩), hf16⟩
        rotate_left
        · rw [childM_drop, hp2] at hd3
          cases hd3
        obtain rfl : cc = d := by rw [childM_drop, hp2] at hd3; exact Option.some.inj hd3
        replace H := hid_ (H.out.keep hf16)
        replace F := hid_ (F.out.then_none hf16)
        replace VI := hid_ (VI.out.keep hf16)
        replace FV := hid_ (FV.out.then_none hf16)
        replace BV := hid_ (BV.out.fr hf16 id)
        replace O2 := hid_ (own_none O2.out hf16)
        replace R1 := hid_ (R1.out.fr hf16 id)
        replace R2 := hid_ (R2.out.fr hf16 id)
        replace BL := hid_ (BL.out.fr hf16 id)
        replace WL := hid_ (WL.out.keep hf16)
        replace WR := hid_ (WR.out.keep hf16)
        replace BX := hid_ (BX.out.fr hf16 id)
        replace BC := hid_ (BC.out.fr hf16 id)
        replace BC2 := hid_ (BC2.out.fr hf16 id)
        clear hf16 hd3 hp1 hp2
        clear v0 v1 v2 v3 v4 v5 v6 v7 v8
        go_upto_region 14 with fail
        obtain ⟨w17, hw17⟩ : ∃ z, z = w16.alloc (.cells #[.string cc.1, .int .i64 cc.2] 47) := ⟨_, rfl⟩
        have fw17 : Fr none_ w16 w17 := by rw [hw17]; exact (Fr.refl none_ w16).alloc _
        have BC3 : Hid (Blk w17 w16.heap.size 47 (#[.string cc.1, .int .i64 cc.2])) := hid_ (by rw [hw17]; exact Blk.new w16 _ _)
        replace H := hid_ (H.out.keep fw17)
        replace F := hid_ (F.out.then_none fw17)
        replace VI := hid_ (VI.out.keep fw17)
        replace FV := hid_ (FV.out.then_none fw17)
        replace BV := hid_ (BV.out.fr fw17 id)
        replace O2 := hid_ (own_none O2.out fw17)
        replace R1 := hid_ (R1.out.fr fw17 id)
        replace R2 := hid_ (R2.out.fr fw17 id)
        replace BL := hid_ (BL.out.fr fw17 id)
        replace WL := hid_ (WL.out.keep fw17)
        replace WR := hid_ (WR.out.keep fw17)
        replace BX := hid_ (BX.out.fr fw17 id)
        replace BC := hid_ (BC.out.fr fw17 id)
        replace BC2 := hid_ (BC2.out.fr fw17 id)
        change Code.wp _ _ _ _ (w16.alloc (.cells #[.string cc.1, .int .i64 cc.2] 47))
        rw [← hw17]
        clear hw17 fw17
        have c0 : ∀ x : Wx w17, x.to.cell? ⟨w12.heap.size, 0, none⟩ = some (.string cc.1) := fun x => x.cell (BC.out.cell' rfl)
        have c1 : ∀ x : Wx w17, x.to.cell? ⟨w12.heap.size, 1, none⟩ = some (.int .i64 cc.2) := fun x => x.cell (BC.out.cell' rfl)
        have d0 : ∀ x : Wx w17, x.to.cell? ⟨w14.heap.size, 0, none⟩ = some (.string nilS) := fun x => x.cell (BC2.out.cell' rfl)
        have d1 : ∀ x : Wx w17, x.to.cell? ⟨w14.heap.size, 1, none⟩ = some (.int .i64 0) := fun x => x.cell (BC2.out.cell' rfl)
        have f0 : ∀ x : Wx w17, x.to.cell? ⟨w16.heap.size, 0, none⟩ = some (.string cc.1) := fun x => x.cell (BC3.out.cell' rfl)
        have f1 : ∀ x : Wx w17, x.to.cell? ⟨w16.heap.size, 1, none⟩ = some (.int .i64 cc.2) := fun x => x.cell (BC3.out.cell' rfl)
        have XAW : Hid (∀ x : Wx w17, Calls Try.prog 9 #[] x.to fun e w' => e = .returned (.bool true) ∧ Fr none_ x.to w') := hid_ (fun x => awake8 _)
        go_upto_region 16 with fail
        refine wp_region_quiet_x (by kernel_rfl) (by kernel_rfl) ?_
        repeat (first | go_big_quiet_step (((first | (go_at_call 9; exact Calls.quiet_x (XAW.out _))))) | quiet_step (((first | (go_at_call 9; exact Calls.quiet_x (XAW.out _))))))
        refine wpQuiet_nil ?_
        intro _ hw'
        obtain ⟨xq, hw''⟩ := hw'
        subst hw''
        have FX := hid_ xq.fr
        go_wp2_with fail
        go_ret
        exact ⟨rfl, F.out.then_none FX.out⟩
theorem parts8_walk_i {H : Type} {enc : TypeId × Value → H} (A : Option Addr) (n cap : Nat) (hc : n ≤ cap) (hm : cap ≤ maxLen) (page : Int) (key : ByteArray) (hk : key.size ≤ reachBytes) (w : World) (h : RecordAt enc w A n) :
    Calls Try.prog 5 #[.slice A n cap, .int .i64 page, .string key] w fun e w' => e = .returned (.bool true) ∧ Fr none_ w w' := by
  obtain ⟨L, hL⟩ := ins_of h
  exact parts8_walk A n cap L page key (szOk_of hk) w hL (by omega)
end Go.Proofs.Ytphlfocdljihlaa

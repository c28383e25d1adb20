/- InnerTwice's walk. Written by gen_twice8.py. -/
import Derived.Test.YtphlfocdljihlaaGrow8
namespace Go.Proofs.Ytphlfocdljihlaa
open Go.RowKit Go.BigFrame Go.ChangeShapes Go.WideShapes
set_option maxRecDepth 100000
set_option linter.unusedVariables false

theorem view_size8 : (Try.prog.info? 29).map (·.size) = some 9 := by kernel_rfl
set_option maxHeartbeats 8000000 in
theorem twice8_walk (A : Option Addr) (n cap : Nat) (L : List Ch) (left right : Int) (key : ByteArray) (hks : SzOk key) (w : World) (h : InReads w A n L) (hm : n ≤ maxLen) :
    Calls Try.prog 6 #[.slice A n cap, .int .i64 left, .int .i64 right, .string key] w fun e w' => e = .returned (.bool true) ∧ Fr none_ w w' := by
  obtain ⟨i0, hi0, hz0, hs0, hb0⟩ := info_parts record_info
  have Hi := hid_ (And.intro hi0 (And.intro hz0 (And.intro hs0 hb0)))
  clear hi0 hz0 hs0 hb0
  obtain rfl : L.length = n := h.1
  have H := hid_ h
  have H0 := H
  have F := hid_ (Fr.refl none_ w)
  clear h
  go_enter Try.func6, Try.ntmps6
  go_wp2_with fail
  refine (few8_ok A L.length cap L _ H.out hm).mono ?_
  rintro e w1 ⟨b, rfl, hb, hf1⟩
  have HB := hid_ hb
  replace H := hid_ (H.out.keep hf1)
  replace F := hid_ (F.out.then_none hf1)
  clear hb hf1
  cases b with
  | false =>
    go_wp2_with fail
    refine (awake8 _).mono ?_
    rintro e w9 ⟨rfl, hf9⟩
    have F9 := hid_ hf9
    clear hf9
    go_wp2_with fail
    go_ret
    exact ⟨rfl, (F.out).then_none F9.out⟩
  | true =>
    have hfo := HB.out (by first | rfl | trivial)
    have h40 := hfo.1
    have HE := hid_ (few_ents hfo)
    clear hfo HB
    by_cases hg : (100 : Int) < (key.size : Int)
    · have hd : decide ((100 : Int) < (key.size : Int)) = true := by simpa using hg
      clear hg
      go_wp2_with fail
      refine (awake8 _).mono ?_
      rintro e w9 ⟨rfl, hf9⟩
      have F9 := hid_ hf9
      clear hf9
      go_wp2_with fail
      go_ret
      exact ⟨rfl, (F.out).then_none F9.out⟩
    have hd : decide ((100 : Int) < (key.size : Int)) = false := by simpa using hg
    clear hg
    by_cases hg : left = right
    · have hd2 : (left == right) = true := by simpa using hg
      clear hg
      go_wp2_with fail
      refine (awake8 _).mono ?_
      rintro e w9 ⟨rfl, hf9⟩
      have F9 := hid_ hf9
      clear hf9
      go_wp2_with fail
      go_ret
      exact ⟨rfl, (F.out).then_none F9.out⟩
    have hd2 : (left == right) = false := by simpa using hg
    clear hg
    go_wp2_with fail
    refine (own8_ok A L.length cap L _ (H.out.few HE.out) (by omega) (in_rows H.out)).mono ?_
    rintro e w2 ⟨A2, c2, Cs, rfl, hCs, hown, hco, hf2⟩
    have CR := hid_ (And.intro hown hco)
    have HM := hid_ hCs
    replace H := hid_ (H.out.keep hf2)
    replace F := hid_ (F.out.then_none hf2)
    clear hCs hown hco hf2
    have HCE := hid_ (map_ents HM.out HE.out)
    go_wp2_with fail
    refine (fold_ok A2 L.length c2 Cs _ (own_ch HM.out CR.out) (by omega) (fun C hC => by have := HCE.out C hC; omega)).mono ?_
    rintro e w3 (⟨V, A3, c3, hkk, hfo, rfl, hvin, hheld, hf3⟩ | ⟨k, hk, hno, rfl, hf3⟩)
    rotate_left
    · skip
      replace H := hid_ (H.out.keep hf3)
      replace F := hid_ (F.out.then_none hf3)
      replace CR := hid_ (And.intro (own_none CR.out.1 hf3) (fun C hC => (CR.out.2 C hC).keep hf3))
      clear hf3 hno
      go_wp2_with fail
      refine (grow_ok Vw.zero left right none 0 _ (zero_in _)).mono ?_
      rintro e w4 (⟨k2, hk2, rfl, hf4⟩ | ⟨_, _, _, _, _, _, _, _, _, _, _, h2, _⟩)
      rotate_left
      · exact absurd h2 (by show ¬ (2 ≤ 0); omega)
      have hg4 := ((Fr.refl none_ w3).alloc _).then_none hf4
      replace H := hid_ (H.out.keep hg4)
      replace F := hid_ (F.out.then_none hg4)
      replace CR := hid_ (And.intro (own_none CR.out.1 hg4) (fun C hC => (CR.out.2 C hC).keep hg4))
      have hk0 := hk2.ne
      clear hf4 hg4 hk2 hk0
      go_wp2_with (first | (refine wpList_store_mid rfl 39 (.tmp 11) (.tmp 53) rfl w4.heap.size 0 (recL ⟨Rc.zero, none, 0, none, 0⟩).toArray rfl rfl (three_there1 w4 39 recZ8 rfl) rec_size8 (rec_one ⟨Rc.zero, none, 0, none, 0⟩) ?_; obtain ⟨wz0, hz0⟩ : ∃ x, x = (w3z w4 39 recZ8).setCells (w4.heap.size) 0 (recL ⟨Rc.zero, none, 0, none, 0⟩) := ⟨_, rfl⟩; have ov := (w3z_1 w4 39 recZ8).over (recL ⟨Rc.zero, none, 0, none, 0⟩) rfl; have K1 := hid_ ov.1; have K2 := hid_ ((w3z_2 w4 39 recZ8).fr ov.2 (only_ne (by omega))); have K3 := hid_ ((w3z_3 w4 39 recZ8).fr ov.2 (only_ne (by omega))); have FZ := hid_ (((((Fr.refl none_ w4).alloc (.cells recZ8 39)).alloc (.cells recZ8 39)).alloc (.cells recZ8 39)).then_only ov.2 (.inr (Nat.le_refl _))); rw [← hz0] at K1 K2 K3 FZ; change wpList _ _ _ _ _ ((w3z w4 39 recZ8).setCells (w4.heap.size) 0 (recL ⟨Rc.zero, none, 0, none, 0⟩)); rw [← hz0]; clear hz0 ov) | (refine wpList_store_mid rfl 39 (.tmp 12) (.tmp 54) rfl (w4.heap.size + 1) 0 (recL ⟨Rc.zero, none, 0, none, 0⟩).toArray rfl rfl (K2.out.there0 rfl) rec_size8 (rec_one ⟨Rc.zero, none, 0, none, 0⟩) ?_; obtain ⟨wz1, hz0⟩ : ∃ x, x = wz0.setCells (w4.heap.size + 1) 0 (recL ⟨Rc.zero, none, 0, none, 0⟩) := ⟨_, rfl⟩; have ov := K2.out.over (recL ⟨Rc.zero, none, 0, none, 0⟩) rfl; rw [← hz0] at ov; change wpList _ _ _ _ _ (wz0.setCells (w4.heap.size + 1) 0 (recL ⟨Rc.zero, none, 0, none, 0⟩)); rw [← hz0]; clear hz0; replace K2 := hid_ ov.1; replace K1 := hid_ (K1.out.fr ov.2 (only_ne (by omega))); replace K3 := hid_ (K3.out.fr ov.2 (only_ne (by omega))); replace FZ := hid_ (FZ.out.then_only ov.2 (.inr (by omega))); clear ov) | (refine wpList_store_mid rfl 39 (.tmp 13) (.tmp 55) rfl (w4.heap.size + 1 + 1) 0 (recL ⟨Rc.zero, none, 0, none, 0⟩).toArray rfl rfl (K3.out.there0 rfl) rec_size8 (rec_one ⟨Rc.zero, none, 0, none, 0⟩) ?_; obtain ⟨w6, hz0⟩ : ∃ x, x = wz1.setCells (w4.heap.size + 1 + 1) 0 (recL ⟨Rc.zero, none, 0, none, 0⟩) := ⟨_, rfl⟩; have ov := K3.out.over (recL ⟨Rc.zero, none, 0, none, 0⟩) rfl; rw [← hz0] at ov; change wpList _ _ _ _ _ (wz1.setCells (w4.heap.size + 1 + 1) 0 (recL ⟨Rc.zero, none, 0, none, 0⟩)); rw [← hz0]; clear hz0; replace K3 := hid_ ov.1; replace K1 := hid_ (K1.out.fr ov.2 (only_ne (by omega))); replace K2 := hid_ (K2.out.fr ov.2 (only_ne (by omega))); replace FZ := hid_ (FZ.out.then_only ov.2 (.inr (by omega))); clear ov))
      have TH : Hid (Three w4 w6 39 (recL ⟨Rc.zero, none, 0, none, 0⟩) (recL ⟨Rc.zero, none, 0, none, 0⟩) (recL ⟨Rc.zero, none, 0, none, 0⟩)) := hid_ ⟨K1.out, K2.out, K3.out, FZ.out⟩
      replace H := hid_ (H.out.keep TH.out.f)
      replace F := hid_ (F.out.then_none TH.out.f)
      replace CR := hid_ (And.intro (own_none CR.out.1 TH.out.f) (fun C hC => (CR.out.2 C hC).keep TH.out.f))
      refine (awake8 _).mono ?_
      rintro e w9 ⟨rfl, hf9⟩
      have F9 := hid_ hf9
      clear hf9
      go_wp2_with fail
      go_ret
      exact ⟨rfl, (F.out).then_none F9.out⟩
    have hlen : V.ents.length ≤ 140 := by
      have h1 := fold_len (b := 100) hfo (fun R hR => by
        obtain ⟨C, hC, rfl⟩ := List.mem_map.1 hR
        exact HCE.out C hC)
      have h2 := congrArg List.length HM.out
      simp only [List.length_map] at h1 h2
      omega
    have G := hid_ (fold_good hfo)
    have HFO := hid_ (And.intro hkk hfo)
    have VI := hid_ hvin
    replace H := hid_ (H.out.keep hf3)
    replace F := hid_ (F.out.then_none hf3)
    replace CR := hid_ (And.intro (own_none CR.out.1 hf3) (fun C hC => (CR.out.2 C hC).keep hf3))
    have hsz := F.out.size
    have HSZ := hid_ hsz
    clear hsz hfo hkk hheld hvin hf3
    have VI0 := VI
    have FV := hid_ (Fr.refl none_ w3)
    clear CR
    go_upto_region 4 with fail
    obtain ⟨w4, hw4⟩ : ∃ z, z = w3.alloc (.cells (vwA V (.slice A3 V.ents.length c3)) 29) := ⟨_, rfl⟩
    have fw4 : Fr none_ w3 w4 := by rw [hw4]; exact (Fr.refl none_ w3).alloc _
    have BV : Hid (Blk w4 w3.heap.size 29 (vwA V (.slice A3 V.ents.length c3))) := hid_ (by rw [hw4]; exact Blk.new w3 _ _)
    replace H := hid_ (H.out.keep fw4)
    replace F := hid_ (F.out.then_none fw4)
    replace VI := hid_ (VI.out.keep fw4)
    replace FV := hid_ (FV.out.then_none fw4)
    change Code.wp _ _ _ _ (w3.alloc (.cells (vwA V (.slice A3 V.ents.length c3)) 29))
    rw [← hw4]
    clear hw4 fw4
    have v0 : w4.cell? ⟨w3.heap.size, 0, none⟩ = some (.string V.low) := BV.out.cell' rfl
    have v1 : w4.cell? ⟨w3.heap.size, 1, none⟩ = some (.string V.high) := BV.out.cell' rfl
    have v2 : w4.cell? ⟨w3.heap.size, 2, none⟩ = some (.bool V.unb) := BV.out.cell' rfl
    have v3 : w4.cell? ⟨w3.heap.size, 3, none⟩ = some (.int .i64 V.right) := BV.out.cell' rfl
    have v4 : w4.cell? ⟨w3.heap.size, 4, none⟩ = some (.slice A3 V.ents.length c3) := BV.out.cell' rfl
    have v5 : w4.cell? ⟨w3.heap.size, 5, none⟩ = some (.bool V.held) := BV.out.cell' rfl
    have v6 : w4.cell? ⟨w3.heap.size, 6, none⟩ = some (.int .i64 V.hp) := BV.out.cell' rfl
    have v7 : w4.cell? ⟨w3.heap.size, 7, none⟩ = some (.int .i64 V.hl) := BV.out.cell' rfl
    have v8 : w4.cell? ⟨w3.heap.size, 8, none⟩ = some (.string V.hk) := BV.out.cell' rfl
    go_wp2_with fail
    refine (grow_ok V left right A3 c3 _ VI.out).mono ?_
    rintro e w5 (⟨k2, hk2, rfl, hf5⟩ | ⟨q, MV, RV, TV, X1, X2, X3, x1, x2, x3, hvh, h2, hq, hM, hR, hT, rfl, ho1, ho2, ho3, ok1, ok2, ok3, hf5⟩)
    · skip
      replace H := hid_ (H.out.keep hf5)
      replace F := hid_ (F.out.then_none hf5)
      replace VI := hid_ (VI.out.keep hf5)
      replace FV := hid_ (FV.out.then_none hf5)
      replace BV := hid_ (BV.out.fr hf5 id)
      have hk0 := hk2.ne
      clear hf5 hk2 hk0
      clear v0 v1 v2 v3 v4 v5 v6 v7 v8
      go_wp2_with (first | (refine wpList_store_mid rfl 39 (.tmp 11) (.tmp 53) rfl w5.heap.size 0 (recL ⟨Rc.zero, none, 0, none, 0⟩).toArray rfl rfl (three_there1 w5 39 recZ8 rfl) rec_size8 (rec_one ⟨Rc.zero, none, 0, none, 0⟩) ?_; obtain ⟨wz0, hz0⟩ : ∃ x, x = (w3z w5 39 recZ8).setCells (w5.heap.size) 0 (recL ⟨Rc.zero, none, 0, none, 0⟩) := ⟨_, rfl⟩; have ov := (w3z_1 w5 39 recZ8).over (recL ⟨Rc.zero, none, 0, none, 0⟩) rfl; have K1 := hid_ ov.1; have K2 := hid_ ((w3z_2 w5 39 recZ8).fr ov.2 (only_ne (by omega))); have K3 := hid_ ((w3z_3 w5 39 recZ8).fr ov.2 (only_ne (by omega))); have FZ := hid_ (((((Fr.refl none_ w5).alloc (.cells recZ8 39)).alloc (.cells recZ8 39)).alloc (.cells recZ8 39)).then_only ov.2 (.inr (Nat.le_refl _))); rw [← hz0] at K1 K2 K3 FZ; change wpList _ _ _ _ _ ((w3z w5 39 recZ8).setCells (w5.heap.size) 0 (recL ⟨Rc.zero, none, 0, none, 0⟩)); rw [← hz0]; clear hz0 ov) | (refine wpList_store_mid rfl 39 (.tmp 12) (.tmp 54) rfl (w5.heap.size + 1) 0 (recL ⟨Rc.zero, none, 0, none, 0⟩).toArray rfl rfl (K2.out.there0 rfl) rec_size8 (rec_one ⟨Rc.zero, none, 0, none, 0⟩) ?_; obtain ⟨wz1, hz0⟩ : ∃ x, x = wz0.setCells (w5.heap.size + 1) 0 (recL ⟨Rc.zero, none, 0, none, 0⟩) := ⟨_, rfl⟩; have ov := K2.out.over (recL ⟨Rc.zero, none, 0, none, 0⟩) rfl; rw [← hz0] at ov; change wpList _ _ _ _ _ (wz0.setCells (w5.heap.size + 1) 0 (recL ⟨Rc.zero, none, 0, none, 0⟩)); rw [← hz0]; clear hz0; replace K2 := hid_ ov.1; replace K1 := hid_ (K1.out.fr ov.2 (only_ne (by omega))); replace K3 := hid_ (K3.out.fr ov.2 (only_ne (by omega))); replace FZ := hid_ (FZ.out.then_only ov.2 (.inr (by omega))); clear ov) | (refine wpList_store_mid rfl 39 (.tmp 13) (.tmp 55) rfl (w5.heap.size + 1 + 1) 0 (recL ⟨Rc.zero, none, 0, none, 0⟩).toArray rfl rfl (K3.out.there0 rfl) rec_size8 (rec_one ⟨Rc.zero, none, 0, none, 0⟩) ?_; obtain ⟨w6, hz0⟩ : ∃ x, x = wz1.setCells (w5.heap.size + 1 + 1) 0 (recL ⟨Rc.zero, none, 0, none, 0⟩) := ⟨_, rfl⟩; have ov := K3.out.over (recL ⟨Rc.zero, none, 0, none, 0⟩) rfl; rw [← hz0] at ov; change wpList _ _ _ _ _ (wz1.setCells (w5.heap.size + 1 + 1) 0 (recL ⟨Rc.zero, none, 0, none, 0⟩)); rw [← hz0]; clear hz0; replace K3 := hid_ ov.1; replace K1 := hid_ (K1.out.fr ov.2 (only_ne (by omega))); replace K2 := hid_ (K2.out.fr ov.2 (only_ne (by omega))); replace FZ := hid_ (FZ.out.then_only ov.2 (.inr (by omega))); clear ov))
      have TH : Hid (Three w5 w6 39 (recL ⟨Rc.zero, none, 0, none, 0⟩) (recL ⟨Rc.zero, none, 0, none, 0⟩) (recL ⟨Rc.zero, none, 0, none, 0⟩)) := hid_ ⟨K1.out, K2.out, K3.out, FZ.out⟩
      replace H := hid_ (H.out.keep TH.out.f)
      replace F := hid_ (F.out.then_none TH.out.f)
      replace VI := hid_ (VI.out.keep TH.out.f)
      replace FV := hid_ (FV.out.then_none TH.out.f)
      replace BV := hid_ (BV.out.fr TH.out.f id)
      refine (awake8 _).mono ?_
      rintro e w9 ⟨rfl, hf9⟩
      have F9 := hid_ hf9
      clear hf9
      go_wp2_with fail
      go_ret
      exact ⟨rfl, (F.out).then_none F9.out⟩
    have O1 := hid_ ho1
    have O2 := hid_ ho2
    have O3 := hid_ ho3
    have OK := hid_ (And.intro ok1 (And.intro ok2 ok3))
    have HQ := hid_ (And.intro hvh (And.intro h2 hq))
    have HM2 := hid_ (And.intro hM (And.intro hR hT))
    replace H := hid_ (H.out.keep hf5)
    replace F := hid_ (F.out.then_none hf5)
    replace VI := hid_ (VI.out.keep hf5)
    replace FV := hid_ (FV.out.then_none hf5)
    replace BV := hid_ (BV.out.fr hf5 id)
    clear hf5 ho1 ho2 ho3 ok1 ok2 ok3 hvh hq hM hR hT
    clear v0 v1 v2 v3 v4 v5 v6 v7 v8
    go_upto_region 5 with (first | (refine wpList_store_mid rfl 39 (.tmp 11) (.tmp 53) rfl w5.heap.size 0 (recL ⟨baseR MV, none, 0, X1, x1⟩).toArray rfl rfl (three_there1 w5 39 recZ8 rfl) rec_size8 (rec_one ⟨baseR MV, none, 0, X1, x1⟩) ?_; obtain ⟨wz0, hz0⟩ : ∃ x, x = (w3z w5 39 recZ8).setCells (w5.heap.size) 0 (recL ⟨baseR MV, none, 0, X1, x1⟩) := ⟨_, rfl⟩; have ov := (w3z_1 w5 39 recZ8).over (recL ⟨baseR MV, none, 0, X1, x1⟩) rfl; have K1 := hid_ ov.1; have K2 := hid_ ((w3z_2 w5 39 recZ8).fr ov.2 (only_ne (by omega))); have K3 := hid_ ((w3z_3 w5 39 recZ8).fr ov.2 (only_ne (by omega))); have FZ := hid_ (((((Fr.refl none_ w5).alloc (.cells recZ8 39)).alloc (.cells recZ8 39)).alloc (.cells recZ8 39)).then_only ov.2 (.inr (Nat.le_refl _))); rw [← hz0] at K1 K2 K3 FZ; change wpList _ _ _ _ _ ((w3z w5 39 recZ8).setCells (w5.heap.size) 0 (recL ⟨baseR MV, none, 0, X1, x1⟩)); rw [← hz0]; clear hz0 ov) | (refine wpList_store_mid rfl 39 (.tmp 12) (.tmp 54) rfl (w5.heap.size + 1) 0 (recL ⟨baseR RV, none, 0, X2, x2⟩).toArray rfl rfl (K2.out.there0 rfl) rec_size8 (rec_one ⟨baseR RV, none, 0, X2, x2⟩) ?_; obtain ⟨wz1, hz0⟩ : ∃ x, x = wz0.setCells (w5.heap.size + 1) 0 (recL ⟨baseR RV, none, 0, X2, x2⟩) := ⟨_, rfl⟩; have ov := K2.out.over (recL ⟨baseR RV, none, 0, X2, x2⟩) rfl; rw [← hz0] at ov; change wpList _ _ _ _ _ (wz0.setCells (w5.heap.size + 1) 0 (recL ⟨baseR RV, none, 0, X2, x2⟩)); rw [← hz0]; clear hz0; replace K2 := hid_ ov.1; replace K1 := hid_ (K1.out.fr ov.2 (only_ne (by omega))); replace K3 := hid_ (K3.out.fr ov.2 (only_ne (by omega))); replace FZ := hid_ (FZ.out.then_only ov.2 (.inr (by omega))); clear ov) | (refine wpList_store_mid rfl 39 (.tmp 13) (.tmp 55) rfl (w5.heap.size + 1 + 1) 0 (recL ⟨baseR TV, none, 0, X3, x3⟩).toArray rfl rfl (K3.out.there0 rfl) rec_size8 (rec_one ⟨baseR TV, none, 0, X3, x3⟩) ?_; obtain ⟨w6, hz0⟩ : ∃ x, x = wz1.setCells (w5.heap.size + 1 + 1) 0 (recL ⟨baseR TV, none, 0, X3, x3⟩) := ⟨_, rfl⟩; have ov := K3.out.over (recL ⟨baseR TV, none, 0, X3, x3⟩) rfl; rw [← hz0] at ov; change wpList _ _ _ _ _ (wz1.setCells (w5.heap.size + 1 + 1) 0 (recL ⟨baseR TV, none, 0, X3, x3⟩)); rw [← hz0]; clear hz0; replace K3 := hid_ ov.1; replace K1 := hid_ (K1.out.fr ov.2 (only_ne (by omega))); replace K2 := hid_ (K2.out.fr ov.2 (only_ne (by omega))); replace FZ := hid_ (FZ.out.then_only ov.2 (.inr (by omega))); clear ov))
    have TH : Hid (Three w5 w6 39 (recL ⟨baseR MV, none, 0, X1, x1⟩) (recL ⟨baseR RV, none, 0, X2, x2⟩) (recL ⟨baseR TV, none, 0, X3, x3⟩)) := hid_ ⟨K1.out, K2.out, K3.out, FZ.out⟩
    replace H := hid_ (H.out.keep TH.out.f)
    replace F := hid_ (F.out.then_none TH.out.f)
    replace VI := hid_ (VI.out.keep TH.out.f)
    replace FV := hid_ (FV.out.then_none TH.out.f)
    replace BV := hid_ (BV.out.fr TH.out.f id)
    replace O1 := hid_ (own_none O1.out TH.out.f)
    replace O2 := hid_ (own_none O2.out TH.out.f)
    replace O3 := hid_ (own_none O3.out TH.out.f)
    have R1 := hid_ TH.out.a
    have R2 := hid_ TH.out.b
    have R3 := hid_ TH.out.c
    clear TH
    obtain ⟨hM, hR, hT⟩ := HM2.out
    obtain ⟨hvh, h2', hq⟩ := HQ.out
    have hn0 : V.ents.length / 2 ≠ 0 := by omega
    have S1 : Hid (Sound MV ∧ Sound RV ∧ Sound TV) := hid_ ⟨by rw [hM]; exact leftV_sound G.out.s hn0 hq right, by rw [hR]; exact rightV_sound G.out.s hq, by rw [hT]; exact topV_sound G.out.s hn0 hq left right⟩
    have HN0 := hid_ hn0
    have hl1 : MV.ents.length ≤ 140 ∧ RV.ents.length ≤ 140 ∧ TV.ents.length ≤ 140 := ⟨by rw [hM]; show (List.take _ _).length ≤ 140; simp; omega, by rw [hR]; show (List.drop _ _).length ≤ 140; simp; omega, by rw [hT]; show 2 ≤ 140; omega⟩
    have HL1 := hid_ hl1
    clear hM hR hT hvh h2' hq hn0 hl1 h2
    go_wp2_with (refine wpList_load_mid rfl 39 (.tmp 11) rfl (w5.heap.size) 0 rfl (recL ⟨baseR MV, none, 0, X1, x1⟩) _ R1.out.range Try.underlying39 rfl rec_size8 ?_)
    obtain ⟨wa0, hwa0⟩ : ∃ z, z = w6.alloc (.cells (recL ⟨baseR MV, none, 0, X1, x1⟩).toArray 39) := ⟨_, rfl⟩
    have fwa0 : Fr none_ w6 wa0 := by rw [hwa0]; exact (Fr.refl none_ w6).alloc _
    have BR0 : Hid (Blk wa0 w6.heap.size 39 ((recL ⟨baseR MV, none, 0, X1, x1⟩).toArray)) := hid_ (by rw [hwa0]; exact Blk.new w6 _ _)
    replace H := hid_ (H.out.keep fwa0)
    replace F := hid_ (F.out.then_none fwa0)
    replace VI := hid_ (VI.out.keep fwa0)
    replace FV := hid_ (FV.out.then_none fwa0)
    replace BV := hid_ (BV.out.fr fwa0 id)
    replace O1 := hid_ (own_none O1.out fwa0)
    replace O2 := hid_ (own_none O2.out fwa0)
    replace O3 := hid_ (own_none O3.out fwa0)
    replace R1 := hid_ (R1.out.fr fwa0 id)
    replace R2 := hid_ (R2.out.fr fwa0 id)
    replace R3 := hid_ (R3.out.fr fwa0 id)
    change Calls _ _ _ (w6.alloc (.cells (recL ⟨baseR MV, none, 0, X1, x1⟩).toArray 39)) _
    rw [← hwa0]
    clear hwa0 fwa0
    have CR := hid_ (chReads_blk (w := wa0) (g := w6.heap.size) (Cs := [⟨baseR MV, none, 0, X1, x1⟩]) BR0.out rfl (fun C hC => by
      obtain rfl : C = ⟨baseR MV, none, 0, X1, x1⟩ := by simpa using hC
      exact base_chok O1.out OK.out.1))
    refine (fold_ok (some ⟨w6.heap.size, 0, none⟩) 1 1 [⟨baseR MV, none, 0, X1, x1⟩] _ CR.out (by omega) (fun C hC => by
      obtain rfl : C = ⟨baseR MV, none, 0, X1, x1⟩ := by simpa using hC
      have := HL1.out.1
      show MV.ents.length ≤ 500
      omega)).mono ?_
    rintro e wb0 (⟨W, Y0, y0, -, hfo, rfl, hvin, -, hf7⟩ | ⟨k, -, hno, rfl, hf7⟩)
    rotate_left
    · have : foldU [baseR MV] = none := hno (fun R hR => by
        obtain rfl : R = baseR MV := by simpa using hR
        exact ⟨by show (7 : Int) ≤ 7; decide, by show (7 : Int) ≤ 11; decide⟩)
      rw [base_fold S1.out.1] at this
      cases this
    obtain rfl : dropH MV = W := by have hfo : foldU [baseR MV] = some W := hfo; rw [base_fold S1.out.1] at hfo; exact Option.some.inj hfo
    have WI0 := hid_ hvin
    replace H := hid_ (H.out.keep hf7)
    replace F := hid_ (F.out.then_none hf7)
    replace VI := hid_ (VI.out.keep hf7)
    replace FV := hid_ (FV.out.then_none hf7)
    replace BV := hid_ (BV.out.fr hf7 id)
    replace O1 := hid_ (own_none O1.out hf7)
    replace O2 := hid_ (own_none O2.out hf7)
    replace O3 := hid_ (own_none O3.out hf7)
    replace R1 := hid_ (R1.out.fr hf7 id)
    replace R2 := hid_ (R2.out.fr hf7 id)
    replace R3 := hid_ (R3.out.fr hf7 id)
    clear hfo hvin hf7 CR BR0
    go_upto_region 8 with fail
    obtain ⟨wc0, hwc0⟩ : ∃ z, z = wb0.alloc (.cells (vwA (dropH MV) (.slice Y0 MV.ents.length y0)) 29) := ⟨_, rfl⟩
    have fwc0 : Fr none_ wb0 wc0 := by rw [hwc0]; exact (Fr.refl none_ wb0).alloc _
    have BW0 : Hid (Blk wc0 wb0.heap.size 29 (vwA (dropH MV) (.slice Y0 MV.ents.length y0))) := hid_ (by rw [hwc0]; exact Blk.new wb0 _ _)
    replace H := hid_ (H.out.keep fwc0)
    replace F := hid_ (F.out.then_none fwc0)
    replace VI := hid_ (VI.out.keep fwc0)
    replace FV := hid_ (FV.out.then_none fwc0)
    replace BV := hid_ (BV.out.fr fwc0 id)
    replace O1 := hid_ (own_none O1.out fwc0)
    replace O2 := hid_ (own_none O2.out fwc0)
    replace O3 := hid_ (own_none O3.out fwc0)
    replace R1 := hid_ (R1.out.fr fwc0 id)
    replace R2 := hid_ (R2.out.fr fwc0 id)
    replace R3 := hid_ (R3.out.fr fwc0 id)
    replace WI0 := hid_ (WI0.out.keep fwc0)
    change Code.wp _ _ _ _ (wb0.alloc (.cells (vwA (dropH MV) (.slice Y0 MV.ents.length y0)) 29))
    rw [← hwc0]
    clear hwc0 fwc0
    go_wp2_with (refine wpList_load_mid rfl 39 (.tmp 12) rfl (w5.heap.size + 1) 0 rfl (recL ⟨baseR RV, none, 0, X2, x2⟩) _ R2.out.range Try.underlying39 rfl rec_size8 ?_)
    obtain ⟨wa1, hwa1⟩ : ∃ z, z = wc0.alloc (.cells (recL ⟨baseR RV, none, 0, X2, x2⟩).toArray 39) := ⟨_, rfl⟩
    have fwa1 : Fr none_ wc0 wa1 := by rw [hwa1]; exact (Fr.refl none_ wc0).alloc _
    have BR1 : Hid (Blk wa1 wc0.heap.size 39 ((recL ⟨baseR RV, none, 0, X2, x2⟩).toArray)) := hid_ (by rw [hwa1]; exact Blk.new wc0 _ _)
    replace H := hid_ (H.out.keep fwa1)
    replace F := hid_ (F.out.then_none fwa1)
    replace VI := hid_ (VI.out.keep fwa1)
    replace FV := hid_ (FV.out.then_none fwa1)
    replace BV := hid_ (BV.out.fr fwa1 id)
    replace O1 := hid_ (own_none O1.out fwa1)
    replace O2 := hid_ (own_none O2.out fwa1)
    replace O3 := hid_ (own_none O3.out fwa1)
    replace R1 := hid_ (R1.out.fr fwa1 id)
    replace R2 := hid_ (R2.out.fr fwa1 id)
    replace R3 := hid_ (R3.out.fr fwa1 id)
    replace WI0 := hid_ (WI0.out.keep fwa1)
    replace BW0 := hid_ (BW0.out.fr fwa1 id)
    change Calls _ _ _ (wc0.alloc (.cells (recL ⟨baseR RV, none, 0, X2, x2⟩).toArray 39)) _
    rw [← hwa1]
    clear hwa1 fwa1
    have CR := hid_ (chReads_blk (w := wa1) (g := wc0.heap.size) (Cs := [⟨baseR RV, none, 0, X2, x2⟩]) BR1.out rfl (fun C hC => by
      obtain rfl : C = ⟨baseR RV, none, 0, X2, x2⟩ := by simpa using hC
      exact base_chok O2.out OK.out.2.1))
    refine (fold_ok (some ⟨wc0.heap.size, 0, none⟩) 1 1 [⟨baseR RV, none, 0, X2, x2⟩] _ CR.out (by omega) (fun C hC => by
      obtain rfl : C = ⟨baseR RV, none, 0, X2, x2⟩ := by simpa using hC
      have := HL1.out.2.1
      show RV.ents.length ≤ 500
      omega)).mono ?_
    rintro e wb1 (⟨W, Y1, y1, -, hfo, rfl, hvin, -, hf7⟩ | ⟨k, -, hno, rfl, hf7⟩)
    rotate_left
    · have : foldU [baseR RV] = none := hno (fun R hR => by
        obtain rfl : R = baseR RV := by simpa using hR
        exact ⟨by show (7 : Int) ≤ 7; decide, by show (7 : Int) ≤ 11; decide⟩)
      rw [base_fold S1.out.2.1] at this
      cases this
    obtain rfl : dropH RV = W := by have hfo : foldU [baseR RV] = some W := hfo; rw [base_fold S1.out.2.1] at hfo; exact Option.some.inj hfo
    have WI1 := hid_ hvin
    replace H := hid_ (H.out.keep hf7)
    replace F := hid_ (F.out.then_none hf7)
    replace VI := hid_ (VI.out.keep hf7)
    replace FV := hid_ (FV.out.then_none hf7)
    replace BV := hid_ (BV.out.fr hf7 id)
    replace O1 := hid_ (own_none O1.out hf7)
    replace O2 := hid_ (own_none O2.out hf7)
    replace O3 := hid_ (own_none O3.out hf7)
    replace R1 := hid_ (R1.out.fr hf7 id)
    replace R2 := hid_ (R2.out.fr hf7 id)
    replace R3 := hid_ (R3.out.fr hf7 id)
    replace WI0 := hid_ (WI0.out.keep hf7)
    replace BW0 := hid_ (BW0.out.fr hf7 id)
    clear hfo hvin hf7 CR BR1
    go_upto_region 9 with fail
    obtain ⟨wc1, hwc1⟩ : ∃ z, z = wb1.alloc (.cells (vwA (dropH RV) (.slice Y1 RV.ents.length y1)) 29) := ⟨_, rfl⟩
    have fwc1 : Fr none_ wb1 wc1 := by rw [hwc1]; exact (Fr.refl none_ wb1).alloc _
    have BW1 : Hid (Blk wc1 wb1.heap.size 29 (vwA (dropH RV) (.slice Y1 RV.ents.length y1))) := hid_ (by rw [hwc1]; exact Blk.new wb1 _ _)
    replace H := hid_ (H.out.keep fwc1)
    replace F := hid_ (F.out.then_none fwc1)
    replace VI := hid_ (VI.out.keep fwc1)
    replace FV := hid_ (FV.out.then_none fwc1)
    replace BV := hid_ (BV.out.fr fwc1 id)
    replace O1 := hid_ (own_none O1.out fwc1)
    replace O2 := hid_ (own_none O2.out fwc1)
    replace O3 := hid_ (own_none O3.out fwc1)
    replace R1 := hid_ (R1.out.fr fwc1 id)
    replace R2 := hid_ (R2.out.fr fwc1 id)
    replace R3 := hid_ (R3.out.fr fwc1 id)
    replace WI0 := hid_ (WI0.out.keep fwc1)
    replace BW0 := hid_ (BW0.out.fr fwc1 id)
    replace WI1 := hid_ (WI1.out.keep fwc1)
    change Code.wp _ _ _ _ (wb1.alloc (.cells (vwA (dropH RV) (.slice Y1 RV.ents.length y1)) 29))
    rw [← hwc1]
    clear hwc1 fwc1
    go_wp2_with (refine wpList_load_mid rfl 39 (.tmp 13) rfl (w5.heap.size + 1 + 1) 0 rfl (recL ⟨baseR TV, none, 0, X3, x3⟩) _ R3.out.range Try.underlying39 rfl rec_size8 ?_)
    obtain ⟨wa2, hwa2⟩ : ∃ z, z = wc1.alloc (.cells (recL ⟨baseR TV, none, 0, X3, x3⟩).toArray 39) := ⟨_, rfl⟩
    have fwa2 : Fr none_ wc1 wa2 := by rw [hwa2]; exact (Fr.refl none_ wc1).alloc _
    have BR2 : Hid (Blk wa2 wc1.heap.size 39 ((recL ⟨baseR TV, none, 0, X3, x3⟩).toArray)) := hid_ (by rw [hwa2]; exact Blk.new wc1 _ _)
    replace H := hid_ (H.out.keep fwa2)
    replace F := hid_ (F.out.then_none fwa2)
    replace VI := hid_ (VI.out.keep fwa2)
    replace FV := hid_ (FV.out.then_none fwa2)
    replace BV := hid_ (BV.out.fr fwa2 id)
    replace O1 := hid_ (own_none O1.out fwa2)
    replace O2 := hid_ (own_none O2.out fwa2)
    replace O3 := hid_ (own_none O3.out fwa2)
    replace R1 := hid_ (R1.out.fr fwa2 id)
    replace R2 := hid_ (R2.out.fr fwa2 id)
    replace R3 := hid_ (R3.out.fr fwa2 id)
    replace WI0 := hid_ (WI0.out.keep fwa2)
    replace BW0 := hid_ (BW0.out.fr fwa2 id)
    replace WI1 := hid_ (WI1.out.keep fwa2)
    replace BW1 := hid_ (BW1.out.fr fwa2 id)
    change Calls _ _ _ (wc1.alloc (.cells (recL ⟨baseR TV, none, 0, X3, x3⟩).toArray 39)) _
    rw [← hwa2]
    clear hwa2 fwa2
    have CR := hid_ (chReads_blk (w := wa2) (g := wc1.heap.size) (Cs := [⟨baseR TV, none, 0, X3, x3⟩]) BR2.out rfl (fun C hC => by
      obtain rfl : C = ⟨baseR TV, none, 0, X3, x3⟩ := by simpa using hC
      exact base_chok O3.out OK.out.2.2))
    refine (fold_ok (some ⟨wc1.heap.size, 0, none⟩) 1 1 [⟨baseR TV, none, 0, X3, x3⟩] _ CR.out (by omega) (fun C hC => by
      obtain rfl : C = ⟨baseR TV, none, 0, X3, x3⟩ := by simpa using hC
      have := HL1.out.2.2
      show TV.ents.length ≤ 500
      omega)).mono ?_
    rintro e wb2 (⟨W, Y2, y2, -, hfo, rfl, hvin, -, hf7⟩ | ⟨k, -, hno, rfl, hf7⟩)
    rotate_left
    · have : foldU [baseR TV] = none := hno (fun R hR => by
        obtain rfl : R = baseR TV := by simpa using hR
        exact ⟨by show (7 : Int) ≤ 7; decide, by show (7 : Int) ≤ 11; decide⟩)
      rw [base_fold S1.out.2.2] at this
      cases this
    obtain rfl : dropH TV = W := by have hfo : foldU [baseR TV] = some W := hfo; rw [base_fold S1.out.2.2] at hfo; exact Option.some.inj hfo
    have WI2 := hid_ hvin
    replace H := hid_ (H.out.keep hf7)
    replace F := hid_ (F.out.then_none hf7)
    replace VI := hid_ (VI.out.keep hf7)
    replace FV := hid_ (FV.out.then_none hf7)
    replace BV := hid_ (BV.out.fr hf7 id)
    replace O1 := hid_ (own_none O1.out hf7)
    replace O2 := hid_ (own_none O2.out hf7)
    replace O3 := hid_ (own_none O3.out hf7)
    replace R1 := hid_ (R1.out.fr hf7 id)
    replace R2 := hid_ (R2.out.fr hf7 id)
    replace R3 := hid_ (R3.out.fr hf7 id)
    replace WI0 := hid_ (WI0.out.keep hf7)
    replace BW0 := hid_ (BW0.out.fr hf7 id)
    replace WI1 := hid_ (WI1.out.keep hf7)
    replace BW1 := hid_ (BW1.out.fr hf7 id)
    clear hfo hvin hf7 CR BR2
    go_upto_region 10 with fail
    obtain ⟨wc2, hwc2⟩ : ∃ z, z = wb2.alloc (.cells (vwA (dropH TV) (.slice Y2 TV.ents.length y2)) 29) := ⟨_, rfl⟩
    have fwc2 : Fr none_ wb2 wc2 := by rw [hwc2]; exact (Fr.refl none_ wb2).alloc _
    have BW2 : Hid (Blk wc2 wb2.heap.size 29 (vwA (dropH TV) (.slice Y2 TV.ents.length y2))) := hid_ (by rw [hwc2]; exact Blk.new wb2 _ _)
    replace H := hid_ (H.out.keep fwc2)
    replace F := hid_ (F.out.then_none fwc2)
    replace VI := hid_ (VI.out.keep fwc2)
    replace FV := hid_ (FV.out.then_none fwc2)
    replace BV := hid_ (BV.out.fr fwc2 id)
    replace O1 := hid_ (own_none O1.out fwc2)
    replace O2 := hid_ (own_none O2.out fwc2)
    replace O3 := hid_ (own_none O3.out fwc2)
    replace R1 := hid_ (R1.out.fr fwc2 id)
    replace R2 := hid_ (R2.out.fr fwc2 id)
    replace R3 := hid_ (R3.out.fr fwc2 id)
    replace WI0 := hid_ (WI0.out.keep fwc2)
    replace BW0 := hid_ (BW0.out.fr fwc2 id)
    replace WI1 := hid_ (WI1.out.keep fwc2)
    replace BW1 := hid_ (BW1.out.fr fwc2 id)
    replace WI2 := hid_ (WI2.out.keep fwc2)
    change Code.wp _ _ _ _ (wb2.alloc (.cells (vwA (dropH TV) (.slice Y2 TV.ents.length y2)) 29))
    rw [← hwc2]
    clear hwc2 fwc2
    obtain ⟨hM, hR, hT⟩ := HM2.out
    have hmr : MV.right = right := by rw [hM]; rfl
    have hrr : RV.right = V.right := by rw [hR]; rfl
    have m3 : wc2.cell? ⟨wb0.heap.size, 3, none⟩ = some (.int .i64 right) := by rw [← hmr]; exact BW0.out.cell' rfl
    have r3 : wc2.cell? ⟨wb1.heap.size, 3, none⟩ = some (.int .i64 V.right) := by rw [← hrr]; exact BW1.out.cell' rfl
    have v3 : wc2.cell? ⟨w3.heap.size, 3, none⟩ = some (.int .i64 V.right) := BV.out.cell' rfl
    have m4 : wc2.cell? ⟨wb0.heap.size, 4, none⟩ = some (.slice Y0 MV.ents.length y0) := BW0.out.cell' rfl
    have r4 : wc2.cell? ⟨wb1.heap.size, 4, none⟩ = some (.slice Y1 RV.ents.length y1) := BW1.out.cell' rfl
    have v4 : wc2.cell? ⟨w3.heap.size, 4, none⟩ = some (.slice A3 V.ents.length c3) := BV.out.cell' rfl
    have hee : MV.ents ++ RV.ents = V.ents := by rw [hM, hR]; exact halves_ents
    have HEE := hid_ hee
    clear hM hR hT hmr hrr hee
    obtain ⟨j0, hj0, hy0, ht0, hc0⟩ := info_parts entry_info
    have Hj := hid_ (And.intro hj0 (And.intro hy0 (And.intro ht0 hc0)))
    clear hj0 hy0 ht0 hc0
    have hS0 : (fun w' : World => Fr none_ wc2 w') wc2.drew := (Fr.refl none_ wc2).drew
    refine wp_region_U (m := 36) (S := fun w' : World => Fr none_ wc2 w') (by kernel_rfl) ?_
    refine wpAnyU_take2 (i := 0) (v := _) rfl (by kernel_rfl) (by kernel_rfl) (by kernel_rfl) (by kernel_rfl) (fun _ _ _ h => h) (.inl ⟨by kernel_rfl, fun w' hS => by go_simp; rfl⟩) hS0 ?_
    refine wpAnyU_take2 (i := 1) (v := _) rfl (by kernel_rfl) (by kernel_rfl) (by kernel_rfl) (by kernel_rfl) (fun _ _ _ h => h) (.inl ⟨by kernel_rfl, fun w' hS => by go_simp; rfl⟩) hS0 ?_
    refine wpAnyU_take2 (i := 2) (v := _) rfl (by kernel_rfl) (by kernel_rfl) (by kernel_rfl) (by kernel_rfl) (fun _ _ _ h => h) (.inl ⟨by kernel_rfl, fun w' hS => by go_simp; rfl⟩) hS0 ?_
    refine wpAnyU_take2 (i := 3) (v := _) rfl (by kernel_rfl) (by kernel_rfl) (by kernel_rfl) (by kernel_rfl) (fun _ _ _ h => h) (.inl ⟨by kernel_rfl, fun w' hS => by go_simp; rfl⟩) hS0 ?_
    refine wpAnyU_take2 (i := 4) (v := _) rfl (by kernel_rfl) (by kernel_rfl) (by kernel_rfl) (by kernel_rfl) (fun _ _ _ h => h) (.inl ⟨by kernel_rfl, fun w' hS => by go_simp; rfl⟩) hS0 ?_
    refine wpAnyU_take2 (i := 5) (v := _) rfl (by kernel_rfl) (by kernel_rfl) (by kernel_rfl) (by kernel_rfl) (fun _ _ _ h => h) (.inl ⟨by kernel_rfl, fun w' hS => by go_simp; rfl⟩) hS0 ?_
    refine wpAnyU_take2 (i := 6) (v := _) rfl (by kernel_rfl) (by kernel_rfl) (by kernel_rfl) (by kernel_rfl) (fun _ _ _ h => h) (.inl ⟨by kernel_rfl, fun w' hS => by go_simp; rfl⟩) hS0 ?_
    refine wpAnyU_take2 (i := 7) (v := _) rfl (by kernel_rfl) (by kernel_rfl) (by kernel_rfl) (by kernel_rfl) (fun _ _ _ h => h) (.inl ⟨by kernel_rfl, fun w' hS => by go_simp; rfl⟩) hS0 ?_
    refine wpAnyU_take2 (i := 8) (v := _) rfl (by kernel_rfl) (by kernel_rfl) (by kernel_rfl) (by kernel_rfl) (fun _ _ _ h => h) (.inl ⟨by kernel_rfl, fun w' hS => by go_simp; rfl⟩) hS0 ?_
    refine wpAnyU_take2 (i := 9) (v := _) rfl (by kernel_rfl) (by kernel_rfl) (by kernel_rfl) (by kernel_rfl) (fun _ _ _ h => h) (.inl ⟨by kernel_rfl, fun w' hS => by go_simp; rfl⟩) hS0 ?_
    refine wpAnyU_take2 (i := 10) (v := _) rfl (by kernel_rfl) (by kernel_rfl) (by kernel_rfl) (by kernel_rfl) (fun _ _ _ h => h) (.inl ⟨by kernel_rfl, fun w' hS => by go_simp; rfl⟩) hS0 ?_
    refine wpAnyU_take2 (i := 11) (v := _) rfl (by kernel_rfl) (by kernel_rfl) (by kernel_rfl) (by kernel_rfl) (fun _ _ _ h => h) (.inl ⟨by kernel_rfl, fun w' hS => by go_simp; rfl⟩) hS0 ?_
    refine wpAnyU_take2 (i := 12) (v := _) rfl (by kernel_rfl) (by kernel_rfl) (by kernel_rfl) (by kernel_rfl) (fun _ _ _ h => h) (.inl ⟨by kernel_rfl, fun w' hS => by have s_m3 := cellFr m3 hS; go_simp; rfl⟩) hS0 ?_
    refine wpAnyU_take2 (i := 13) (v := _) rfl (by kernel_rfl) (by kernel_rfl) (by kernel_rfl) (by kernel_rfl) (fun _ _ _ h => h) (.inl ⟨by kernel_rfl, fun w' hS => by go_simp; rfl⟩) hS0 ?_
    refine wpAnyU_take2 (i := 14) (v := _) rfl (by kernel_rfl) (by kernel_rfl) (by kernel_rfl) (by kernel_rfl) (fun _ _ _ h => h) (.inl ⟨by kernel_rfl, fun w' hS => by go_simp; rfl⟩) hS0 ?_
    refine wpAnyU_take2 (i := 15) (v := _) rfl (by kernel_rfl) (by kernel_rfl) (by kernel_rfl) (by kernel_rfl) (fun _ _ _ h => h) (.inl ⟨by kernel_rfl, fun w' hS => by go_simp; rfl⟩) hS0 ?_
    refine wpAnyU_take2 (i := 16) (v := _) rfl (by kernel_rfl) (by kernel_rfl) (by kernel_rfl) (by kernel_rfl) (fun _ _ _ h => h) (.inl ⟨by kernel_rfl, fun w' hS => by go_simp; rfl⟩) hS0 ?_
    refine wpAnyU_take2 (i := 17) (v := _) rfl (by kernel_rfl) (by kernel_rfl) (by kernel_rfl) (by kernel_rfl) (fun _ _ _ h => h) (.inl ⟨by kernel_rfl, fun w' hS => by go_simp; rfl⟩) hS0 ?_
    refine wpAnyU_take2 (i := 18) (v := _) rfl (by kernel_rfl) (by kernel_rfl) (by kernel_rfl) (by kernel_rfl) (fun _ _ _ h => h) (.inl ⟨by kernel_rfl, fun w' hS => by have s_r3 := cellFr r3 hS; go_simp; rfl⟩) hS0 ?_
    refine wpAnyU_take2 (i := 19) (v := _) rfl (by kernel_rfl) (by kernel_rfl) (by kernel_rfl) (by kernel_rfl) (fun _ _ _ h => h) (.inl ⟨by kernel_rfl, fun w' hS => by go_simp; rfl⟩) hS0 ?_
    refine wpAnyU_take2 (i := 20) (v := _) rfl (by kernel_rfl) (by kernel_rfl) (by kernel_rfl) (by kernel_rfl) (fun _ _ _ h => h) (.inl ⟨by kernel_rfl, fun w' hS => by have s_v3 := cellFr v3 hS; go_simp; rfl⟩) hS0 ?_
    refine wpAnyU_take2 (i := 21) (v := _) rfl (by kernel_rfl) (by kernel_rfl) (by kernel_rfl) (by kernel_rfl) (fun _ _ _ h => h) (.inl ⟨by kernel_rfl, fun w' hS => by go_simp; rfl⟩) hS0 ?_
    refine wpAnyU_take2 (i := 22) (v := _) rfl (by kernel_rfl) (by kernel_rfl) (by kernel_rfl) (by kernel_rfl) (fun _ _ _ h => h) (.inl ⟨by kernel_rfl, fun w' hS => by go_simp; rfl⟩) hS0 ?_
    refine wpAnyU_take2 (i := 23) (v := _) rfl (by kernel_rfl) (by kernel_rfl) (by kernel_rfl) (by kernel_rfl) (fun _ _ _ h => h) (.inl ⟨by kernel_rfl, fun w' hS => by go_simp; rfl⟩) hS0 ?_
    refine wpAnyU_take2 (i := 25) (v := _) rfl (by kernel_rfl) (by kernel_rfl) (by kernel_rfl) (by kernel_rfl) (fun _ _ _ h => h) (.inl ⟨by kernel_rfl, fun w' hS => by go_simp; rfl⟩) hS0 ?_
    refine wpAnyU_take2 (i := 26) (v := _) rfl (by kernel_rfl) (by kernel_rfl) (by kernel_rfl) (by kernel_rfl) (fun _ _ _ h => h) (.inl ⟨by kernel_rfl, fun w' hS => by have s_m4 := cellFr m4 hS; go_simp; rfl⟩) hS0 ?_
    refine wpAnyU_take2 (i := 28) (v := _) rfl (by kernel_rfl) (by kernel_rfl) (by kernel_rfl) (by kernel_rfl) (fun _ _ _ h => h) (.inl ⟨by kernel_rfl, fun w' hS => by go_simp; rfl⟩) hS0 ?_
    refine wpAnyU_take2 (i := 29) (v := _) rfl (by kernel_rfl) (by kernel_rfl) (by kernel_rfl) (by kernel_rfl) (fun _ _ _ h => h) (.inl ⟨by kernel_rfl, fun w' hS => by have s_r4 := cellFr r4 hS; go_simp; rfl⟩) hS0 ?_
    refine wpAnyU_take2 (i := 31) (v := _) rfl (by kernel_rfl) (by kernel_rfl) (by kernel_rfl) (by kernel_rfl) (fun _ _ _ h => h) (.inl ⟨by kernel_rfl, fun w' hS => by go_simp; rfl⟩) hS0 ?_
    refine wpAnyU_take2 (i := 32) (v := _) rfl (by kernel_rfl) (by kernel_rfl) (by kernel_rfl) (by kernel_rfl) (fun _ _ _ h => h) (.inl ⟨by kernel_rfl, fun w' hS => by have s_v4 := cellFr v4 hS; go_simp; rfl⟩) hS0 ?_
    refine wpAnyU_oneG (i := 24) rfl (by kernel_rfl) (by kernel_rfl) ?_
    go_simp
    refine ⟨((Fr.refl none_ wc2).alloc _).drew, ?_⟩
    obtain ⟨wd, hwd⟩ : ∃ z, z = (wc2.alloc (.cells #[] 47)).drew := ⟨_, rfl⟩
    have hOD : wd.ownsRow wc2.heap.size 47 2 (.slice (some ⟨wc2.heap.size, 0, none⟩) 0 0) 0 [] := by rw [hwd]; exact (own_empty_at wc2 _ 2 wc2.heap.size _ (Nat.le_refl _) rfl).drew
    have fD : Fr none_ wc2 wd := by rw [hwd]; exact ((Fr.refl none_ wc2).alloc _).drew
    rw [← hwd]
    clear hwd hS0 m3 r3 v3 m4 r4 v4
    refine wpAnyU_oneG (i := 27) rfl (by kernel_rfl) (by kernel_rfl) ?_
    refine wp_append_at _ (.tmp 106) (.tmp 108) 25 rfl wc2.heap.size 47 j0 _ 2 24 Try.underlying25 Hj.out.1 Hj.out.2.1 Hj.out.2.2.1 Hj.out.2.2.2 rfl (by omega) (.slice (some ⟨wc2.heap.size, 0, none⟩) 0 0) (0) ([]) rfl hOD Y0 MV.ents.length y0 (etFlat MV.ents) rfl ((WI0.out.keep fD).rd) (etFlat_one _) (by simp only [maxLen]; have := HL1.out; omega) (by have := HL1.out; omega) (by have := fD.size; omega) ?_
    intro v1 wx1 hown1 hgr1 hat1
    have fX : Fr none_ wc2 wx1 := fD.grown hgr1 (fun k hk => .inr (hOD.lt k hk).1)
    refine ⟨.inr fX, ?_⟩
    clear hgr1 hat1 hOD fD
    refine wpAnyU_oneG (i := 30) rfl (by kernel_rfl) (by kernel_rfl) ?_
    refine wp_append_at _ (.tmp 109) (.tmp 111) 25 rfl wc2.heap.size 47 j0 _ 2 24 Try.underlying25 Hj.out.1 Hj.out.2.1 Hj.out.2.2.1 Hj.out.2.2.2 rfl (by omega) (v1) (0 + MV.ents.length) ([] ++ etFlat MV.ents) rfl hown1 Y1 RV.ents.length y1 (etFlat RV.ents) rfl ((WI1.out.keep fX).rd) (etFlat_one _) (by simp only [maxLen]; have := HL1.out; omega) (by have := HL1.out; omega) (by have := fX.size; omega) ?_
    intro v2 wx2 hown2 hgr2 hat2
    have fX2 : Fr none_ wc2 wx2 := fX.grown hgr2 (fun k hk => .inr (hown1.lt k hk).1)
    refine ⟨.inr fX2, ?_⟩
    clear hgr2 hat2 hown1 fX
    have hL : 0 + MV.ents.length + RV.ents.length = V.ents.length := by rw [← HEE.out]; simp
    have hX : [] ++ etFlat MV.ents ++ etFlat RV.ents = etFlat V.ents := by rw [← HEE.out]; simp [etFlat]
    rw [hL, hX] at hown2
    obtain ⟨Aq, cq, hv2, -⟩ := own_parts hown2
    subst hv2
    clear hL hX
    refine wpAnyU_oneG (i := 33) rfl (by kernel_rfl) (by kernel_rfl) ?_
    go_simp
    refine (sameEntries_ok V.ents Aq A3 cq c3 _ (Reads.of_own hown2) (VI.out.keep fX2).rd (by omega)).mono ?_
    rintro e wz ⟨rfl, hfz⟩
    have fZ := fX2.then_none hfz
    refine ⟨fZ, ?_⟩
    clear hown2 fX2 hfz
    refine wpAnyU_oneG (i := 34) rfl (by kernel_rfl) (by kernel_rfl) ?_
    go_simp
    refine wpAnyU_oneG (i := 35) rfl (by kernel_rfl) (by kernel_rfl) ?_
    go_simp
    refine wpAnyU_done (by kernel_rfl) ?_ _
    replace H := hid_ (H.out.keep fZ)
    replace F := hid_ (F.out.then_none fZ)
    replace VI := hid_ (VI.out.keep fZ)
    replace FV := hid_ (FV.out.then_none fZ)
    replace BV := hid_ (BV.out.fr fZ id)
    replace O1 := hid_ (own_none O1.out fZ)
    replace O2 := hid_ (own_none O2.out fZ)
    replace O3 := hid_ (own_none O3.out fZ)
    replace R1 := hid_ (R1.out.fr fZ id)
    replace R2 := hid_ (R2.out.fr fZ id)
    replace R3 := hid_ (R3.out.fr fZ id)
    replace WI0 := hid_ (WI0.out.keep fZ)
    replace BW0 := hid_ (BW0.out.fr fZ id)
    replace WI1 := hid_ (WI1.out.keep fZ)
    replace BW1 := hid_ (BW1.out.fr fZ id)
    replace WI2 := hid_ (WI2.out.keep fZ)
    replace BW2 := hid_ (BW2.out.fr fZ id)
    clear fZ
    have v0 : wz.cell? ⟨w3.heap.size, 0, none⟩ = some (.string V.low) := BV.out.cell' rfl
    have v1 : wz.cell? ⟨w3.heap.size, 1, none⟩ = some (.string V.high) := BV.out.cell' rfl
    have v2 : wz.cell? ⟨w3.heap.size, 2, none⟩ = some (.bool V.unb) := BV.out.cell' rfl
    have v3 : wz.cell? ⟨w3.heap.size, 3, none⟩ = some (.int .i64 V.right) := BV.out.cell' rfl
    have v4 : wz.cell? ⟨w3.heap.size, 4, none⟩ = some (.slice A3 V.ents.length c3) := BV.out.cell' rfl
    have v5 : wz.cell? ⟨w3.heap.size, 5, none⟩ = some (.bool V.held) := BV.out.cell' rfl
    have v6 : wz.cell? ⟨w3.heap.size, 6, none⟩ = some (.int .i64 V.hp) := BV.out.cell' rfl
    have v7 : wz.cell? ⟨w3.heap.size, 7, none⟩ = some (.int .i64 V.hl) := BV.out.cell' rfl
    have v8 : wz.cell? ⟨w3.heap.size, 8, none⟩ = some (.string V.hk) := BV.out.cell' rfl
    go_wp2_with fail
    refine (child_ok V A3 c3 key _ VI.out hks).mono ?_
    rintro e w12 ⟨(⟨cc, hch, rfl⟩ | ⟨hch, rfl⟩), hf12⟩
    rotate_left
    · skip
      replace H := hid_ (H.out.keep hf12)
      replace F := hid_ (F.out.then_none hf12)
      replace VI := hid_ (VI.out.keep hf12)
      replace FV := hid_ (FV.out.then_none hf12)
      replace BV := hid_ (BV.out.fr hf12 id)
      replace O1 := hid_ (own_none O1.out hf12)
      replace O2 := hid_ (own_none O2.out hf12)
      replace O3 := hid_ (own_none O3.out hf12)
      replace R1 := hid_ (R1.out.fr hf12 id)
      replace R2 := hid_ (R2.out.fr hf12 id)
      replace R3 := hid_ (R3.out.fr hf12 id)
      replace WI0 := hid_ (WI0.out.keep hf12)
      replace BW0 := hid_ (BW0.out.fr hf12 id)
      replace WI1 := hid_ (WI1.out.keep hf12)
      replace BW1 := hid_ (BW1.out.fr hf12 id)
      replace WI2 := hid_ (WI2.out.keep hf12)
      replace BW2 := hid_ (BW2.out.fr hf12 id)
      have HCN := hid_ hch
      clear hf12 hch
      clear v0 v1 v2 v3 v4 v5 v6 v7 v8
      go_upto_region 13 with fail
      obtain ⟨w13, hw13⟩ : ∃ z, z = w12.alloc (.cells #[.string nilS, .int .i64 0] 47) := ⟨_, rfl⟩
      have fw13 : Fr none_ w12 w13 := by rw [hw13]; exact (Fr.refl none_ w12).alloc _
      have BC : Hid (Blk w13 w12.heap.size 47 (#[.string nilS, .int .i64 0])) := hid_ (by rw [hw13]; exact Blk.new w12 _ _)
      replace H := hid_ (H.out.keep fw13)
      replace F := hid_ (F.out.then_none fw13)
      replace VI := hid_ (VI.out.keep fw13)
      replace FV := hid_ (FV.out.then_none fw13)
      replace BV := hid_ (BV.out.fr fw13 id)
      replace O1 := hid_ (own_none O1.out fw13)
      replace O2 := hid_ (own_none O2.out fw13)
      replace O3 := hid_ (own_none O3.out fw13)
      replace R1 := hid_ (R1.out.fr fw13 id)
      replace R2 := hid_ (R2.out.fr fw13 id)
      replace R3 := hid_ (R3.out.fr fw13 id)
      replace WI0 := hid_ (WI0.out.keep fw13)
      replace BW0 := hid_ (BW0.out.fr fw13 id)
      replace WI1 := hid_ (WI1.out.keep fw13)
      replace BW1 := hid_ (BW1.out.fr fw13 id)
      replace WI2 := hid_ (WI2.out.keep fw13)
      replace BW2 := hid_ (BW2.out.fr fw13 id)
      change Code.wp _ _ _ _ (w12.alloc (.cells #[.string nilS, .int .i64 0] 47))
      rw [← hw13]
      clear hw13 fw13
      have v0 : w13.cell? ⟨wb2.heap.size, 0, none⟩ = some (.string (dropH TV).low) := BW2.out.cell' rfl
      have v1 : w13.cell? ⟨wb2.heap.size, 1, none⟩ = some (.string (dropH TV).high) := BW2.out.cell' rfl
      have v2 : w13.cell? ⟨wb2.heap.size, 2, none⟩ = some (.bool (dropH TV).unb) := BW2.out.cell' rfl
      have v3 : w13.cell? ⟨wb2.heap.size, 3, none⟩ = some (.int .i64 (dropH TV).right) := BW2.out.cell' rfl
      have v4 : w13.cell? ⟨wb2.heap.size, 4, none⟩ = some (.slice Y2 TV.ents.length y2) := BW2.out.cell' rfl
      have v5 : w13.cell? ⟨wb2.heap.size, 5, none⟩ = some (.bool (dropH TV).held) := BW2.out.cell' rfl
      have v6 : w13.cell? ⟨wb2.heap.size, 6, none⟩ = some (.int .i64 (dropH TV).hp) := BW2.out.cell' rfl
      have v7 : w13.cell? ⟨wb2.heap.size, 7, none⟩ = some (.int .i64 (dropH TV).hl) := BW2.out.cell' rfl
      have v8 : w13.cell? ⟨wb2.heap.size, 8, none⟩ = some (.string (dropH TV).hk) := BW2.out.cell' rfl
      go_wp2_with fail
      refine (child_ok (dropH TV) Y2 y2 key _ WI2.out hks).mono ?_
      rintro e w14 ⟨(⟨d, hd3, rfl⟩ | ⟨hd3, rfl⟩), hf14⟩
      · rw [childM_drop, HM2.out.2.2, top_none G.out.s HCN.out] at hd3
        cases hd3
      replace H := hid_ (H.out.keep hf14)
      replace F := hid_ (F.out.then_none hf14)
      replace VI := hid_ (VI.out.keep hf14)
      replace FV := hid_ (FV.out.then_none hf14)
      replace BV := hid_ (BV.out.fr hf14 id)
      replace O1 := hid_ (own_none O1.out hf14)
      replace O2 := hid_ (own_none O2.out hf14)
      replace O3 := hid_ (own_none O3.out hf14)
      replace R1 := hid_ (R1.out.fr hf14 id)
      replace R2 := hid_ (R2.out.fr hf14 id)
      replace R3 := hid_ (R3.out.fr hf14 id)
      replace WI0 := hid_ (WI0.out.keep hf14)
      replace BW0 := hid_ (BW0.out.fr hf14 id)
      replace WI1 := hid_ (WI1.out.keep hf14)
      replace BW1 := hid_ (BW1.out.fr hf14 id)
      replace WI2 := hid_ (WI2.out.keep hf14)
      replace BW2 := hid_ (BW2.out.fr hf14 id)
      replace BC := hid_ (BC.out.fr hf14 id)
      clear hf14 hd3
      clear v0 v1 v2 v3 v4 v5 v6 v7 v8
      go_upto_region 14 with fail
      obtain ⟨w15, hw15⟩ : ∃ z, z = w14.alloc (.cells #[.string nilS, .int .i64 0] 47) := ⟨_, rfl⟩
      have fw15 : Fr none_ w14 w15 := by rw [hw15]; exact (Fr.refl none_ w14).alloc _
      have BC3 : Hid (Blk w15 w14.heap.size 47 (#[.string nilS, .int .i64 0])) := hid_ (by rw [hw15]; exact Blk.new w14 _ _)
      replace H := hid_ (H.out.keep fw15)
      replace F := hid_ (F.out.then_none fw15)
      replace VI := hid_ (VI.out.keep fw15)
      replace FV := hid_ (FV.out.then_none fw15)
      replace BV := hid_ (BV.out.fr fw15 id)
      replace O1 := hid_ (own_none O1.out fw15)
      replace O2 := hid_ (own_none O2.out fw15)
      replace O3 := hid_ (own_none O3.out fw15)
      replace R1 := hid_ (R1.out.fr fw15 id)
      replace R2 := hid_ (R2.out.fr fw15 id)
      replace R3 := hid_ (R3.out.fr fw15 id)
      replace WI0 := hid_ (WI0.out.keep fw15)
      replace BW0 := hid_ (BW0.out.fr fw15 id)
      replace WI1 := hid_ (WI1.out.keep fw15)
      replace BW1 := hid_ (BW1.out.fr fw15 id)
      replace WI2 := hid_ (WI2.out.keep fw15)
      replace BW2 := hid_ (BW2.out.fr fw15 id)
      replace BC := hid_ (BC.out.fr fw15 id)
      change Code.wp _ _ _ _ (w14.alloc (.cells #[.string nilS, .int .i64 0] 47))
      rw [← hw15]
      clear hw15 fw15
      go_wp2_with fail
      refine (awake8 _).mono ?_
      rintro e w9 ⟨rfl, hf9⟩
      have F9 := hid_ hf9
      clear hf9
      go_wp2_with fail
      go_ret
      exact ⟨rfl, (F.out).then_none F9.out⟩
    replace H := hid_ (H.out.keep hf12)
    replace F := hid_ (F.out.then_none hf12)
    replace VI := hid_ (VI.out.keep hf12)
    replace FV := hid_ (FV.out.then_none hf12)
    replace BV := hid_ (BV.out.fr hf12 id)
    replace O1 := hid_ (own_none O1.out hf12)
    replace O2 := hid_ (own_none O2.out hf12)
    replace O3 := hid_ (own_none O3.out hf12)
    replace R1 := hid_ (R1.out.fr hf12 id)
    replace R2 := hid_ (R2.out.fr hf12 id)
    replace R3 := hid_ (R3.out.fr hf12 id)
    replace WI0 := hid_ (WI0.out.keep hf12)
    replace BW0 := hid_ (BW0.out.fr hf12 id)
    replace WI1 := hid_ (WI1.out.keep hf12)
    replace BW1 := hid_ (BW1.out.fr hf12 id)
    replace WI2 := hid_ (WI2.out.keep hf12)
    replace BW2 := hid_ (BW2.out.fr hf12 id)
    have HCH := hid_ hch
    clear hf12 hch
    clear v0 v1 v2 v3 v4 v5 v6 v7 v8
    go_upto_region 13 with fail
    obtain ⟨w13, hw13⟩ : ∃ z, z = w12.alloc (.cells #[.string cc.1, .int .i64 cc.2] 47) := ⟨_, rfl⟩
    have fw13 : Fr none_ w12 w13 := by rw [hw13]; exact (Fr.refl none_ w12).alloc _
    have BC : Hid (Blk w13 w12.heap.size 47 (#[.string cc.1, .int .i64 cc.2])) := hid_ (by rw [hw13]; exact Blk.new w12 _ _)
    replace H := hid_ (H.out.keep fw13)
    replace F := hid_ (F.out.then_none fw13)
    replace VI := hid_ (VI.out.keep fw13)
    replace FV := hid_ (FV.out.then_none fw13)
    replace BV := hid_ (BV.out.fr fw13 id)
    replace O1 := hid_ (own_none O1.out fw13)
    replace O2 := hid_ (own_none O2.out fw13)
    replace O3 := hid_ (own_none O3.out fw13)
    replace R1 := hid_ (R1.out.fr fw13 id)
    replace R2 := hid_ (R2.out.fr fw13 id)
    replace R3 := hid_ (R3.out.fr fw13 id)
    replace WI0 := hid_ (WI0.out.keep fw13)
    replace BW0 := hid_ (BW0.out.fr fw13 id)
    replace WI1 := hid_ (WI1.out.keep fw13)
    replace BW1 := hid_ (BW1.out.fr fw13 id)
    replace WI2 := hid_ (WI2.out.keep fw13)
    replace BW2 := hid_ (BW2.out.fr fw13 id)
    change Code.wp _ _ _ _ (w12.alloc (.cells #[.string cc.1, .int .i64 cc.2] 47))
    rw [← hw13]
    clear hw13 fw13
    have v0 : w13.cell? ⟨wb2.heap.size, 0, none⟩ = some (.string (dropH TV).low) := BW2.out.cell' rfl
    have v1 : w13.cell? ⟨wb2.heap.size, 1, none⟩ = some (.string (dropH TV).high) := BW2.out.cell' rfl
    have v2 : w13.cell? ⟨wb2.heap.size, 2, none⟩ = some (.bool (dropH TV).unb) := BW2.out.cell' rfl
    have v3 : w13.cell? ⟨wb2.heap.size, 3, none⟩ = some (.int .i64 (dropH TV).right) := BW2.out.cell' rfl
    have v4 : w13.cell? ⟨wb2.heap.size, 4, none⟩ = some (.slice Y2 TV.ents.length y2) := BW2.out.cell' rfl
    have v5 : w13.cell? ⟨wb2.heap.size, 5, none⟩ = some (.bool (dropH TV).held) := BW2.out.cell' rfl
    have v6 : w13.cell? ⟨wb2.heap.size, 6, none⟩ = some (.int .i64 (dropH TV).hp) := BW2.out.cell' rfl
    have v7 : w13.cell? ⟨wb2.heap.size, 7, none⟩ = some (.int .i64 (dropH TV).hl) := BW2.out.cell' rfl
    have v8 : w13.cell? ⟨wb2.heap.size, 8, none⟩ = some (.string (dropH TV).hk) := BW2.out.cell' rfl
    go_wp2_with fail
    refine (child_ok (dropH TV) Y2 y2 key _ WI2.out hks).mono ?_
    rintro e w14 ⟨(⟨d, hd3, rfl⟩ | ⟨hd3, rfl⟩), hf14⟩
    rotate_left
    · rw [childM_drop, HM2.out.2.2, topV_child G.out.s HN0.out HQ.out.2.2 left right (childM_in HCH.out)] at hd3
      cases hd3
    have hd4 : d = if ltS key q.1 = true then (V.low, left) else (q.1, right) := by rw [childM_drop, HM2.out.2.2, topV_child G.out.s HN0.out HQ.out.2.2 left right (childM_in HCH.out)] at hd3; exact (Option.some.inj hd3).symm
    have HD4 := hid_ hd4
    have HP := hid_ (parts_some G.out.s HN0.out HQ.out.2.2 right HCH.out)
    replace H := hid_ (H.out.keep hf14)
    replace F := hid_ (F.out.then_none hf14)
    replace VI := hid_ (VI.out.keep hf14)
    replace FV := hid_ (FV.out.then_none hf14)
    replace BV := hid_ (BV.out.fr hf14 id)
    replace O1 := hid_ (own_none O1.out hf14)
    replace O2 := hid_ (own_none O2.out hf14)
    replace O3 := hid_ (own_none O3.out hf14)
    replace R1 := hid_ (R1.out.fr hf14 id)
    replace R2 := hid_ (R2.out.fr hf14 id)
    replace R3 := hid_ (R3.out.fr hf14 id)
    replace WI0 := hid_ (WI0.out.keep hf14)
    replace BW0 := hid_ (BW0.out.fr hf14 id)
    replace WI1 := hid_ (WI1.out.keep hf14)
    replace BW1 := hid_ (BW1.out.fr hf14 id)
    replace WI2 := hid_ (WI2.out.keep hf14)
    replace BW2 := hid_ (BW2.out.fr hf14 id)
    replace BC := hid_ (BC.out.fr hf14 id)
    clear hf14 hd3 hd4
    clear v0 v1 v2 v3 v4 v5 v6 v7 v8
    go_upto_region 14 with fail
    obtain ⟨w15, hw15⟩ : ∃ z, z = w14.alloc (.cells #[.string d.1, .int .i64 d.2] 47) := ⟨_, rfl⟩
    have fw15 : Fr none_ w14 w15 := by rw [hw15]; exact (Fr.refl none_ w14).alloc _
    have BC3 : Hid (Blk w15 w14.heap.size 47 (#[.string d.1, .int .i64 d.2])) := hid_ (by rw [hw15]; exact Blk.new w14 _ _)
    replace H := hid_ (H.out.keep fw15)
    replace F := hid_ (F.out.then_none fw15)
    replace VI := hid_ (VI.out.keep fw15)
    replace FV := hid_ (FV.out.then_none fw15)
    replace BV := hid_ (BV.out.fr fw15 id)
    replace O1 := hid_ (own_none O1.out fw15)
    replace O2 := hid_ (own_none O2.out fw15)
    replace O3 := hid_ (own_none O3.out fw15)
    replace R1 := hid_ (R1.out.fr fw15 id)
    replace R2 := hid_ (R2.out.fr fw15 id)
    replace R3 := hid_ (R3.out.fr fw15 id)
    replace WI0 := hid_ (WI0.out.keep fw15)
    replace BW0 := hid_ (BW0.out.fr fw15 id)
    replace WI1 := hid_ (WI1.out.keep fw15)
    replace BW1 := hid_ (BW1.out.fr fw15 id)
    replace WI2 := hid_ (WI2.out.keep fw15)
    replace BW2 := hid_ (BW2.out.fr fw15 id)
    replace BC := hid_ (BC.out.fr fw15 id)
    change Code.wp _ _ _ _ (w14.alloc (.cells #[.string d.1, .int .i64 d.2] 47))
    rw [← hw15]
    clear hw15 fw15
    have v0 : w15.cell? ⟨wb0.heap.size, 0, none⟩ = some (.string (dropH MV).low) := BW0.out.cell' rfl
    have v1 : w15.cell? ⟨wb0.heap.size, 1, none⟩ = some (.string (dropH MV).high) := BW0.out.cell' rfl
    have v2 : w15.cell? ⟨wb0.heap.size, 2, none⟩ = some (.bool (dropH MV).unb) := BW0.out.cell' rfl
    have v3 : w15.cell? ⟨wb0.heap.size, 3, none⟩ = some (.int .i64 (dropH MV).right) := BW0.out.cell' rfl
    have v4 : w15.cell? ⟨wb0.heap.size, 4, none⟩ = some (.slice Y0 MV.ents.length y0) := BW0.out.cell' rfl
    have v5 : w15.cell? ⟨wb0.heap.size, 5, none⟩ = some (.bool (dropH MV).held) := BW0.out.cell' rfl
    have v6 : w15.cell? ⟨wb0.heap.size, 6, none⟩ = some (.int .i64 (dropH MV).hp) := BW0.out.cell' rfl
    have v7 : w15.cell? ⟨wb0.heap.size, 7, none⟩ = some (.int .i64 (dropH MV).hl) := BW0.out.cell' rfl
    have v8 : w15.cell? ⟨wb0.heap.size, 8, none⟩ = some (.string (dropH MV).hk) := BW0.out.cell' rfl
    go_upto_region 17 with fail
    have S15 := hid_ F.out.size
    obtain ⟨w16, hw16⟩ : ∃ z, z = w15.alloc (.cells (vwA (dropH MV) (.slice Y0 MV.ents.length y0)) 29) := ⟨_, rfl⟩
    have fw16 : Fr none_ w15 w16 := by rw [hw16]; exact (Fr.refl none_ w15).alloc _
    have BX : Hid (Blk w16 w15.heap.size 29 (vwA (dropH MV) (.slice Y0 MV.ents.length y0))) := hid_ (by rw [hw16]; exact Blk.new w15 _ _)
    replace H := hid_ (H.out.keep fw16)
    replace F := hid_ (F.out.then_none fw16)
    replace VI := hid_ (VI.out.keep fw16)
    replace FV := hid_ (FV.out.then_none fw16)
    replace BV := hid_ (BV.out.fr fw16 id)
    replace O1 := hid_ (own_none O1.out fw16)
    replace O2 := hid_ (own_none O2.out fw16)
    replace O3 := hid_ (own_none O3.out fw16)
    replace R1 := hid_ (R1.out.fr fw16 id)
    replace R2 := hid_ (R2.out.fr fw16 id)
    replace R3 := hid_ (R3.out.fr fw16 id)
    replace WI0 := hid_ (WI0.out.keep fw16)
    replace BW0 := hid_ (BW0.out.fr fw16 id)
    replace WI1 := hid_ (WI1.out.keep fw16)
    replace BW1 := hid_ (BW1.out.fr fw16 id)
    replace WI2 := hid_ (WI2.out.keep fw16)
    replace BW2 := hid_ (BW2.out.fr fw16 id)
    replace BC := hid_ (BC.out.fr fw16 id)
    replace BC3 := hid_ (BC3.out.fr fw16 id)
    change Code.wp _ _ _ _ (w15.alloc (.cells (vwA (dropH MV) (.slice Y0 MV.ents.length y0)) 29))
    rw [← hw16]
    clear hw16 fw16
    clear v0 v1 v2 v3 v4 v5 v6 v7 v8
    have c1 : w16.cell? ⟨w14.heap.size, 1, none⟩ = some (.int .i64 d.2) := BC3.out.cell' rfl
    cases hlt : ltS key q.1 with
    | true =>
      have he : (d.2 == right) = false := by
        have h := HD4.out
        rw [hlt, if_pos rfl] at h
        rw [h]
        exact hd2
      have HS : Hid (childM (leftV V (V.ents.length / 2) q.1 right) key = some cc) := hid_ (by
        rcases HP.out with h | h
        · exact h.2.1
        · rw [hlt] at h; cases h.1)
      clear hlt
      have v0 : w16.cell? ⟨w15.heap.size, 0, none⟩ = some (.string (dropH MV).low) := BX.out.cell' rfl
      have v1 : w16.cell? ⟨w15.heap.size, 1, none⟩ = some (.string (dropH MV).high) := BX.out.cell' rfl
      have v2 : w16.cell? ⟨w15.heap.size, 2, none⟩ = some (.bool (dropH MV).unb) := BX.out.cell' rfl
      have v3 : w16.cell? ⟨w15.heap.size, 3, none⟩ = some (.int .i64 (dropH MV).right) := BX.out.cell' rfl
      have v4 : w16.cell? ⟨w15.heap.size, 4, none⟩ = some (.slice Y0 MV.ents.length y0) := BX.out.cell' rfl
      have v5 : w16.cell? ⟨w15.heap.size, 5, none⟩ = some (.bool (dropH MV).held) := BX.out.cell' rfl
      have v6 : w16.cell? ⟨w15.heap.size, 6, none⟩ = some (.int .i64 (dropH MV).hp) := BX.out.cell' rfl
      have v7 : w16.cell? ⟨w15.heap.size, 7, none⟩ = some (.int .i64 (dropH MV).hl) := BX.out.cell' rfl
      have v8 : w16.cell? ⟨w15.heap.size, 8, none⟩ = some (.string (dropH MV).hk) := BX.out.cell' rfl
      go_wp2_with fail
      refine (child_ok (dropH MV) Y0 y0 key _ WI0.out hks).mono ?_
      rintro e w19 ⟨(⟨f, hd5, rfl⟩ | ⟨hd5, rfl⟩), hf19⟩
      rotate_left
      · rw [childM_drop, HM2.out.1, HS.out] at hd5
        cases hd5
      obtain rfl : cc = f := by rw [childM_drop, HM2.out.1, HS.out] at hd5; exact Option.some.inj hd5
      replace H := hid_ (H.out.keep hf19)
      replace F := hid_ (F.out.then_none hf19)
      replace VI := hid_ (VI.out.keep hf19)
      replace FV := hid_ (FV.out.then_none hf19)
      replace BV := hid_ (BV.out.fr hf19 id)
      replace O1 := hid_ (own_none O1.out hf19)
      replace O2 := hid_ (own_none O2.out hf19)
      replace O3 := hid_ (own_none O3.out hf19)
      replace R1 := hid_ (R1.out.fr hf19 id)
      replace R2 := hid_ (R2.out.fr hf19 id)
      replace R3 := hid_ (R3.out.fr hf19 id)
      replace WI0 := hid_ (WI0.out.keep hf19)
      replace BW0 := hid_ (BW0.out.fr hf19 id)
      replace WI1 := hid_ (WI1.out.keep hf19)
      replace BW1 := hid_ (BW1.out.fr hf19 id)
      replace WI2 := hid_ (WI2.out.keep hf19)
      replace BW2 := hid_ (BW2.out.fr hf19 id)
      replace BC := hid_ (BC.out.fr hf19 id)
      replace BC3 := hid_ (BC3.out.fr hf19 id)
      replace BX := hid_ (BX.out.fr hf19 id)
      clear hf19 hd5
      clear v0 v1 v2 v3 v4 v5 v6 v7 v8
      go_upto_region 20 with fail
      obtain ⟨w20, hw20⟩ : ∃ z, z = w19.alloc (.cells #[.string cc.1, .int .i64 cc.2] 47) := ⟨_, rfl⟩
      have fw20 : Fr none_ w19 w20 := by rw [hw20]; exact (Fr.refl none_ w19).alloc _
      have BC4 : Hid (Blk w20 w19.heap.size 47 (#[.string cc.1, .int .i64 cc.2])) := hid_ (by rw [hw20]; exact Blk.new w19 _ _)
      replace H := hid_ (H.out.keep fw20)
      replace F := hid_ (F.out.then_none fw20)
      replace VI := hid_ (VI.out.keep fw20)
      replace FV := hid_ (FV.out.then_none fw20)
      replace BV := hid_ (BV.out.fr fw20 id)
      replace O1 := hid_ (own_none O1.out fw20)
      replace O2 := hid_ (own_none O2.out fw20)
      replace O3 := hid_ (own_none O3.out fw20)
      replace R1 := hid_ (R1.out.fr fw20 id)
      replace R2 := hid_ (R2.out.fr fw20 id)
      replace R3 := hid_ (R3.out.fr fw20 id)
      replace WI0 := hid_ (WI0.out.keep fw20)
      replace BW0 := hid_ (BW0.out.fr fw20 id)
      replace WI1 := hid_ (WI1.out.keep fw20)
      replace BW1 := hid_ (BW1.out.fr fw20 id)
      replace WI2 := hid_ (WI2.out.keep fw20)
      replace BW2 := hid_ (BW2.out.fr fw20 id)
      replace BC := hid_ (BC.out.fr fw20 id)
      replace BC3 := hid_ (BC3.out.fr fw20 id)
      replace BX := hid_ (BX.out.fr fw20 id)
      change Code.wp _ _ _ _ (w19.alloc (.cells #[.string cc.1, .int .i64 cc.2] 47))
      rw [← hw20]
      clear hw20 fw20
      have c0 : w20.cell? ⟨w12.heap.size, 0, none⟩ = some (.string cc.1) := BC.out.cell' rfl
      have c1 : w20.cell? ⟨w12.heap.size, 1, none⟩ = some (.int .i64 cc.2) := BC.out.cell' rfl
      have d0 : w20.cell? ⟨w19.heap.size, 0, none⟩ = some (.string cc.1) := BC4.out.cell' rfl
      have d1 : w20.cell? ⟨w19.heap.size, 1, none⟩ = some (.int .i64 cc.2) := BC4.out.cell' rfl
      go_wp2_with fail
      refine (awake8 _).mono ?_
      rintro e w9 ⟨rfl, hf9⟩
      have F9 := hid_ hf9
      clear hf9
      go_wp2_with fail
      go_ret
      exact ⟨rfl, (F.out).then_none F9.out⟩
    | false =>
      have he : (d.2 == right) = true := by
        have h := HD4.out
        rw [hlt, if_neg (by decide)] at h
        rw [h]
        simp
      have HS : Hid (childM (rightV V (V.ents.length / 2) q.1) key = some cc) := hid_ (by
        rcases HP.out with h | h
        · rw [hlt] at h; cases h.1
        · exact h.2.2)
      clear hlt
      have v0 : w16.cell? ⟨wb1.heap.size, 0, none⟩ = some (.string (dropH RV).low) := BW1.out.cell' rfl
      have v1 : w16.cell? ⟨wb1.heap.size, 1, none⟩ = some (.string (dropH RV).high) := BW1.out.cell' rfl
      have v2 : w16.cell? ⟨wb1.heap.size, 2, none⟩ = some (.bool (dropH RV).unb) := BW1.out.cell' rfl
      have v3 : w16.cell? ⟨wb1.heap.size, 3, none⟩ = some (.int .i64 (dropH RV).right) := BW1.out.cell' rfl
      have v4 : w16.cell? ⟨wb1.heap.size, 4, none⟩ = some (.slice Y1 RV.ents.length y1) := BW1.out.cell' rfl
      have v5 : w16.cell? ⟨wb1.heap.size, 5, none⟩ = some (.bool (dropH RV).held) := BW1.out.cell' rfl
      have v6 : w16.cell? ⟨wb1.heap.size, 6, none⟩ = some (.int .i64 (dropH RV).hp) := BW1.out.cell' rfl
      have v7 : w16.cell? ⟨wb1.heap.size, 7, none⟩ = some (.int .i64 (dropH RV).hl) := BW1.out.cell' rfl
      have v8 : w16.cell? ⟨wb1.heap.size, 8, none⟩ = some (.string (dropH RV).hk) := BW1.out.cell' rfl
      go_upto_region 19 with (refine wpList_store_mid rfl 29 (.tmp 25) (.tmp 142) rfl w15.heap.size 0 (vwA (dropH RV) (.slice Y1 RV.ents.length y1)) rfl rfl (BX.out.there0 rfl) view_size8 (by simp [Value.oneCell']) ?_; obtain ⟨w17, hz0⟩ : ∃ x, x = w16.setCells w15.heap.size 0 (vwA (dropH RV) (.slice Y1 RV.ents.length y1)).toList := ⟨_, rfl⟩; have ov := BX.out.over (vwA (dropH RV) (.slice Y1 RV.ents.length y1)).toList rfl; rw [← hz0] at ov; change wpList _ _ _ _ _ (w16.setCells w15.heap.size 0 (vwA (dropH RV) (.slice Y1 RV.ents.length y1)).toList); rw [← hz0]; clear hz0; have OV := hid_ ov; clear ov)
      clear v0 v1 v2 v3 v4 v5 v6 v7 v8
      have f17 := OV.out.2
      replace WI1 := hid_ (WI1.out.far BX.out f17)
      replace F := hid_ (F.out.then_only f17 (.inr S15.out))
      replace BC := hid_ (BC.out.fr f17 (only_ne (Blk.ne_ BC.out BX.out (by decide))))
      have BY : Hid (Blk w17 w15.heap.size 29 (vwA (dropH RV) (.slice Y1 RV.ents.length y1))) := hid_ OV.out.1
      clear BX OV f17 c1 he
      have v0 : w17.cell? ⟨w15.heap.size, 0, none⟩ = some (.string (dropH RV).low) := BY.out.cell' rfl
      have v1 : w17.cell? ⟨w15.heap.size, 1, none⟩ = some (.string (dropH RV).high) := BY.out.cell' rfl
      have v2 : w17.cell? ⟨w15.heap.size, 2, none⟩ = some (.bool (dropH RV).unb) := BY.out.cell' rfl
      have v3 : w17.cell? ⟨w15.heap.size, 3, none⟩ = some (.int .i64 (dropH RV).right) := BY.out.cell' rfl
      have v4 : w17.cell? ⟨w15.heap.size, 4, none⟩ = some (.slice Y1 RV.ents.length y1) := BY.out.cell' rfl
      have v5 : w17.cell? ⟨w15.heap.size, 5, none⟩ = some (.bool (dropH RV).held) := BY.out.cell' rfl
      have v6 : w17.cell? ⟨w15.heap.size, 6, none⟩ = some (.int .i64 (dropH RV).hp) := BY.out.cell' rfl
      have v7 : w17.cell? ⟨w15.heap.size, 7, none⟩ = some (.int .i64 (dropH RV).hl) := BY.out.cell' rfl
      have v8 : w17.cell? ⟨w15.heap.size, 8, none⟩ = some (.string (dropH RV).hk) := BY.out.cell' rfl
      go_wp2_with fail
      refine (child_ok (dropH RV) Y1 y1 key _ WI1.out hks).mono ?_
      rintro e w19 ⟨(⟨f, hd5, rfl⟩ | ⟨hd5, rfl⟩), hf19⟩
      rotate_left
      · rw [childM_drop, HM2.out.2.1, HS.out] at hd5
        cases hd5
      obtain rfl : cc = f := by rw [childM_drop, HM2.out.2.1, HS.out] at hd5; exact Option.some.inj hd5
      replace F := hid_ (F.out.then_none hf19)
      replace WI1 := hid_ (WI1.out.keep hf19)
      replace BC := hid_ (BC.out.fr hf19 id)
      replace BY := hid_ (BY.out.fr hf19 id)
      clear hf19 hd5
      clear v0 v1 v2 v3 v4 v5 v6 v7 v8
      go_upto_region 20 with fail
      obtain ⟨w20, hw20⟩ : ∃ z, z = w19.alloc (.cells #[.string cc.1, .int .i64 cc.2] 47) := ⟨_, rfl⟩
      have fw20 : Fr none_ w19 w20 := by rw [hw20]; exact (Fr.refl none_ w19).alloc _
      have BC4 : Hid (Blk w20 w19.heap.size 47 (#[.string cc.1, .int .i64 cc.2])) := hid_ (by rw [hw20]; exact Blk.new w19 _ _)
      replace F := hid_ (F.out.then_none fw20)
      replace WI1 := hid_ (WI1.out.keep fw20)
      replace BC := hid_ (BC.out.fr fw20 id)
      replace BY := hid_ (BY.out.fr fw20 id)
      change Code.wp _ _ _ _ (w19.alloc (.cells #[.string cc.1, .int .i64 cc.2] 47))
      rw [← hw20]
      clear hw20 fw20
      have c0 : w20.cell? ⟨w12.heap.size, 0, none⟩ = some (.string cc.1) := BC.out.cell' rfl
      have c1 : w20.cell? ⟨w12.heap.size, 1, none⟩ = some (.int .i64 cc.2) := BC.out.cell' rfl
      have d0 : w20.cell? ⟨w19.heap.size, 0, none⟩ = some (.string cc.1) := BC4.out.cell' rfl
      have d1 : w20.cell? ⟨w19.heap.size, 1, none⟩ = some (.int .i64 cc.2) := BC4.out.cell' rfl
      go_wp2_with fail
      refine (awake8 _).mono ?_
      rintro e w9 ⟨rfl, hf9⟩
      have F9 := hid_ hf9
      clear hf9
      go_wp2_with fail
      go_ret
      exact ⟨rfl, (F.out).then_none F9.out⟩
theorem twice8_walk_i {H : Type} {enc : TypeId × Value → H} (A : Option Addr) (n cap : Nat) (hc : n ≤ cap) (hm : cap ≤ maxLen) (left right : Int) (key : ByteArray) (hk : key.size ≤ reachBytes) (w : World) (h : RecordAt enc w A n) :
    Calls Try.prog 6 #[.slice A n cap, .int .i64 left, .int .i64 right, .string key] w fun e w' => e = .returned (.bool true) ∧ Fr none_ w w' := by
  obtain ⟨L, hL⟩ := ins_of h
  exact twice8_walk A n cap L left right key (szOk_of hk) w hL (by omega)
end Go.Proofs.Ytphlfocdljihlaa

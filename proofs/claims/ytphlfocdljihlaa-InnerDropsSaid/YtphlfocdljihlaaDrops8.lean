/- InnerDrops' walk. Written by gen_drops8.py. -/
import Derived.Test.YtphlfocdljihlaaHold8
namespace Go.Proofs.Ytphlfocdljihlaa
open Go.RowKit Go.BigFrame Go.ChangeShapes Go.WideShapes
set_option maxRecDepth 100000
set_option linter.unusedVariables false

theorem own_rec2 {w : World} {g : Nat} {C D : Ch} (h : Blk w g 39 (recL C ++ recL D).toArray) : w.ownsRow 0 39 15 (.slice (some ⟨g, 0, none⟩) 2 2) 2 (recL C ++ recL D) :=
  ⟨rfl, .inr ⟨g, 2, _, rfl, Nat.zero_le _, h, Nat.le_refl _, by decide, rfl, rfl⟩⟩
theorem push_chain2 {w9 w10 : World} {g n c4 c10 base : Nat} {P P' : Ch} {Ds L : List Ch} {A4 A10 : Option Addr} (hm : Ds.map (·.R) = L.map (·.R)) (hn : L.length = n) (hP : Blk w9 g 39 (recL P ++ recL P').toArray)
    (hd : w9.ownsRow base 39 15 (.slice A4 n c4) n (recFlat Ds) ∧ ∀ C ∈ Ds, ChOwn w9 C) (hown : w10.ownsRow 0 39 15 (.slice A10 (2 + n) c10) (2 + n) (recL P ++ recL P' ++ recFlat Ds))
    (hgr : w9.grownBy w10 (Value.slice (some ⟨g, 0, none⟩) 2 2).ownBlock) (hpok : ∀ w, ChOk w P) (hpok' : ∀ w, ChOk w P') : ChReads w10 A10 (2 + n) (P :: P' :: Ds) ∧ Fr (only g) w9 w10 := by
  have e : recFlat (P :: P' :: Ds) = recL P ++ recL P' ++ recFlat Ds := by simp [recFlat]
  refine ⟨chReads_own (Cs := P :: P' :: Ds) (by rw [e]; exact hown) (by have := congrArg List.length hm; simp at this ⊢; omega) (fun C hC => ?_), (Fr.refl _ w9).grown hgr (fun k hk => .inl (Option.some.inj hk).symm)⟩
  rcases List.mem_cons.1 hC with rfl | hC
  · exact hpok _
  rcases List.mem_cons.1 hC with rfl | hC
  · exact hpok' _
  · exact ((hd.2 C hC).beside (own_rec2 hP) hgr).ok
theorem kind_cons {L : List Rc} {R : Rc} (hR : KindOk R) (h : ∀ S ∈ L, KindOk S) : ∀ S ∈ R :: L, KindOk S := fun S hS => by
  rcases List.mem_cons.1 hS with rfl | hS
  · exact hR
  · exact h S hS
theorem ents_cons {L : List Ch} {P : Ch} (h : ∀ C ∈ L, C.R.ents.length ≤ 500) (hP : P.R.ents.length ≤ 500) : ∀ C ∈ P :: L, C.R.ents.length ≤ 500 := fun C hC => by
  rcases List.mem_cons.1 hC with rfl | hC
  · exact hP
  · exact h C hC
set_option maxHeartbeats 60000000 in
theorem drops8_walk (A : Option Addr) (n cap : Nat) (L : List Ch) (page : Int) (key : ByteArray) (hks : SzOk key) (w : World) (h : InReads w A n L) (hm : n ≤ maxLen) :
    Calls Try.prog 4 #[.slice A n cap, .int .i64 page, .string key] w fun e w' => e = .returned (.bool true) ∧ Fr none_ w w' := by
  obtain ⟨i0, hi0, hz0, hs0, hb0⟩ := info_parts record_info
  have Hi := hid_ (And.intro hi0 (And.intro hz0 (And.intro hs0 hb0)))
  clear hi0 hz0 hs0 hb0
  obtain rfl : L.length = n := h.1
  have H := hid_ h
  have H0 := H
  have F := hid_ (Fr.refl none_ w)
  clear h
  go_enter Try.func4, Try.ntmps4
  go_wp2_with fail
  refine (few8_ok A L.length cap L _ H.out hm).mono ?_
  rintro e w1 ⟨b, rfl, hb, hf1⟩
  have HB := hid_ hb
  replace H := hid_ (H.out.keep hf1)
  replace F := hid_ (F.out.then_none hf1)
  clear hb hf1
  cases b with
  | false =>
    go_wp2_with fail
    refine (awake8 _).mono ?_
    rintro e w9 ⟨rfl, hf9⟩
    have F9 := hid_ hf9
    clear hf9
    go_wp2_with fail
    go_ret
    exact ⟨rfl, (F.out).then_none F9.out⟩
  | true =>
    have hfo := HB.out (by first | rfl | trivial)
    have h40 := hfo.1
    have HE := hid_ (few_ents hfo)
    clear hfo HB
    by_cases hg : (100 : Int) < (key.size : Int)
    · have hd : decide ((100 : Int) < (key.size : Int)) = true := by simpa using hg
      clear hg
      go_wp2_with fail
      refine (awake8 _).mono ?_
      rintro e w9 ⟨rfl, hf9⟩
      have F9 := hid_ hf9
      clear hf9
      go_wp2_with fail
      go_ret
      exact ⟨rfl, (F.out).then_none F9.out⟩
    have hd : decide ((100 : Int) < (key.size : Int)) = false := by simpa using hg
    clear hg
    go_wp2_with fail
    refine (own8_ok A L.length cap L _ (H.out.few HE.out) (by omega) (in_rows H.out)).mono ?_
    rintro e w2 ⟨A2, c2, Cs, rfl, hCs, hown, hco, hf2⟩
    have CR := hid_ (And.intro hown hco)
    have HM := hid_ hCs
    replace H := hid_ (H.out.keep hf2)
    replace F := hid_ (F.out.then_none hf2)
    clear hCs hown hco hf2
    have HCE := hid_ (map_ents HM.out HE.out)
    go_wp2_with fail
    refine (fold_ok A2 L.length c2 Cs _ (own_ch HM.out CR.out) (by omega) (fun C hC => by have := HCE.out C hC; omega)).mono ?_
    rintro e w3 (⟨V, A3, c3, hkk, hfo, rfl, hvin, hheld, hf3⟩ | ⟨k, hk, hno, rfl, hf3⟩)
    rotate_left
    · skip
      replace H := hid_ (H.out.keep hf3)
      replace F := hid_ (F.out.then_none hf3)
      replace CR := hid_ (And.intro (own_none CR.out.1 hf3) (fun C hC => (CR.out.2 C hC).keep hf3))
      clear hf3 hno
      go_wp2_with fail
      refine (hold4_ok Vw.zero page none 0 _ (zero_in _) (Nat.zero_le _)).mono ?_
      rintro e w4 ⟨(rfl | ⟨i, l, q, h1, _⟩), hf4⟩
      rotate_left
      · exact absurd h1 (by simp [Vw.zero])
      have hg4 := ((Fr.refl none_ w3).alloc _).then_none hf4
      replace H := hid_ (H.out.keep hg4)
      replace F := hid_ (F.out.then_none hg4)
      replace CR := hid_ (And.intro (own_none CR.out.1 hg4) (fun C hC => (CR.out.2 C hC).keep hg4))
      clear hf4 hg4
      go_wp2_with fail
      refine (awake8 _).mono ?_
      rintro e w9 ⟨rfl, hf9⟩
      have F9 := hid_ hf9
      clear hf9
      go_wp2_with fail
      go_ret
      exact ⟨rfl, (F.out.alloc _).then_none F9.out⟩
    have hlen : V.ents.length ≤ 140 := by
      have h1 := fold_len (b := 100) hfo (fun R hR => by
        obtain ⟨C, hC, rfl⟩ := List.mem_map.1 hR
        exact HCE.out C hC)
      have h2 := congrArg List.length HM.out
      simp only [List.length_map] at h1 h2
      omega
    have G := hid_ (fold_good hfo)
    have HFO := hid_ (And.intro hkk hfo)
    have VI := hid_ hvin
    replace H := hid_ (H.out.keep hf3)
    replace F := hid_ (F.out.then_none hf3)
    replace CR := hid_ (And.intro (own_none CR.out.1 hf3) (fun C hC => (CR.out.2 C hC).keep hf3))
    have hsz := F.out.size
    have HSZ := hid_ hsz
    clear hsz hfo hkk hheld hvin hf3
    have VI0 := VI
    have FV := hid_ (Fr.refl none_ w3)
    clear CR
    go_upto_region 4 with fail
    obtain ⟨w4, hw4⟩ : ∃ z, z = w3.alloc (.cells (vwA V (.slice A3 V.ents.length c3)) 29) := ⟨_, rfl⟩
    have fw4 : Fr none_ w3 w4 := by rw [hw4]; exact (Fr.refl none_ w3).alloc _
    have BV : Hid (Blk w4 w3.heap.size 29 (vwA V (.slice A3 V.ents.length c3))) := hid_ (by rw [hw4]; exact Blk.new w3 _ _)
    replace H := hid_ (H.out.keep fw4)
    replace F := hid_ (F.out.then_none fw4)
    replace VI := hid_ (VI.out.keep fw4)
    replace FV := hid_ (FV.out.then_none fw4)
    change Code.wp _ _ _ _ (w3.alloc (.cells (vwA V (.slice A3 V.ents.length c3)) 29))
    rw [← hw4]
    clear hw4 fw4
    have v0 : w4.cell? ⟨w3.heap.size, 0, none⟩ = some (.string V.low) := BV.out.cell' rfl
    have v1 : w4.cell? ⟨w3.heap.size, 1, none⟩ = some (.string V.high) := BV.out.cell' rfl
    have v2 : w4.cell? ⟨w3.heap.size, 2, none⟩ = some (.bool V.unb) := BV.out.cell' rfl
    have v3 : w4.cell? ⟨w3.heap.size, 3, none⟩ = some (.int .i64 V.right) := BV.out.cell' rfl
    have v4 : w4.cell? ⟨w3.heap.size, 4, none⟩ = some (.slice A3 V.ents.length c3) := BV.out.cell' rfl
    have v5 : w4.cell? ⟨w3.heap.size, 5, none⟩ = some (.bool V.held) := BV.out.cell' rfl
    have v6 : w4.cell? ⟨w3.heap.size, 6, none⟩ = some (.int .i64 V.hp) := BV.out.cell' rfl
    have v7 : w4.cell? ⟨w3.heap.size, 7, none⟩ = some (.int .i64 V.hl) := BV.out.cell' rfl
    have v8 : w4.cell? ⟨w3.heap.size, 8, none⟩ = some (.string V.hk) := BV.out.cell' rfl
    go_wp2_with fail
    refine (hold4_ok V page A3 c3 _ VI.out (by omega)).mono ?_
    rintro e w5 ⟨(rfl | ⟨i, l, q, hl, hq, hqp, rfl⟩), hf5⟩
    · skip
      replace H := hid_ (H.out.keep hf5)
      replace F := hid_ (F.out.then_none hf5)
      replace VI := hid_ (VI.out.keep hf5)
      replace FV := hid_ (FV.out.then_none hf5)
      replace BV := hid_ (BV.out.fr hf5 id)
      clear hf5
      clear v0 v1 v2 v3 v4 v5 v6 v7 v8
      go_wp2_with fail
      refine (awake8 _).mono ?_
      rintro e w9 ⟨rfl, hf9⟩
      have F9 := hid_ hf9
      clear hf9
      go_wp2_with fail
      go_ret
      exact ⟨rfl, (F.out.alloc _).then_none F9.out⟩
    have HL := hid_ hl
    have HQ := hid_ hq
    replace H := hid_ (H.out.keep hf5)
    replace F := hid_ (F.out.then_none hf5)
    replace VI := hid_ (VI.out.keep hf5)
    replace FV := hid_ (FV.out.then_none hf5)
    replace BV := hid_ (BV.out.fr hf5 id)
    clear hf5 hl hq hqp
    clear v0 v1 v2 v3 v4 v5 v6 v7 v8
    go_upto_region 5 with fail
    obtain ⟨w6, hw6⟩ : ∃ z, z = w5.alloc (.cells #[.int .i64 q.2, .int .i64 l.2, .string q.1] 27) := ⟨_, rfl⟩
    have fw6 : Fr none_ w5 w6 := by rw [hw6]; exact (Fr.refl none_ w5).alloc _
    have BH : Hid (Blk w6 w5.heap.size 27 (#[.int .i64 q.2, .int .i64 l.2, .string q.1])) := hid_ (by rw [hw6]; exact Blk.new w5 _ _)
    replace H := hid_ (H.out.keep fw6)
    replace F := hid_ (F.out.then_none fw6)
    replace VI := hid_ (VI.out.keep fw6)
    replace FV := hid_ (FV.out.then_none fw6)
    replace BV := hid_ (BV.out.fr fw6 id)
    change Code.wp _ _ _ _ (w5.alloc (.cells #[.int .i64 q.2, .int .i64 l.2, .string q.1] 27))
    rw [← hw6]
    clear hw6 fw6
    have v5 : w6.cell? ⟨w3.heap.size, 5, none⟩ = some (.bool V.held) := BV.out.cell' rfl
    cases hh : V.held with
    | true =>
      rw [hh] at v5
      clear hh
      go_wp2_with fail
      refine (awake8 _).mono ?_
      rintro e w9 ⟨rfl, hf9⟩
      have F9 := hid_ hf9
      clear hf9
      go_wp2_with fail
      go_ret
      exact ⟨rfl, (F.out).then_none F9.out⟩
    | false =>
      rw [hh] at v5
      have HH := hid_ hh
      clear hh
      go_upto_region 7 with fail
      clear v5
      have hql : SzOk q.1 := VI.out.ok.ents.2 q (List.mem_of_getElem? HQ.out)
      have HQL := hid_ hql
      clear hql
      have UP := hid_ (drops_hold G.out.s HH.out HL.out HQ.out)
      have UD := hid_ (drops_drop G.out.s HL.out HQ.out)
      go_cut [11, 12] (fun u v wq => ∃ (b : Nat) (A5 : Option Addr) (c5 : Nat), u = .pointer (some ⟨b, 0, none⟩) ∧ v = .nilIface ∧ w6.heap.size ≤ b ∧ Blk wq b 29 (vwA (heldV V q.2 l.2 q.1) (.slice A5 (heldV V q.2 l.2 q.1).ents.length c5)) ∧ VwIn wq (heldV V q.2 l.2 q.1) A5 c5 ∧ Fr none_ w6 wq)
      case first =>
        have hS1 : (fun w' : World => Fr none_ w6 w') w6.drew := (Fr.refl none_ w6).drew
        refine wp_region_U (m := 13) (S := (fun w' : World => Fr none_ w6 w')) (by kernel_rfl) ?_
        refine wpAnyU_take2 (i := 0) (v := _) rfl (by kernel_rfl) (by kernel_rfl) (by kernel_rfl) (by kernel_rfl) (fun _ _ _ h => h) (.inl ⟨by kernel_rfl, fun w' hS => by have s_0 : w'.cell? ⟨w5.heap.size, 0, none⟩ = some (.int .i64 q.2) := cellFr (BH.out.cell' rfl) hS; have s_1 : w'.cell? ⟨w5.heap.size, 1, none⟩ = some (.int .i64 l.2) := cellFr (BH.out.cell' rfl) hS; have s_2 : w'.cell? ⟨w5.heap.size, 2, none⟩ = some (.string q.1) := cellFr (BH.out.cell' rfl) hS; go_simp; rfl⟩) hS1 ?_
        refine wpAnyU_take2 (i := 1) (v := _) rfl (by kernel_rfl) (by kernel_rfl) (by kernel_rfl) (by kernel_rfl) (fun _ _ _ h => h) (.inl ⟨by kernel_rfl, fun w' hS => by go_simp; rfl⟩) hS1 ?_
        refine wpAnyU_take2 (i := 3) (v := _) rfl (by kernel_rfl) (by kernel_rfl) (by kernel_rfl) (by kernel_rfl) (fun _ _ _ h => h) (.inl ⟨by kernel_rfl, fun w' hS => by go_simp; rfl⟩) hS1 ?_
        have FS := hid_ ((Fr.refl none_ w6).drew)
        obtain ⟨we, hwe⟩ : ∃ z, z = w6.drew := ⟨_, rfl⟩
        rw [← hwe] at FS
        change wpAnyU _ _ _ _ _ _ _ _ _ w6.drew
        rw [← hwe]
        clear hwe hS1
        refine wpAnyU_three (i := 2) (j := 4) (l := 10) rfl rfl rfl rfl rfl rfl (by kernel_rfl) ?_ ?_ ?_
        · skip
          go_simp
          have HG := hid_ FS.out.size
          obtain ⟨wt1, hz⟩ : ∃ z, z = we.alloc (.cells (recL ⟨holdR q.2 l.2 q.1, none, 0, none, 0⟩).toArray 39) := ⟨_, rfl⟩
          have fz : Fr none_ we wt1 := by rw [hz]; exact (Fr.refl none_ we).alloc _
          have BP : Hid (Blk wt1 we.heap.size 39 (recL ⟨holdR q.2 l.2 q.1, none, 0, none, 0⟩).toArray) := hid_ (by rw [hz]; exact Blk.new we _ _)
          replace FS := hid_ (FS.out.then_none fz)
          change Fr none_ w6 (we.alloc (.cells (recL ⟨holdR q.2 l.2 q.1, none, 0, none, 0⟩).toArray 39)) ∧ wpAnyU _ _ _ _ _ _ _ _ _ (we.alloc (.cells (recL ⟨holdR q.2 l.2 q.1, none, 0, none, 0⟩).toArray 39))
          rw [← hz]
          refine ⟨FS.out, ?_⟩
          clear hz fz
          refine wpAnyU_two (i := 4) (j := 10) rfl rfl rfl rfl (by kernel_rfl) ?_ ?_
          · skip
            go_simp
            refine (own8_ok A L.length cap L _ (((H.out.keep FS.out)).few HE.out) (by omega) (in_rows (H.out.keep FS.out))).mono ?_
            rintro e wt2 ⟨A9, c9, Ds, rfl, hCs, hown, hco, hf2⟩
            have DR := hid_ (And.intro hown hco)
            have DM := hid_ hCs
            replace BP := hid_ (BP.out.fr hf2 id)
            replace FS := hid_ (FS.out.then_none hf2)
            refine ⟨FS.out, ?_⟩
            clear hCs hown hco hf2
            refine wpAnyU_two (i := 5) (j := 10) rfl rfl rfl rfl (by kernel_rfl) ?_ ?_
            · skip
              refine wp_append_any _ (.tmp 54) (.tmp 56) 22 rfl 0 39 i0 _ 15 192 Try.underlying22 Hi.out.1 Hi.out.2.1 Hi.out.2.2.1 Hi.out.2.2.2 rfl (by omega) (.slice (some ⟨we.heap.size, 0, none⟩) 1 1) 1 (recL ⟨holdR q.2 l.2 q.1, none, 0, none, 0⟩) rfl (own_rec BP.out) A9 L.length c9 (recFlat Ds) rfl (Reads.of_own DR.out.1) (recFlat_one _) (by simp only [maxLen]; omega) (by omega) (Nat.zero_le _) ?_
              intro A7 c7 wt3 hown hgr
              obtain ⟨hch, hfb⟩ := push_chain DM.out rfl BP.out DR.out hown hgr (bare_ok rfl rfl SzOk.nil SzOk.nil SzOk.nil HQL.out)
              have CH := hid_ hch
              replace FS := hid_ (FS.out.then_only hfb (.inr HG.out))
              refine ⟨.inr FS.out, ?_⟩
              clear hch hfb hown hgr DR BP
              refine wpAnyU_two (i := 6) (j := 10) rfl rfl rfl rfl (by kernel_rfl) ?_ ?_
              · skip
                go_simp
                have hpf : foldU ((⟨holdR q.2 l.2 q.1, none, 0, none, 0⟩ :: Ds).map (·.R)) = some (heldV V q.2 l.2 q.1) := (fold_push_of HM.out DM.out HFO.out.2 _).trans (UP.out)
                have KP := hid_ (kind_push HM.out DM.out HFO.out.1 (R := holdR q.2 l.2 q.1) ⟨by show (7 : Int) ≤ 10; decide, by show (10 : Int) ≤ 11; decide⟩ (P := ⟨holdR q.2 l.2 q.1, none, 0, none, 0⟩) rfl)
                refine (fold_ok A7 (1 + L.length) c7 (⟨holdR q.2 l.2 q.1, none, 0, none, 0⟩ :: Ds) _ CH.out (by omega) (ents_push DM.out HE.out (Nat.zero_le _))).mono ?_
                rintro e wt4 (⟨W, A5, c5, -, hfo, rfl, hvin, -, hff⟩ | ⟨kk, -, hno, rfl, hff⟩)
                rotate_left
                · rw [hno KP.out] at hpf
                  cases hpf
                obtain rfl : (heldV V q.2 l.2 q.1) = W := Option.some.inj (hpf.symm.trans hfo)
                have WI := hid_ hvin
                replace FS := hid_ (FS.out.then_none hff)
                refine ⟨FS.out, ?_⟩
                clear hfo hvin hff hpf KP CH
                refine wpAnyU_take2 (i := 7) (v := _) rfl (by kernel_rfl) (by kernel_rfl) (by kernel_rfl) (by kernel_rfl) (fun _ _ _ h => h) (.inl ⟨by kernel_rfl, fun w' hS => by go_simp; rfl⟩) FS.out ?_
                refine wpAnyU_take2 (i := 8) (v := _) rfl (by kernel_rfl) (by kernel_rfl) (by kernel_rfl) (by kernel_rfl) (fun _ _ _ h => h) (.inl ⟨by kernel_rfl, fun w' hS => by go_simp; rfl⟩) FS.out ?_
                refine wpAnyU_take2 (i := 9) (v := _) rfl (by kernel_rfl) (by kernel_rfl) (by kernel_rfl) (by kernel_rfl) (fun _ _ _ h => h) (.inl ⟨by kernel_rfl, fun w' hS => by go_simp; rfl⟩) FS.out ?_
                refine wpAnyU_oneG (i := 10) rfl (by kernel_rfl) (by kernel_rfl) ?_
                go_simp
                have HA := hid_ FS.out.size
                obtain ⟨wt5, hz⟩ : ∃ z, z = wt4.alloc (.cells (vwA Vw.zero (.slice none 0 0)) 29) := ⟨_, rfl⟩
                have fz : Fr none_ wt4 wt5 := by rw [hz]; exact (Fr.refl none_ wt4).alloc _
                have BA : Hid (Blk wt5 wt4.heap.size 29 (vwA Vw.zero (.slice none 0 0))) := hid_ (by rw [hz]; exact Blk.new wt4 _ _)
                replace WI := hid_ (WI.out.keep fz)
                replace FS := hid_ (FS.out.then_none fz)
                change Fr none_ w6 (wt4.alloc (.cells (vwA Vw.zero (.slice none 0 0)) 29)) ∧ wpAnyU _ _ _ _ _ _ _ _ _ (wt4.alloc (.cells (vwA Vw.zero (.slice none 0 0)) 29))
                rw [← hz]
                refine ⟨FS.out, ?_⟩
                clear hz fz
                refine wpAnyU_oneG (i := 11) rfl (by kernel_rfl) (by kernel_rfl) ?_
                refine wp_store_mid 29 (.tmp 11) (.tmp 59) rfl wt4.heap.size 0 (vwA (heldV V q.2 l.2 q.1) (.slice A5 (heldV V q.2 l.2 q.1).ents.length c5)) rfl rfl (BA.out.there0 rfl) view_sz8 (by simp [Value.oneCell']) ?_
                obtain ⟨wf, hz⟩ : ∃ z, z = wt5.setCells (wt4.heap.size) 0 (vwA (heldV V q.2 l.2 q.1) (.slice A5 (heldV V q.2 l.2 q.1).ents.length c5)).toList := ⟨_, rfl⟩
                have ov := BA.out.over (vwA (heldV V q.2 l.2 q.1) (.slice A5 (heldV V q.2 l.2 q.1).ents.length c5)).toList rfl
                rw [← hz] at ov
                have fS := FS.out.then_only ov.2 (.inr HA.out)
                refine ⟨.inr (by rw [← hz]; exact fS), ?_⟩
                change wpAnyU _ _ _ _ _ _ _ _ _ (wt5.setCells (wt4.heap.size) 0 (vwA (heldV V q.2 l.2 q.1) (.slice A5 (heldV V q.2 l.2 q.1).ents.length c5)).toList)
                rw [← hz]
                clear hz
                have WJ := hid_ (WI.out.far BA.out ov.2)
                have OV := hid_ (show Blk wf (wt4.heap.size) 29 (vwA (heldV V q.2 l.2 q.1) (.slice A5 (heldV V q.2 l.2 q.1).ents.length c5)) from ov.1)
                refine wpAnyU_take2 (i := 12) (v := _) rfl (by kernel_rfl) (by kernel_rfl) (by kernel_rfl) (by kernel_rfl) (fun _ _ _ h => h) (.inl ⟨by kernel_rfl, fun w' hS => by go_simp; rfl⟩) fS ?_
                refine wpAnyU_done (by kernel_rfl) ?_ _
                go_wp2_with fail
                go_meet
                exact ⟨_, A5, c5, rfl, rfl, HA.out, OV.out, WJ.out, fS⟩
              · skip
                go_simp
                have HA := hid_ FS.out.size
                obtain ⟨wt6, hz⟩ : ∃ z, z = wt3.alloc (.cells (vwA Vw.zero (.slice none 0 0)) 29) := ⟨_, rfl⟩
                have fz : Fr none_ wt3 wt6 := by rw [hz]; exact (Fr.refl none_ wt3).alloc _
                have BA : Hid (Blk wt6 wt3.heap.size 29 (vwA Vw.zero (.slice none 0 0))) := hid_ (by rw [hz]; exact Blk.new wt3 _ _)
                replace CH := hid_ (CH.out.keep fz)
                replace FS := hid_ (FS.out.then_none fz)
                change Fr none_ w6 (wt3.alloc (.cells (vwA Vw.zero (.slice none 0 0)) 29)) ∧ wpAnyU _ _ _ _ _ _ _ _ _ (wt3.alloc (.cells (vwA Vw.zero (.slice none 0 0)) 29))
                rw [← hz]
                refine ⟨FS.out, ?_⟩
                clear hz fz
                refine wpAnyU_oneG (i := 6) rfl (by kernel_rfl) (by kernel_rfl) ?_
                go_simp
                have hpf : foldU ((⟨holdR q.2 l.2 q.1, none, 0, none, 0⟩ :: Ds).map (·.R)) = some (heldV V q.2 l.2 q.1) := (fold_push_of HM.out DM.out HFO.out.2 _).trans (UP.out)
                have KP := hid_ (kind_push HM.out DM.out HFO.out.1 (R := holdR q.2 l.2 q.1) ⟨by show (7 : Int) ≤ 10; decide, by show (10 : Int) ≤ 11; decide⟩ (P := ⟨holdR q.2 l.2 q.1, none, 0, none, 0⟩) rfl)
                refine (fold_ok A7 (1 + L.length) c7 (⟨holdR q.2 l.2 q.1, none, 0, none, 0⟩ :: Ds) _ CH.out (by omega) (ents_push DM.out HE.out (Nat.zero_le _))).mono ?_
                rintro e wt7 (⟨W, A5, c5, -, hfo, rfl, hvin, -, hff⟩ | ⟨kk, -, hno, rfl, hff⟩)
                rotate_left
                · rw [hno KP.out] at hpf
                  cases hpf
                obtain rfl : (heldV V q.2 l.2 q.1) = W := Option.some.inj (hpf.symm.trans hfo)
                have WI := hid_ hvin
                replace BA := hid_ (BA.out.fr hff id)
                replace FS := hid_ (FS.out.then_none hff)
                refine ⟨FS.out, ?_⟩
                clear hfo hvin hff hpf KP CH
                refine wpAnyU_take2 (i := 7) (v := _) rfl (by kernel_rfl) (by kernel_rfl) (by kernel_rfl) (by kernel_rfl) (fun _ _ _ h => h) (.inl ⟨by kernel_rfl, fun w' hS => by go_simp; rfl⟩) FS.out ?_
                refine wpAnyU_take2 (i := 8) (v := _) rfl (by kernel_rfl) (by kernel_rfl) (by kernel_rfl) (by kernel_rfl) (fun _ _ _ h => h) (.inl ⟨by kernel_rfl, fun w' hS => by go_simp; rfl⟩) FS.out ?_
                refine wpAnyU_take2 (i := 9) (v := _) rfl (by kernel_rfl) (by kernel_rfl) (by kernel_rfl) (by kernel_rfl) (fun _ _ _ h => h) (.inl ⟨by kernel_rfl, fun w' hS => by go_simp; rfl⟩) FS.out ?_
                refine wpAnyU_oneG (i := 11) rfl (by kernel_rfl) (by kernel_rfl) ?_
                refine wp_store_mid 29 (.tmp 11) (.tmp 59) rfl wt3.heap.size 0 (vwA (heldV V q.2 l.2 q.1) (.slice A5 (heldV V q.2 l.2 q.1).ents.length c5)) rfl rfl (BA.out.there0 rfl) view_sz8 (by simp [Value.oneCell']) ?_
                obtain ⟨wf, hz⟩ : ∃ z, z = wt7.setCells (wt3.heap.size) 0 (vwA (heldV V q.2 l.2 q.1) (.slice A5 (heldV V q.2 l.2 q.1).ents.length c5)).toList := ⟨_, rfl⟩
                have ov := BA.out.over (vwA (heldV V q.2 l.2 q.1) (.slice A5 (heldV V q.2 l.2 q.1).ents.length c5)).toList rfl
                rw [← hz] at ov
                have fS := FS.out.then_only ov.2 (.inr HA.out)
                refine ⟨.inr (by rw [← hz]; exact fS), ?_⟩
                change wpAnyU _ _ _ _ _ _ _ _ _ (wt7.setCells (wt3.heap.size) 0 (vwA (heldV V q.2 l.2 q.1) (.slice A5 (heldV V q.2 l.2 q.1).ents.length c5)).toList)
                rw [← hz]
                clear hz
                have WJ := hid_ (WI.out.far BA.out ov.2)
                have OV := hid_ (show Blk wf (wt3.heap.size) 29 (vwA (heldV V q.2 l.2 q.1) (.slice A5 (heldV V q.2 l.2 q.1).ents.length c5)) from ov.1)
                refine wpAnyU_take2 (i := 12) (v := _) rfl (by kernel_rfl) (by kernel_rfl) (by kernel_rfl) (by kernel_rfl) (fun _ _ _ h => h) (.inl ⟨by kernel_rfl, fun w' hS => by go_simp; rfl⟩) fS ?_
                refine wpAnyU_done (by kernel_rfl) ?_ _
                go_wp2_with fail
                go_meet
                exact ⟨_, A5, c5, rfl, rfl, HA.out, OV.out, WJ.out, fS⟩
            · skip
              go_simp
              have HA := hid_ FS.out.size
              obtain ⟨wt8, hz⟩ : ∃ z, z = wt2.alloc (.cells (vwA Vw.zero (.slice none 0 0)) 29) := ⟨_, rfl⟩
              have fz : Fr none_ wt2 wt8 := by rw [hz]; exact (Fr.refl none_ wt2).alloc _
              have BA : Hid (Blk wt8 wt2.heap.size 29 (vwA Vw.zero (.slice none 0 0))) := hid_ (by rw [hz]; exact Blk.new wt2 _ _)
              replace BP := hid_ (BP.out.fr fz id)
              replace DR := hid_ (And.intro (own_none DR.out.1 fz) (fun C hC => (DR.out.2 C hC).keep fz))
              replace FS := hid_ (FS.out.then_none fz)
              change Fr none_ w6 (wt2.alloc (.cells (vwA Vw.zero (.slice none 0 0)) 29)) ∧ wpAnyU _ _ _ _ _ _ _ _ _ (wt2.alloc (.cells (vwA Vw.zero (.slice none 0 0)) 29))
              rw [← hz]
              refine ⟨FS.out, ?_⟩
              clear hz fz
              refine wpAnyU_oneG (i := 5) rfl (by kernel_rfl) (by kernel_rfl) ?_
              refine wp_append_any _ (.tmp 54) (.tmp 56) 22 rfl 0 39 i0 _ 15 192 Try.underlying22 Hi.out.1 Hi.out.2.1 Hi.out.2.2.1 Hi.out.2.2.2 rfl (by omega) (.slice (some ⟨we.heap.size, 0, none⟩) 1 1) 1 (recL ⟨holdR q.2 l.2 q.1, none, 0, none, 0⟩) rfl (own_rec BP.out) A9 L.length c9 (recFlat Ds) rfl (Reads.of_own DR.out.1) (recFlat_one _) (by simp only [maxLen]; omega) (by omega) (Nat.zero_le _) ?_
              intro A7 c7 wt9 hown hgr
              obtain ⟨hch, hfb⟩ := push_chain DM.out rfl BP.out DR.out hown hgr (bare_ok rfl rfl SzOk.nil SzOk.nil SzOk.nil HQL.out)
              have CH := hid_ hch
              replace BA := hid_ (BA.out.fr hfb (only_ne (Blk.ne_ BA.out BP.out (by decide))))
              replace FS := hid_ (FS.out.then_only hfb (.inr HG.out))
              refine ⟨.inr FS.out, ?_⟩
              clear hch hfb hown hgr DR BP
              refine wpAnyU_oneG (i := 6) rfl (by kernel_rfl) (by kernel_rfl) ?_
              go_simp
              have hpf : foldU ((⟨holdR q.2 l.2 q.1, none, 0, none, 0⟩ :: Ds).map (·.R)) = some (heldV V q.2 l.2 q.1) := (fold_push_of HM.out DM.out HFO.out.2 _).trans (UP.out)
              have KP := hid_ (kind_push HM.out DM.out HFO.out.1 (R := holdR q.2 l.2 q.1) ⟨by show (7 : Int) ≤ 10; decide, by show (10 : Int) ≤ 11; decide⟩ (P := ⟨holdR q.2 l.2 q.1, none, 0, none, 0⟩) rfl)
              refine (fold_ok A7 (1 + L.length) c7 (⟨holdR q.2 l.2 q.1, none, 0, none, 0⟩ :: Ds) _ CH.out (by omega) (ents_push DM.out HE.out (Nat.zero_le _))).mono ?_
              rintro e wt10 (⟨W, A5, c5, -, hfo, rfl, hvin, -, hff⟩ | ⟨kk, -, hno, rfl, hff⟩)
              rotate_left
              · rw [hno KP.out] at hpf
                cases hpf
              obtain rfl : (heldV V q.2 l.2 q.1) = W := Option.some.inj (hpf.symm.trans hfo)
              have WI := hid_ hvin
              replace BA := hid_ (BA.out.fr hff id)
              replace FS := hid_ (FS.out.then_none hff)
              refine ⟨FS.out, ?_⟩
              clear hfo hvin hff hpf KP CH
              refine wpAnyU_take2 (i := 7) (v := _) rfl (by kernel_rfl) (by kernel_rfl) (by kernel_rfl) (by kernel_rfl) (fun _ _ _ h => h) (.inl ⟨by kernel_rfl, fun w' hS => by go_simp; rfl⟩) FS.out ?_
              refine wpAnyU_take2 (i := 8) (v := _) rfl (by kernel_rfl) (by kernel_rfl) (by kernel_rfl) (by kernel_rfl) (fun _ _ _ h => h) (.inl ⟨by kernel_rfl, fun w' hS => by go_simp; rfl⟩) FS.out ?_
              refine wpAnyU_take2 (i := 9) (v := _) rfl (by kernel_rfl) (by kernel_rfl) (by kernel_rfl) (by kernel_rfl) (fun _ _ _ h => h) (.inl ⟨by kernel_rfl, fun w' hS => by go_simp; rfl⟩) FS.out ?_
              refine wpAnyU_oneG (i := 11) rfl (by kernel_rfl) (by kernel_rfl) ?_
              refine wp_store_mid 29 (.tmp 11) (.tmp 59) rfl wt2.heap.size 0 (vwA (heldV V q.2 l.2 q.1) (.slice A5 (heldV V q.2 l.2 q.1).ents.length c5)) rfl rfl (BA.out.there0 rfl) view_sz8 (by simp [Value.oneCell']) ?_
              obtain ⟨wf, hz⟩ : ∃ z, z = wt10.setCells (wt2.heap.size) 0 (vwA (heldV V q.2 l.2 q.1) (.slice A5 (heldV V q.2 l.2 q.1).ents.length c5)).toList := ⟨_, rfl⟩
              have ov := BA.out.over (vwA (heldV V q.2 l.2 q.1) (.slice A5 (heldV V q.2 l.2 q.1).ents.length c5)).toList rfl
              rw [← hz] at ov
              have fS := FS.out.then_only ov.2 (.inr HA.out)
              refine ⟨.inr (by rw [← hz]; exact fS), ?_⟩
              change wpAnyU _ _ _ _ _ _ _ _ _ (wt10.setCells (wt2.heap.size) 0 (vwA (heldV V q.2 l.2 q.1) (.slice A5 (heldV V q.2 l.2 q.1).ents.length c5)).toList)
              rw [← hz]
              clear hz
              have WJ := hid_ (WI.out.far BA.out ov.2)
              have OV := hid_ (show Blk wf (wt2.heap.size) 29 (vwA (heldV V q.2 l.2 q.1) (.slice A5 (heldV V q.2 l.2 q.1).ents.length c5)) from ov.1)
              refine wpAnyU_take2 (i := 12) (v := _) rfl (by kernel_rfl) (by kernel_rfl) (by kernel_rfl) (by kernel_rfl) (fun _ _ _ h => h) (.inl ⟨by kernel_rfl, fun w' hS => by go_simp; rfl⟩) fS ?_
              refine wpAnyU_done (by kernel_rfl) ?_ _
              go_wp2_with fail
              go_meet
              exact ⟨_, A5, c5, rfl, rfl, HA.out, OV.out, WJ.out, fS⟩
          · skip
            go_simp
            have HA := hid_ FS.out.size
            obtain ⟨wt11, hz⟩ : ∃ z, z = wt1.alloc (.cells (vwA Vw.zero (.slice none 0 0)) 29) := ⟨_, rfl⟩
            have fz : Fr none_ wt1 wt11 := by rw [hz]; exact (Fr.refl none_ wt1).alloc _
            have BA : Hid (Blk wt11 wt1.heap.size 29 (vwA Vw.zero (.slice none 0 0))) := hid_ (by rw [hz]; exact Blk.new wt1 _ _)
            replace BP := hid_ (BP.out.fr fz id)
            replace FS := hid_ (FS.out.then_none fz)
            change Fr none_ w6 (wt1.alloc (.cells (vwA Vw.zero (.slice none 0 0)) 29)) ∧ wpAnyU _ _ _ _ _ _ _ _ _ (wt1.alloc (.cells (vwA Vw.zero (.slice none 0 0)) 29))
            rw [← hz]
            refine ⟨FS.out, ?_⟩
            clear hz fz
            refine wpAnyU_oneG (i := 4) rfl (by kernel_rfl) (by kernel_rfl) ?_
            go_simp
            refine (own8_ok A L.length cap L _ (((H.out.keep FS.out)).few HE.out) (by omega) (in_rows (H.out.keep FS.out))).mono ?_
            rintro e wt12 ⟨A9, c9, Ds, rfl, hCs, hown, hco, hf2⟩
            have DR := hid_ (And.intro hown hco)
            have DM := hid_ hCs
            replace BP := hid_ (BP.out.fr hf2 id)
            replace BA := hid_ (BA.out.fr hf2 id)
            replace FS := hid_ (FS.out.then_none hf2)
            refine ⟨FS.out, ?_⟩
            clear hCs hown hco hf2
            refine wpAnyU_oneG (i := 5) rfl (by kernel_rfl) (by kernel_rfl) ?_
            refine wp_append_any _ (.tmp 54) (.tmp 56) 22 rfl 0 39 i0 _ 15 192 Try.underlying22 Hi.out.1 Hi.out.2.1 Hi.out.2.2.1 Hi.out.2.2.2 rfl (by omega) (.slice (some ⟨we.heap.size, 0, none⟩) 1 1) 1 (recL ⟨holdR q.2 l.2 q.1, none, 0, none, 0⟩) rfl (own_rec BP.out) A9 L.length c9 (recFlat Ds) rfl (Reads.of_own DR.out.1) (recFlat_one _) (by simp only [maxLen]; omega) (by omega) (Nat.zero_le _) ?_
            intro A7 c7 wt13 hown hgr
            obtain ⟨hch, hfb⟩ := push_chain DM.out rfl BP.out DR.out hown hgr (bare_ok rfl rfl SzOk.nil SzOk.nil SzOk.nil HQL.out)
            have CH := hid_ hch
            replace BA := hid_ (BA.out.fr hfb (only_ne (Blk.ne_ BA.out BP.out (by decide))))
            replace FS := hid_ (FS.out.then_only hfb (.inr HG.out))
            refine ⟨.inr FS.out, ?_⟩
            clear hch hfb hown hgr DR BP
            refine wpAnyU_oneG (i := 6) rfl (by kernel_rfl) (by kernel_rfl) ?_
            go_simp
            have hpf : foldU ((⟨holdR q.2 l.2 q.1, none, 0, none, 0⟩ :: Ds).map (·.R)) = some (heldV V q.2 l.2 q.1) := (fold_push_of HM.out DM.out HFO.out.2 _).trans (UP.out)
            have KP := hid_ (kind_push HM.out DM.out HFO.out.1 (R := holdR q.2 l.2 q.1) ⟨by show (7 : Int) ≤ 10; decide, by show (10 : Int) ≤ 11; decide⟩ (P := ⟨holdR q.2 l.2 q.1, none, 0, none, 0⟩) rfl)
            refine (fold_ok A7 (1 + L.length) c7 (⟨holdR q.2 l.2 q.1, none, 0, none, 0⟩ :: Ds) _ CH.out (by omega) (ents_push DM.out HE.out (Nat.zero_le _))).mono ?_
            rintro e wt14 (⟨W, A5, c5, -, hfo, rfl, hvin, -, hff⟩ | ⟨kk, -, hno, rfl, hff⟩)
            rotate_left
            · rw [hno KP.out] at hpf
              cases hpf
            obtain rfl : (heldV V q.2 l.2 q.1) = W := Option.some.inj (hpf.symm.trans hfo)
            have WI := hid_ hvin
            replace BA := hid_ (BA.out.fr hff id)
            replace FS := hid_ (FS.out.then_none hff)
            refine ⟨FS.out, ?_⟩
            clear hfo hvin hff hpf KP CH
            refine wpAnyU_take2 (i := 7) (v := _) rfl (by kernel_rfl) (by kernel_rfl) (by kernel_rfl) (by kernel_rfl) (fun _ _ _ h => h) (.inl ⟨by kernel_rfl, fun w' hS => by go_simp; rfl⟩) FS.out ?_
            refine wpAnyU_take2 (i := 8) (v := _) rfl (by kernel_rfl) (by kernel_rfl) (by kernel_rfl) (by kernel_rfl) (fun _ _ _ h => h) (.inl ⟨by kernel_rfl, fun w' hS => by go_simp; rfl⟩) FS.out ?_
            refine wpAnyU_take2 (i := 9) (v := _) rfl (by kernel_rfl) (by kernel_rfl) (by kernel_rfl) (by kernel_rfl) (fun _ _ _ h => h) (.inl ⟨by kernel_rfl, fun w' hS => by go_simp; rfl⟩) FS.out ?_
            refine wpAnyU_oneG (i := 11) rfl (by kernel_rfl) (by kernel_rfl) ?_
            refine wp_store_mid 29 (.tmp 11) (.tmp 59) rfl wt1.heap.size 0 (vwA (heldV V q.2 l.2 q.1) (.slice A5 (heldV V q.2 l.2 q.1).ents.length c5)) rfl rfl (BA.out.there0 rfl) view_sz8 (by simp [Value.oneCell']) ?_
            obtain ⟨wf, hz⟩ : ∃ z, z = wt14.setCells (wt1.heap.size) 0 (vwA (heldV V q.2 l.2 q.1) (.slice A5 (heldV V q.2 l.2 q.1).ents.length c5)).toList := ⟨_, rfl⟩
            have ov := BA.out.over (vwA (heldV V q.2 l.2 q.1) (.slice A5 (heldV V q.2 l.2 q.1).ents.length c5)).toList rfl
            rw [← hz] at ov
            have fS := FS.out.then_only ov.2 (.inr HA.out)
            refine ⟨.inr (by rw [← hz]; exact fS), ?_⟩
            change wpAnyU _ _ _ _ _ _ _ _ _ (wt14.setCells (wt1.heap.size) 0 (vwA (heldV V q.2 l.2 q.1) (.slice A5 (heldV V q.2 l.2 q.1).ents.length c5)).toList)
            rw [← hz]
            clear hz
            have WJ := hid_ (WI.out.far BA.out ov.2)
            have OV := hid_ (show Blk wf (wt1.heap.size) 29 (vwA (heldV V q.2 l.2 q.1) (.slice A5 (heldV V q.2 l.2 q.1).ents.length c5)) from ov.1)
            refine wpAnyU_take2 (i := 12) (v := _) rfl (by kernel_rfl) (by kernel_rfl) (by kernel_rfl) (by kernel_rfl) (fun _ _ _ h => h) (.inl ⟨by kernel_rfl, fun w' hS => by go_simp; rfl⟩) fS ?_
            refine wpAnyU_done (by kernel_rfl) ?_ _
            go_wp2_with fail
            go_meet
            exact ⟨_, A5, c5, rfl, rfl, HA.out, OV.out, WJ.out, fS⟩
        · skip
          go_simp
          refine (own8_ok A L.length cap L _ (((H.out.keep FS.out)).few HE.out) (by omega) (in_rows (H.out.keep FS.out))).mono ?_
          rintro e wt15 ⟨A9, c9, Ds, rfl, hCs, hown, hco, hf2⟩
          have DR := hid_ (And.intro hown hco)
          have DM := hid_ hCs
          replace FS := hid_ (FS.out.then_none hf2)
          refine ⟨FS.out, ?_⟩
          clear hCs hown hco hf2
          refine wpAnyU_two (i := 2) (j := 10) rfl rfl rfl rfl (by kernel_rfl) ?_ ?_
          · skip
            go_simp
            have HG := hid_ FS.out.size
            obtain ⟨wt16, hz⟩ : ∃ z, z = wt15.alloc (.cells (recL ⟨holdR q.2 l.2 q.1, none, 0, none, 0⟩).toArray 39) := ⟨_, rfl⟩
            have fz : Fr none_ wt15 wt16 := by rw [hz]; exact (Fr.refl none_ wt15).alloc _
            have BP : Hid (Blk wt16 wt15.heap.size 39 (recL ⟨holdR q.2 l.2 q.1, none, 0, none, 0⟩).toArray) := hid_ (by rw [hz]; exact Blk.new wt15 _ _)
            replace DR := hid_ (And.intro (own_none DR.out.1 fz) (fun C hC => (DR.out.2 C hC).keep fz))
            replace FS := hid_ (FS.out.then_none fz)
            change Fr none_ w6 (wt15.alloc (.cells (recL ⟨holdR q.2 l.2 q.1, none, 0, none, 0⟩).toArray 39)) ∧ wpAnyU _ _ _ _ _ _ _ _ _ (wt15.alloc (.cells (recL ⟨holdR q.2 l.2 q.1, none, 0, none, 0⟩).toArray 39))
            rw [← hz]
            refine ⟨FS.out, ?_⟩
            clear hz fz
            refine wpAnyU_two (i := 5) (j := 10) rfl rfl rfl rfl (by kernel_rfl) ?_ ?_
            · skip
              refine wp_append_any _ (.tmp 54) (.tmp 56) 22 rfl 0 39 i0 _ 15 192 Try.underlying22 Hi.out.1 Hi.out.2.1 Hi.out.2.2.1 Hi.out.2.2.2 rfl (by omega) (.slice (some ⟨wt15.heap.size, 0, none⟩) 1 1) 1 (recL ⟨holdR q.2 l.2 q.1, none, 0, none, 0⟩) rfl (own_rec BP.out) A9 L.length c9 (recFlat Ds) rfl (Reads.of_own DR.out.1) (recFlat_one _) (by simp only [maxLen]; omega) (by omega) (Nat.zero_le _) ?_
              intro A7 c7 wt17 hown hgr
              obtain ⟨hch, hfb⟩ := push_chain DM.out rfl BP.out DR.out hown hgr (bare_ok rfl rfl SzOk.nil SzOk.nil SzOk.nil HQL.out)
              have CH := hid_ hch
              replace FS := hid_ (FS.out.then_only hfb (.inr HG.out))
              refine ⟨.inr FS.out, ?_⟩
              clear hch hfb hown hgr DR BP
              refine wpAnyU_two (i := 6) (j := 10) rfl rfl rfl rfl (by kernel_rfl) ?_ ?_
              · skip
                go_simp
                have hpf : foldU ((⟨holdR q.2 l.2 q.1, none, 0, none, 0⟩ :: Ds).map (·.R)) = some (heldV V q.2 l.2 q.1) := (fold_push_of HM.out DM.out HFO.out.2 _).trans (UP.out)
                have KP := hid_ (kind_push HM.out DM.out HFO.out.1 (R := holdR q.2 l.2 q.1) ⟨by show (7 : Int) ≤ 10; decide, by show (10 : Int) ≤ 11; decide⟩ (P := ⟨holdR q.2 l.2 q.1, none, 0, none, 0⟩) rfl)
                refine (fold_ok A7 (1 + L.length) c7 (⟨holdR q.2 l.2 q.1, none, 0, none, 0⟩ :: Ds) _ CH.out (by omega) (ents_push DM.out HE.out (Nat.zero_le _))).mono ?_
                rintro e wt18 (⟨W, A5, c5, -, hfo, rfl, hvin, -, hff⟩ | ⟨kk, -, hno, rfl, hff⟩)
                rotate_left
                · rw [hno KP.out] at hpf
                  cases hpf
                obtain rfl : (heldV V q.2 l.2 q.1) = W := Option.some.inj (hpf.symm.trans hfo)
                have WI := hid_ hvin
                replace FS := hid_ (FS.out.then_none hff)
                refine ⟨FS.out, ?_⟩
                clear hfo hvin hff hpf KP CH
                refine wpAnyU_take2 (i := 7) (v := _) rfl (by kernel_rfl) (by kernel_rfl) (by kernel_rfl) (by kernel_rfl) (fun _ _ _ h => h) (.inl ⟨by kernel_rfl, fun w' hS => by go_simp; rfl⟩) FS.out ?_
                refine wpAnyU_take2 (i := 8) (v := _) rfl (by kernel_rfl) (by kernel_rfl) (by kernel_rfl) (by kernel_rfl) (fun _ _ _ h => h) (.inl ⟨by kernel_rfl, fun w' hS => by go_simp; rfl⟩) FS.out ?_
                refine wpAnyU_take2 (i := 9) (v := _) rfl (by kernel_rfl) (by kernel_rfl) (by kernel_rfl) (by kernel_rfl) (fun _ _ _ h => h) (.inl ⟨by kernel_rfl, fun w' hS => by go_simp; rfl⟩) FS.out ?_
                refine wpAnyU_oneG (i := 10) rfl (by kernel_rfl) (by kernel_rfl) ?_
                go_simp
                have HA := hid_ FS.out.size
                obtain ⟨wt19, hz⟩ : ∃ z, z = wt18.alloc (.cells (vwA Vw.zero (.slice none 0 0)) 29) := ⟨_, rfl⟩
                have fz : Fr none_ wt18 wt19 := by rw [hz]; exact (Fr.refl none_ wt18).alloc _
                have BA : Hid (Blk wt19 wt18.heap.size 29 (vwA Vw.zero (.slice none 0 0))) := hid_ (by rw [hz]; exact Blk.new wt18 _ _)
                replace WI := hid_ (WI.out.keep fz)
                replace FS := hid_ (FS.out.then_none fz)
                change Fr none_ w6 (wt18.alloc (.cells (vwA Vw.zero (.slice none 0 0)) 29)) ∧ wpAnyU _ _ _ _ _ _ _ _ _ (wt18.alloc (.cells (vwA Vw.zero (.slice none 0 0)) 29))
                rw [← hz]
                refine ⟨FS.out, ?_⟩
                clear hz fz
                refine wpAnyU_oneG (i := 11) rfl (by kernel_rfl) (by kernel_rfl) ?_
                refine wp_store_mid 29 (.tmp 11) (.tmp 59) rfl wt18.heap.size 0 (vwA (heldV V q.2 l.2 q.1) (.slice A5 (heldV V q.2 l.2 q.1).ents.length c5)) rfl rfl (BA.out.there0 rfl) view_sz8 (by simp [Value.oneCell']) ?_
                obtain ⟨wf, hz⟩ : ∃ z, z = wt19.setCells (wt18.heap.size) 0 (vwA (heldV V q.2 l.2 q.1) (.slice A5 (heldV V q.2 l.2 q.1).ents.length c5)).toList := ⟨_, rfl⟩
                have ov := BA.out.over (vwA (heldV V q.2 l.2 q.1) (.slice A5 (heldV V q.2 l.2 q.1).ents.length c5)).toList rfl
                rw [← hz] at ov
                have fS := FS.out.then_only ov.2 (.inr HA.out)
                refine ⟨.inr (by rw [← hz]; exact fS), ?_⟩
                change wpAnyU _ _ _ _ _ _ _ _ _ (wt19.setCells (wt18.heap.size) 0 (vwA (heldV V q.2 l.2 q.1) (.slice A5 (heldV V q.2 l.2 q.1).ents.length c5)).toList)
                rw [← hz]
                clear hz
                have WJ := hid_ (WI.out.far BA.out ov.2)
                have OV := hid_ (show Blk wf (wt18.heap.size) 29 (vwA (heldV V q.2 l.2 q.1) (.slice A5 (heldV V q.2 l.2 q.1).ents.length c5)) from ov.1)
                refine wpAnyU_take2 (i := 12) (v := _) rfl (by kernel_rfl) (by kernel_rfl) (by kernel_rfl) (by kernel_rfl) (fun _ _ _ h => h) (.inl ⟨by kernel_rfl, fun w' hS => by go_simp; rfl⟩) fS ?_
                refine wpAnyU_done (by kernel_rfl) ?_ _
                go_wp2_with fail
                go_meet
                exact ⟨_, A5, c5, rfl, rfl, HA.out, OV.out, WJ.out, fS⟩
              · skip
                go_simp
                have HA := hid_ FS.out.size
                obtain ⟨wt20, hz⟩ : ∃ z, z = wt17.alloc (.cells (vwA Vw.zero (.slice none 0 0)) 29) := ⟨_, rfl⟩
                have fz : Fr none_ wt17 wt20 := by rw [hz]; exact (Fr.refl none_ wt17).alloc _
                have BA : Hid (Blk wt20 wt17.heap.size 29 (vwA Vw.zero (.slice none 0 0))) := hid_ (by rw [hz]; exact Blk.new wt17 _ _)
                replace CH := hid_ (CH.out.keep fz)
                replace FS := hid_ (FS.out.then_none fz)
                change Fr none_ w6 (wt17.alloc (.cells (vwA Vw.zero (.slice none 0 0)) 29)) ∧ wpAnyU _ _ _ _ _ _ _ _ _ (wt17.alloc (.cells (vwA Vw.zero (.slice none 0 0)) 29))
                rw [← hz]
                refine ⟨FS.out, ?_⟩
                clear hz fz
                refine wpAnyU_oneG (i := 6) rfl (by kernel_rfl) (by kernel_rfl) ?_
                go_simp
                have hpf : foldU ((⟨holdR q.2 l.2 q.1, none, 0, none, 0⟩ :: Ds).map (·.R)) = some (heldV V q.2 l.2 q.1) := (fold_push_of HM.out DM.out HFO.out.2 _).trans (UP.out)
                have KP := hid_ (kind_push HM.out DM.out HFO.out.1 (R := holdR q.2 l.2 q.1) ⟨by show (7 : Int) ≤ 10; decide, by show (10 : Int) ≤ 11; decide⟩ (P := ⟨holdR q.2 l.2 q.1, none, 0, none, 0⟩) rfl)
                refine (fold_ok A7 (1 + L.length) c7 (⟨holdR q.2 l.2 q.1, none, 0, none, 0⟩ :: Ds) _ CH.out (by omega) (ents_push DM.out HE.out (Nat.zero_le _))).mono ?_
                rintro e wt21 (⟨W, A5, c5, -, hfo, rfl, hvin, -, hff⟩ | ⟨kk, -, hno, rfl, hff⟩)
                rotate_left
                · rw [hno KP.out] at hpf
                  cases hpf
                obtain rfl : (heldV V q.2 l.2 q.1) = W := Option.some.inj (hpf.symm.trans hfo)
                have WI := hid_ hvin
                replace BA := hid_ (BA.out.fr hff id)
                replace FS := hid_ (FS.out.then_none hff)
                refine ⟨FS.out, ?_⟩
                clear hfo hvin hff hpf KP CH
                refine wpAnyU_take2 (i := 7) (v := _) rfl (by kernel_rfl) (by kernel_rfl) (by kernel_rfl) (by kernel_rfl) (fun _ _ _ h => h) (.inl ⟨by kernel_rfl, fun w' hS => by go_simp; rfl⟩) FS.out ?_
                refine wpAnyU_take2 (i := 8) (v := _) rfl (by kernel_rfl) (by kernel_rfl) (by kernel_rfl) (by kernel_rfl) (fun _ _ _ h => h) (.inl ⟨by kernel_rfl, fun w' hS => by go_simp; rfl⟩) FS.out ?_
                refine wpAnyU_take2 (i := 9) (v := _) rfl (by kernel_rfl) (by kernel_rfl) (by kernel_rfl) (by kernel_rfl) (fun _ _ _ h => h) (.inl ⟨by kernel_rfl, fun w' hS => by go_simp; rfl⟩) FS.out ?_
                refine wpAnyU_oneG (i := 11) rfl (by kernel_rfl) (by kernel_rfl) ?_
                refine wp_store_mid 29 (.tmp 11) (.tmp 59) rfl wt17.heap.size 0 (vwA (heldV V q.2 l.2 q.1) (.slice A5 (heldV V q.2 l.2 q.1).ents.length c5)) rfl rfl (BA.out.there0 rfl) view_sz8 (by simp [Value.oneCell']) ?_
                obtain ⟨wf, hz⟩ : ∃ z, z = wt21.setCells (wt17.heap.size) 0 (vwA (heldV V q.2 l.2 q.1) (.slice A5 (heldV V q.2 l.2 q.1).ents.length c5)).toList := ⟨_, rfl⟩
                have ov := BA.out.over (vwA (heldV V q.2 l.2 q.1) (.slice A5 (heldV V q.2 l.2 q.1).ents.length c5)).toList rfl
                rw [← hz] at ov
                have fS := FS.out.then_only ov.2 (.inr HA.out)
                refine ⟨.inr (by rw [← hz]; exact fS), ?_⟩
                change wpAnyU _ _ _ _ _ _ _ _ _ (wt21.setCells (wt17.heap.size) 0 (vwA (heldV V q.2 l.2 q.1) (.slice A5 (heldV V q.2 l.2 q.1).ents.length c5)).toList)
                rw [← hz]
                clear hz
                have WJ := hid_ (WI.out.far BA.out ov.2)
                have OV := hid_ (show Blk wf (wt17.heap.size) 29 (vwA (heldV V q.2 l.2 q.1) (.slice A5 (heldV V q.2 l.2 q.1).ents.length c5)) from ov.1)
                refine wpAnyU_take2 (i := 12) (v := _) rfl (by kernel_rfl) (by kernel_rfl) (by kernel_rfl) (by kernel_rfl) (fun _ _ _ h => h) (.inl ⟨by kernel_rfl, fun w' hS => by go_simp; rfl⟩) fS ?_
                refine wpAnyU_done (by kernel_rfl) ?_ _
                go_wp2_with fail
                go_meet
                exact ⟨_, A5, c5, rfl, rfl, HA.out, OV.out, WJ.out, fS⟩
            · skip
              go_simp
              have HA := hid_ FS.out.size
              obtain ⟨wt22, hz⟩ : ∃ z, z = wt16.alloc (.cells (vwA Vw.zero (.slice none 0 0)) 29) := ⟨_, rfl⟩
              have fz : Fr none_ wt16 wt22 := by rw [hz]; exact (Fr.refl none_ wt16).alloc _
              have BA : Hid (Blk wt22 wt16.heap.size 29 (vwA Vw.zero (.slice none 0 0))) := hid_ (by rw [hz]; exact Blk.new wt16 _ _)
              replace BP := hid_ (BP.out.fr fz id)
              replace DR := hid_ (And.intro (own_none DR.out.1 fz) (fun C hC => (DR.out.2 C hC).keep fz))
              replace FS := hid_ (FS.out.then_none fz)
              change Fr none_ w6 (wt16.alloc (.cells (vwA Vw.zero (.slice none 0 0)) 29)) ∧ wpAnyU _ _ _ _ _ _ _ _ _ (wt16.alloc (.cells (vwA Vw.zero (.slice none 0 0)) 29))
              rw [← hz]
              refine ⟨FS.out, ?_⟩
              clear hz fz
              refine wpAnyU_oneG (i := 5) rfl (by kernel_rfl) (by kernel_rfl) ?_
              refine wp_append_any _ (.tmp 54) (.tmp 56) 22 rfl 0 39 i0 _ 15 192 Try.underlying22 Hi.out.1 Hi.out.2.1 Hi.out.2.2.1 Hi.out.2.2.2 rfl (by omega) (.slice (some ⟨wt15.heap.size, 0, none⟩) 1 1) 1 (recL ⟨holdR q.2 l.2 q.1, none, 0, none, 0⟩) rfl (own_rec BP.out) A9 L.length c9 (recFlat Ds) rfl (Reads.of_own DR.out.1) (recFlat_one _) (by simp only [maxLen]; omega) (by omega) (Nat.zero_le _) ?_
              intro A7 c7 wt23 hown hgr
              obtain ⟨hch, hfb⟩ := push_chain DM.out rfl BP.out DR.out hown hgr (bare_ok rfl rfl SzOk.nil SzOk.nil SzOk.nil HQL.out)
              have CH := hid_ hch
              replace BA := hid_ (BA.out.fr hfb (only_ne (Blk.ne_ BA.out BP.out (by decide))))
              replace FS := hid_ (FS.out.then_only hfb (.inr HG.out))
              refine ⟨.inr FS.out, ?_⟩
              clear hch hfb hown hgr DR BP
              refine wpAnyU_oneG (i := 6) rfl (by kernel_rfl) (by kernel_rfl) ?_
              go_simp
              have hpf : foldU ((⟨holdR q.2 l.2 q.1, none, 0, none, 0⟩ :: Ds).map (·.R)) = some (heldV V q.2 l.2 q.1) := (fold_push_of HM.out DM.out HFO.out.2 _).trans (UP.out)
              have KP := hid_ (kind_push HM.out DM.out HFO.out.1 (R := holdR q.2 l.2 q.1) ⟨by show (7 : Int) ≤ 10; decide, by show (10 : Int) ≤ 11; decide⟩ (P := ⟨holdR q.2 l.2 q.1, none, 0, none, 0⟩) rfl)
              refine (fold_ok A7 (1 + L.length) c7 (⟨holdR q.2 l.2 q.1, none, 0, none, 0⟩ :: Ds) _ CH.out (by omega) (ents_push DM.out HE.out (Nat.zero_le _))).mono ?_
              rintro e wt24 (⟨W, A5, c5, -, hfo, rfl, hvin, -, hff⟩ | ⟨kk, -, hno, rfl, hff⟩)
              rotate_left
              · rw [hno KP.out] at hpf
                cases hpf
              obtain rfl : (heldV V q.2 l.2 q.1) = W := Option.some.inj (hpf.symm.trans hfo)
              have WI := hid_ hvin
              replace BA := hid_ (BA.out.fr hff id)
              replace FS := hid_ (FS.out.then_none hff)
              refine ⟨FS.out, ?_⟩
              clear hfo hvin hff hpf KP CH
              refine wpAnyU_take2 (i := 7) (v := _) rfl (by kernel_rfl) (by kernel_rfl) (by kernel_rfl) (by kernel_rfl) (fun _ _ _ h => h) (.inl ⟨by kernel_rfl, fun w' hS => by go_simp; rfl⟩) FS.out ?_
              refine wpAnyU_take2 (i := 8) (v := _) rfl (by kernel_rfl) (by kernel_rfl) (by kernel_rfl) (by kernel_rfl) (fun _ _ _ h => h) (.inl ⟨by kernel_rfl, fun w' hS => by go_simp; rfl⟩) FS.out ?_
              refine wpAnyU_take2 (i := 9) (v := _) rfl (by kernel_rfl) (by kernel_rfl) (by kernel_rfl) (by kernel_rfl) (fun _ _ _ h => h) (.inl ⟨by kernel_rfl, fun w' hS => by go_simp; rfl⟩) FS.out ?_
              refine wpAnyU_oneG (i := 11) rfl (by kernel_rfl) (by kernel_rfl) ?_
              refine wp_store_mid 29 (.tmp 11) (.tmp 59) rfl wt16.heap.size 0 (vwA (heldV V q.2 l.2 q.1) (.slice A5 (heldV V q.2 l.2 q.1).ents.length c5)) rfl rfl (BA.out.there0 rfl) view_sz8 (by simp [Value.oneCell']) ?_
              obtain ⟨wf, hz⟩ : ∃ z, z = wt24.setCells (wt16.heap.size) 0 (vwA (heldV V q.2 l.2 q.1) (.slice A5 (heldV V q.2 l.2 q.1).ents.length c5)).toList := ⟨_, rfl⟩
              have ov := BA.out.over (vwA (heldV V q.2 l.2 q.1) (.slice A5 (heldV V q.2 l.2 q.1).ents.length c5)).toList rfl
              rw [← hz] at ov
              have fS := FS.out.then_only ov.2 (.inr HA.out)
              refine ⟨.inr (by rw [← hz]; exact fS), ?_⟩
              change wpAnyU _ _ _ _ _ _ _ _ _ (wt24.setCells (wt16.heap.size) 0 (vwA (heldV V q.2 l.2 q.1) (.slice A5 (heldV V q.2 l.2 q.1).ents.length c5)).toList)
              rw [← hz]
              clear hz
              have WJ := hid_ (WI.out.far BA.out ov.2)
              have OV := hid_ (show Blk wf (wt16.heap.size) 29 (vwA (heldV V q.2 l.2 q.1) (.slice A5 (heldV V q.2 l.2 q.1).ents.length c5)) from ov.1)
              refine wpAnyU_take2 (i := 12) (v := _) rfl (by kernel_rfl) (by kernel_rfl) (by kernel_rfl) (by kernel_rfl) (fun _ _ _ h => h) (.inl ⟨by kernel_rfl, fun w' hS => by go_simp; rfl⟩) fS ?_
              refine wpAnyU_done (by kernel_rfl) ?_ _
              go_wp2_with fail
              go_meet
              exact ⟨_, A5, c5, rfl, rfl, HA.out, OV.out, WJ.out, fS⟩
          · skip
            go_simp
            have HA := hid_ FS.out.size
            obtain ⟨wt25, hz⟩ : ∃ z, z = wt15.alloc (.cells (vwA Vw.zero (.slice none 0 0)) 29) := ⟨_, rfl⟩
            have fz : Fr none_ wt15 wt25 := by rw [hz]; exact (Fr.refl none_ wt15).alloc _
            have BA : Hid (Blk wt25 wt15.heap.size 29 (vwA Vw.zero (.slice none 0 0))) := hid_ (by rw [hz]; exact Blk.new wt15 _ _)
            replace DR := hid_ (And.intro (own_none DR.out.1 fz) (fun C hC => (DR.out.2 C hC).keep fz))
            replace FS := hid_ (FS.out.then_none fz)
            change Fr none_ w6 (wt15.alloc (.cells (vwA Vw.zero (.slice none 0 0)) 29)) ∧ wpAnyU _ _ _ _ _ _ _ _ _ (wt15.alloc (.cells (vwA Vw.zero (.slice none 0 0)) 29))
            rw [← hz]
            refine ⟨FS.out, ?_⟩
            clear hz fz
            refine wpAnyU_oneG (i := 2) rfl (by kernel_rfl) (by kernel_rfl) ?_
            go_simp
            have HG := hid_ FS.out.size
            obtain ⟨wt26, hz⟩ : ∃ z, z = wt25.alloc (.cells (recL ⟨holdR q.2 l.2 q.1, none, 0, none, 0⟩).toArray 39) := ⟨_, rfl⟩
            have fz : Fr none_ wt25 wt26 := by rw [hz]; exact (Fr.refl none_ wt25).alloc _
            have BP : Hid (Blk wt26 wt25.heap.size 39 (recL ⟨holdR q.2 l.2 q.1, none, 0, none, 0⟩).toArray) := hid_ (by rw [hz]; exact Blk.new wt25 _ _)
            replace DR := hid_ (And.intro (own_none DR.out.1 fz) (fun C hC => (DR.out.2 C hC).keep fz))
            replace BA := hid_ (BA.out.fr fz id)
            replace FS := hid_ (FS.out.then_none fz)
            change Fr none_ w6 (wt25.alloc (.cells (recL ⟨holdR q.2 l.2 q.1, none, 0, none, 0⟩).toArray 39)) ∧ wpAnyU _ _ _ _ _ _ _ _ _ (wt25.alloc (.cells (recL ⟨holdR q.2 l.2 q.1, none, 0, none, 0⟩).toArray 39))
            rw [← hz]
            refine ⟨FS.out, ?_⟩
            clear hz fz
            refine wpAnyU_oneG (i := 5) rfl (by kernel_rfl) (by kernel_rfl) ?_
            refine wp_append_any _ (.tmp 54) (.tmp 56) 22 rfl 0 39 i0 _ 15 192 Try.underlying22 Hi.out.1 Hi.out.2.1 Hi.out.2.2.1 Hi.out.2.2.2 rfl (by omega) (.slice (some ⟨wt25.heap.size, 0, none⟩) 1 1) 1 (recL ⟨holdR q.2 l.2 q.1, none, 0, none, 0⟩) rfl (own_rec BP.out) A9 L.length c9 (recFlat Ds) rfl (Reads.of_own DR.out.1) (recFlat_one _) (by simp only [maxLen]; omega) (by omega) (Nat.zero_le _) ?_
            intro A7 c7 wt27 hown hgr
            obtain ⟨hch, hfb⟩ := push_chain DM.out rfl BP.out DR.out hown hgr (bare_ok rfl rfl SzOk.nil SzOk.nil SzOk.nil HQL.out)
            have CH := hid_ hch
            replace BA := hid_ (BA.out.fr hfb (only_ne (Blk.ne_ BA.out BP.out (by decide))))
            replace FS := hid_ (FS.out.then_only hfb (.inr HG.out))
            refine ⟨.inr FS.out, ?_⟩
            clear hch hfb hown hgr DR BP
            refine wpAnyU_oneG (i := 6) rfl (by kernel_rfl) (by kernel_rfl) ?_
            go_simp
            have hpf : foldU ((⟨holdR q.2 l.2 q.1, none, 0, none, 0⟩ :: Ds).map (·.R)) = some (heldV V q.2 l.2 q.1) := (fold_push_of HM.out DM.out HFO.out.2 _).trans (UP.out)
            have KP := hid_ (kind_push HM.out DM.out HFO.out.1 (R := holdR q.2 l.2 q.1) ⟨by show (7 : Int) ≤ 10; decide, by show (10 : Int) ≤ 11; decide⟩ (P := ⟨holdR q.2 l.2 q.1, none, 0, none, 0⟩) rfl)
            refine (fold_ok A7 (1 + L.length) c7 (⟨holdR q.2 l.2 q.1, none, 0, none, 0⟩ :: Ds) _ CH.out (by omega) (ents_push DM.out HE.out (Nat.zero_le _))).mono ?_
            rintro e wt28 (⟨W, A5, c5, -, hfo, rfl, hvin, -, hff⟩ | ⟨kk, -, hno, rfl, hff⟩)
            rotate_left
            · rw [hno KP.out] at hpf
              cases hpf
            obtain rfl : (heldV V q.2 l.2 q.1) = W := Option.some.inj (hpf.symm.trans hfo)
            have WI := hid_ hvin
            replace BA := hid_ (BA.out.fr hff id)
            replace FS := hid_ (FS.out.then_none hff)
            refine ⟨FS.out, ?_⟩
            clear hfo hvin hff hpf KP CH
            refine wpAnyU_take2 (i := 7) (v := _) rfl (by kernel_rfl) (by kernel_rfl) (by kernel_rfl) (by kernel_rfl) (fun _ _ _ h => h) (.inl ⟨by kernel_rfl, fun w' hS => by go_simp; rfl⟩) FS.out ?_
            refine wpAnyU_take2 (i := 8) (v := _) rfl (by kernel_rfl) (by kernel_rfl) (by kernel_rfl) (by kernel_rfl) (fun _ _ _ h => h) (.inl ⟨by kernel_rfl, fun w' hS => by go_simp; rfl⟩) FS.out ?_
            refine wpAnyU_take2 (i := 9) (v := _) rfl (by kernel_rfl) (by kernel_rfl) (by kernel_rfl) (by kernel_rfl) (fun _ _ _ h => h) (.inl ⟨by kernel_rfl, fun w' hS => by go_simp; rfl⟩) FS.out ?_
            refine wpAnyU_oneG (i := 11) rfl (by kernel_rfl) (by kernel_rfl) ?_
            refine wp_store_mid 29 (.tmp 11) (.tmp 59) rfl wt15.heap.size 0 (vwA (heldV V q.2 l.2 q.1) (.slice A5 (heldV V q.2 l.2 q.1).ents.length c5)) rfl rfl (BA.out.there0 rfl) view_sz8 (by simp [Value.oneCell']) ?_
            obtain ⟨wf, hz⟩ : ∃ z, z = wt28.setCells (wt15.heap.size) 0 (vwA (heldV V q.2 l.2 q.1) (.slice A5 (heldV V q.2 l.2 q.1).ents.length c5)).toList := ⟨_, rfl⟩
            have ov := BA.out.over (vwA (heldV V q.2 l.2 q.1) (.slice A5 (heldV V q.2 l.2 q.1).ents.length c5)).toList rfl
            rw [← hz] at ov
            have fS := FS.out.then_only ov.2 (.inr HA.out)
            refine ⟨.inr (by rw [← hz]; exact fS), ?_⟩
            change wpAnyU _ _ _ _ _ _ _ _ _ (wt28.setCells (wt15.heap.size) 0 (vwA (heldV V q.2 l.2 q.1) (.slice A5 (heldV V q.2 l.2 q.1).ents.length c5)).toList)
            rw [← hz]
            clear hz
            have WJ := hid_ (WI.out.far BA.out ov.2)
            have OV := hid_ (show Blk wf (wt15.heap.size) 29 (vwA (heldV V q.2 l.2 q.1) (.slice A5 (heldV V q.2 l.2 q.1).ents.length c5)) from ov.1)
            refine wpAnyU_take2 (i := 12) (v := _) rfl (by kernel_rfl) (by kernel_rfl) (by kernel_rfl) (by kernel_rfl) (fun _ _ _ h => h) (.inl ⟨by kernel_rfl, fun w' hS => by go_simp; rfl⟩) fS ?_
            refine wpAnyU_done (by kernel_rfl) ?_ _
            go_wp2_with fail
            go_meet
            exact ⟨_, A5, c5, rfl, rfl, HA.out, OV.out, WJ.out, fS⟩
        · skip
          go_simp
          have HA := hid_ FS.out.size
          obtain ⟨wt29, hz⟩ : ∃ z, z = we.alloc (.cells (vwA Vw.zero (.slice none 0 0)) 29) := ⟨_, rfl⟩
          have fz : Fr none_ we wt29 := by rw [hz]; exact (Fr.refl none_ we).alloc _
          have BA : Hid (Blk wt29 we.heap.size 29 (vwA Vw.zero (.slice none 0 0))) := hid_ (by rw [hz]; exact Blk.new we _ _)
          replace FS := hid_ (FS.out.then_none fz)
          change Fr none_ w6 (we.alloc (.cells (vwA Vw.zero (.slice none 0 0)) 29)) ∧ wpAnyU _ _ _ _ _ _ _ _ _ (we.alloc (.cells (vwA Vw.zero (.slice none 0 0)) 29))
          rw [← hz]
          refine ⟨FS.out, ?_⟩
          clear hz fz
          refine wpAnyU_two (i := 2) (j := 4) rfl rfl rfl rfl (by kernel_rfl) ?_ ?_
          · skip
            go_simp
            have HG := hid_ FS.out.size
            obtain ⟨wt30, hz⟩ : ∃ z, z = wt29.alloc (.cells (recL ⟨holdR q.2 l.2 q.1, none, 0, none, 0⟩).toArray 39) := ⟨_, rfl⟩
            have fz : Fr none_ wt29 wt30 := by rw [hz]; exact (Fr.refl none_ wt29).alloc _
            have BP : Hid (Blk wt30 wt29.heap.size 39 (recL ⟨holdR q.2 l.2 q.1, none, 0, none, 0⟩).toArray) := hid_ (by rw [hz]; exact Blk.new wt29 _ _)
            replace BA := hid_ (BA.out.fr fz id)
            replace FS := hid_ (FS.out.then_none fz)
            change Fr none_ w6 (wt29.alloc (.cells (recL ⟨holdR q.2 l.2 q.1, none, 0, none, 0⟩).toArray 39)) ∧ wpAnyU _ _ _ _ _ _ _ _ _ (wt29.alloc (.cells (recL ⟨holdR q.2 l.2 q.1, none, 0, none, 0⟩).toArray 39))
            rw [← hz]
            refine ⟨FS.out, ?_⟩
            clear hz fz
            refine wpAnyU_oneG (i := 4) rfl (by kernel_rfl) (by kernel_rfl) ?_
            go_simp
            refine (own8_ok A L.length cap L _ (((H.out.keep FS.out)).few HE.out) (by omega) (in_rows (H.out.keep FS.out))).mono ?_
            rintro e wt31 ⟨A9, c9, Ds, rfl, hCs, hown, hco, hf2⟩
            have DR := hid_ (And.intro hown hco)
            have DM := hid_ hCs
            replace BP := hid_ (BP.out.fr hf2 id)
            replace BA := hid_ (BA.out.fr hf2 id)
            replace FS := hid_ (FS.out.then_none hf2)
            refine ⟨FS.out, ?_⟩
            clear hCs hown hco hf2
            refine wpAnyU_oneG (i := 5) rfl (by kernel_rfl) (by kernel_rfl) ?_
            refine wp_append_any _ (.tmp 54) (.tmp 56) 22 rfl 0 39 i0 _ 15 192 Try.underlying22 Hi.out.1 Hi.out.2.1 Hi.out.2.2.1 Hi.out.2.2.2 rfl (by omega) (.slice (some ⟨wt29.heap.size, 0, none⟩) 1 1) 1 (recL ⟨holdR q.2 l.2 q.1, none, 0, none, 0⟩) rfl (own_rec BP.out) A9 L.length c9 (recFlat Ds) rfl (Reads.of_own DR.out.1) (recFlat_one _) (by simp only [maxLen]; omega) (by omega) (Nat.zero_le _) ?_
            intro A7 c7 wt32 hown hgr
            obtain ⟨hch, hfb⟩ := push_chain DM.out rfl BP.out DR.out hown hgr (bare_ok rfl rfl SzOk.nil SzOk.nil SzOk.nil HQL.out)
            have CH := hid_ hch
            replace BA := hid_ (BA.out.fr hfb (only_ne (Blk.ne_ BA.out BP.out (by decide))))
            replace FS := hid_ (FS.out.then_only hfb (.inr HG.out))
            refine ⟨.inr FS.out, ?_⟩
            clear hch hfb hown hgr DR BP
            refine wpAnyU_oneG (i := 6) rfl (by kernel_rfl) (by kernel_rfl) ?_
            go_simp
            have hpf : foldU ((⟨holdR q.2 l.2 q.1, none, 0, none, 0⟩ :: Ds).map (·.R)) = some (heldV V q.2 l.2 q.1) := (fold_push_of HM.out DM.out HFO.out.2 _).trans (UP.out)
            have KP := hid_ (kind_push HM.out DM.out HFO.out.1 (R := holdR q.2 l.2 q.1) ⟨by show (7 : Int) ≤ 10; decide, by show (10 : Int) ≤ 11; decide⟩ (P := ⟨holdR q.2 l.2 q.1, none, 0, none, 0⟩) rfl)
            refine (fold_ok A7 (1 + L.length) c7 (⟨holdR q.2 l.2 q.1, none, 0, none, 0⟩ :: Ds) _ CH.out (by omega) (ents_push DM.out HE.out (Nat.zero_le _))).mono ?_
            rintro e wt33 (⟨W, A5, c5, -, hfo, rfl, hvin, -, hff⟩ | ⟨kk, -, hno, rfl, hff⟩)
            rotate_left
            · rw [hno KP.out] at hpf
              cases hpf
            obtain rfl : (heldV V q.2 l.2 q.1) = W := Option.some.inj (hpf.symm.trans hfo)
            have WI := hid_ hvin
            replace BA := hid_ (BA.out.fr hff id)
            replace FS := hid_ (FS.out.then_none hff)
            refine ⟨FS.out, ?_⟩
            clear hfo hvin hff hpf KP CH
            refine wpAnyU_take2 (i := 7) (v := _) rfl (by kernel_rfl) (by kernel_rfl) (by kernel_rfl) (by kernel_rfl) (fun _ _ _ h => h) (.inl ⟨by kernel_rfl, fun w' hS => by go_simp; rfl⟩) FS.out ?_
            refine wpAnyU_take2 (i := 8) (v := _) rfl (by kernel_rfl) (by kernel_rfl) (by kernel_rfl) (by kernel_rfl) (fun _ _ _ h => h) (.inl ⟨by kernel_rfl, fun w' hS => by go_simp; rfl⟩) FS.out ?_
            refine wpAnyU_take2 (i := 9) (v := _) rfl (by kernel_rfl) (by kernel_rfl) (by kernel_rfl) (by kernel_rfl) (fun _ _ _ h => h) (.inl ⟨by kernel_rfl, fun w' hS => by go_simp; rfl⟩) FS.out ?_
            refine wpAnyU_oneG (i := 11) rfl (by kernel_rfl) (by kernel_rfl) ?_
            refine wp_store_mid 29 (.tmp 11) (.tmp 59) rfl we.heap.size 0 (vwA (heldV V q.2 l.2 q.1) (.slice A5 (heldV V q.2 l.2 q.1).ents.length c5)) rfl rfl (BA.out.there0 rfl) view_sz8 (by simp [Value.oneCell']) ?_
            obtain ⟨wf, hz⟩ : ∃ z, z = wt33.setCells (we.heap.size) 0 (vwA (heldV V q.2 l.2 q.1) (.slice A5 (heldV V q.2 l.2 q.1).ents.length c5)).toList := ⟨_, rfl⟩
            have ov := BA.out.over (vwA (heldV V q.2 l.2 q.1) (.slice A5 (heldV V q.2 l.2 q.1).ents.length c5)).toList rfl
            rw [← hz] at ov
            have fS := FS.out.then_only ov.2 (.inr HA.out)
            refine ⟨.inr (by rw [← hz]; exact fS), ?_⟩
            change wpAnyU _ _ _ _ _ _ _ _ _ (wt33.setCells (we.heap.size) 0 (vwA (heldV V q.2 l.2 q.1) (.slice A5 (heldV V q.2 l.2 q.1).ents.length c5)).toList)
            rw [← hz]
            clear hz
            have WJ := hid_ (WI.out.far BA.out ov.2)
            have OV := hid_ (show Blk wf (we.heap.size) 29 (vwA (heldV V q.2 l.2 q.1) (.slice A5 (heldV V q.2 l.2 q.1).ents.length c5)) from ov.1)
            refine wpAnyU_take2 (i := 12) (v := _) rfl (by kernel_rfl) (by kernel_rfl) (by kernel_rfl) (by kernel_rfl) (fun _ _ _ h => h) (.inl ⟨by kernel_rfl, fun w' hS => by go_simp; rfl⟩) fS ?_
            refine wpAnyU_done (by kernel_rfl) ?_ _
            go_wp2_with fail
            go_meet
            exact ⟨_, A5, c5, rfl, rfl, HA.out, OV.out, WJ.out, fS⟩
          · skip
            go_simp
            refine (own8_ok A L.length cap L _ (((H.out.keep FS.out)).few HE.out) (by omega) (in_rows (H.out.keep FS.out))).mono ?_
            rintro e wt34 ⟨A9, c9, Ds, rfl, hCs, hown, hco, hf2⟩
            have DR := hid_ (And.intro hown hco)
            have DM := hid_ hCs
            replace BA := hid_ (BA.out.fr hf2 id)
            replace FS := hid_ (FS.out.then_none hf2)
            refine ⟨FS.out, ?_⟩
            clear hCs hown hco hf2
            refine wpAnyU_oneG (i := 2) rfl (by kernel_rfl) (by kernel_rfl) ?_
            go_simp
            have HG := hid_ FS.out.size
            obtain ⟨wt35, hz⟩ : ∃ z, z = wt34.alloc (.cells (recL ⟨holdR q.2 l.2 q.1, none, 0, none, 0⟩).toArray 39) := ⟨_, rfl⟩
            have fz : Fr none_ wt34 wt35 := by rw [hz]; exact (Fr.refl none_ wt34).alloc _
            have BP : Hid (Blk wt35 wt34.heap.size 39 (recL ⟨holdR q.2 l.2 q.1, none, 0, none, 0⟩).toArray) := hid_ (by rw [hz]; exact Blk.new wt34 _ _)
            replace DR := hid_ (And.intro (own_none DR.out.1 fz) (fun C hC => (DR.out.2 C hC).keep fz))
            replace BA := hid_ (BA.out.fr fz id)
            replace FS := hid_ (FS.out.then_none fz)
            change Fr none_ w6 (wt34.alloc (.cells (recL ⟨holdR q.2 l.2 q.1, none, 0, none, 0⟩).toArray 39)) ∧ wpAnyU _ _ _ _ _ _ _ _ _ (wt34.alloc (.cells (recL ⟨holdR q.2 l.2 q.1, none, 0, none, 0⟩).toArray 39))
            rw [← hz]
            refine ⟨FS.out, ?_⟩
            clear hz fz
            refine wpAnyU_oneG (i := 5) rfl (by kernel_rfl) (by kernel_rfl) ?_
            refine wp_append_any _ (.tmp 54) (.tmp 56) 22 rfl 0 39 i0 _ 15 192 Try.underlying22 Hi.out.1 Hi.out.2.1 Hi.out.2.2.1 Hi.out.2.2.2 rfl (by omega) (.slice (some ⟨wt34.heap.size, 0, none⟩) 1 1) 1 (recL ⟨holdR q.2 l.2 q.1, none, 0, none, 0⟩) rfl (own_rec BP.out) A9 L.length c9 (recFlat Ds) rfl (Reads.of_own DR.out.1) (recFlat_one _) (by simp only [maxLen]; omega) (by omega) (Nat.zero_le _) ?_
            intro A7 c7 wt36 hown hgr
            obtain ⟨hch, hfb⟩ := push_chain DM.out rfl BP.out DR.out hown hgr (bare_ok rfl rfl SzOk.nil SzOk.nil SzOk.nil HQL.out)
            have CH := hid_ hch
            replace BA := hid_ (BA.out.fr hfb (only_ne (Blk.ne_ BA.out BP.out (by decide))))
            replace FS := hid_ (FS.out.then_only hfb (.inr HG.out))
            refine ⟨.inr FS.out, ?_⟩
            clear hch hfb hown hgr DR BP
            refine wpAnyU_oneG (i := 6) rfl (by kernel_rfl) (by kernel_rfl) ?_
            go_simp
            have hpf : foldU ((⟨holdR q.2 l.2 q.1, none, 0, none, 0⟩ :: Ds).map (·.R)) = some (heldV V q.2 l.2 q.1) := (fold_push_of HM.out DM.out HFO.out.2 _).trans (UP.out)
            have KP := hid_ (kind_push HM.out DM.out HFO.out.1 (R := holdR q.2 l.2 q.1) ⟨by show (7 : Int) ≤ 10; decide, by show (10 : Int) ≤ 11; decide⟩ (P := ⟨holdR q.2 l.2 q.1, none, 0, none, 0⟩) rfl)
            refine (fold_ok A7 (1 + L.length) c7 (⟨holdR q.2 l.2 q.1, none, 0, none, 0⟩ :: Ds) _ CH.out (by omega) (ents_push DM.out HE.out (Nat.zero_le _))).mono ?_
            rintro e wt37 (⟨W, A5, c5, -, hfo, rfl, hvin, -, hff⟩ | ⟨kk, -, hno, rfl, hff⟩)
            rotate_left
            · rw [hno KP.out] at hpf
              cases hpf
            obtain rfl : (heldV V q.2 l.2 q.1) = W := Option.some.inj (hpf.symm.trans hfo)
            have WI := hid_ hvin
            replace BA := hid_ (BA.out.fr hff id)
            replace FS := hid_ (FS.out.then_none hff)
            refine ⟨FS.out, ?_⟩
            clear hfo hvin hff hpf KP CH
            refine wpAnyU_take2 (i := 7) (v := _) rfl (by kernel_rfl) (by kernel_rfl) (by kernel_rfl) (by kernel_rfl) (fun _ _ _ h => h) (.inl ⟨by kernel_rfl, fun w' hS => by go_simp; rfl⟩) FS.out ?_
            refine wpAnyU_take2 (i := 8) (v := _) rfl (by kernel_rfl) (by kernel_rfl) (by kernel_rfl) (by kernel_rfl) (fun _ _ _ h => h) (.inl ⟨by kernel_rfl, fun w' hS => by go_simp; rfl⟩) FS.out ?_
            refine wpAnyU_take2 (i := 9) (v := _) rfl (by kernel_rfl) (by kernel_rfl) (by kernel_rfl) (by kernel_rfl) (fun _ _ _ h => h) (.inl ⟨by kernel_rfl, fun w' hS => by go_simp; rfl⟩) FS.out ?_
            refine wpAnyU_oneG (i := 11) rfl (by kernel_rfl) (by kernel_rfl) ?_
            refine wp_store_mid 29 (.tmp 11) (.tmp 59) rfl we.heap.size 0 (vwA (heldV V q.2 l.2 q.1) (.slice A5 (heldV V q.2 l.2 q.1).ents.length c5)) rfl rfl (BA.out.there0 rfl) view_sz8 (by simp [Value.oneCell']) ?_
            obtain ⟨wf, hz⟩ : ∃ z, z = wt37.setCells (we.heap.size) 0 (vwA (heldV V q.2 l.2 q.1) (.slice A5 (heldV V q.2 l.2 q.1).ents.length c5)).toList := ⟨_, rfl⟩
            have ov := BA.out.over (vwA (heldV V q.2 l.2 q.1) (.slice A5 (heldV V q.2 l.2 q.1).ents.length c5)).toList rfl
            rw [← hz] at ov
            have fS := FS.out.then_only ov.2 (.inr HA.out)
            refine ⟨.inr (by rw [← hz]; exact fS), ?_⟩
            change wpAnyU _ _ _ _ _ _ _ _ _ (wt37.setCells (we.heap.size) 0 (vwA (heldV V q.2 l.2 q.1) (.slice A5 (heldV V q.2 l.2 q.1).ents.length c5)).toList)
            rw [← hz]
            clear hz
            have WJ := hid_ (WI.out.far BA.out ov.2)
            have OV := hid_ (show Blk wf (we.heap.size) 29 (vwA (heldV V q.2 l.2 q.1) (.slice A5 (heldV V q.2 l.2 q.1).ents.length c5)) from ov.1)
            refine wpAnyU_take2 (i := 12) (v := _) rfl (by kernel_rfl) (by kernel_rfl) (by kernel_rfl) (by kernel_rfl) (fun _ _ _ h => h) (.inl ⟨by kernel_rfl, fun w' hS => by go_simp; rfl⟩) fS ?_
            refine wpAnyU_done (by kernel_rfl) ?_ _
            go_wp2_with fail
            go_meet
            exact ⟨_, A5, c5, rfl, rfl, HA.out, OV.out, WJ.out, fS⟩
      case rest =>
        obtain ⟨b, A6, c6, rfl, rfl, hb, hbt, hvi, hf⟩ := hcut
        have BL := hid_ hbt
        have WL := hid_ hvi
        replace H := hid_ (H.out.keep hf)
        replace F := hid_ (F.out.then_none hf)
        replace VI := hid_ (VI.out.keep hf)
        replace FV := hid_ (FV.out.then_none hf)
        replace BV := hid_ (BV.out.fr hf id)
        replace BH := hid_ (BH.out.fr hf id)
        clear hbt hvi hf
        obtain ⟨wp, hwp⟩ : ∃ z : World, z = wc := ⟨_, rfl⟩
        go_upto_region 8 with fail
        go_cut [13, 14] (fun u v wq => ∃ (b : Nat) (A5 : Option Addr) (c5 : Nat), u = .pointer (some ⟨b, 0, none⟩) ∧ v = .nilIface ∧ wp.heap.size ≤ b ∧ Blk wq b 29 (vwA (cutV V (i + 1)) (.slice A5 (cutV V (i + 1)).ents.length c5)) ∧ VwIn wq (cutV V (i + 1)) A5 c5 ∧ Fr none_ wp wq)
        case first =>
          subst hwp
          have hS1 : (fun w' : World => Fr none_ wp w') wp.drew := (Fr.refl none_ wp).drew
          refine wp_region_U (m := 14) (S := (fun w' : World => Fr none_ wp w')) (by kernel_rfl) ?_
          refine wpAnyU_take2 (i := 0) (v := _) rfl (by kernel_rfl) (by kernel_rfl) (by kernel_rfl) (by kernel_rfl) (fun _ _ _ h => h) (.inl ⟨by kernel_rfl, fun w' hS => by go_simp; rfl⟩) hS1 ?_
          refine wpAnyU_take2 (i := 1) (v := _) rfl (by kernel_rfl) (by kernel_rfl) (by kernel_rfl) (by kernel_rfl) (fun _ _ _ h => h) (.inl ⟨by kernel_rfl, fun w' hS => by have s_0 : w'.cell? ⟨w5.heap.size, 0, none⟩ = some (.int .i64 q.2) := cellFr (BH.out.cell' rfl) hS; have s_1 : w'.cell? ⟨w5.heap.size, 1, none⟩ = some (.int .i64 l.2) := cellFr (BH.out.cell' rfl) hS; have s_2 : w'.cell? ⟨w5.heap.size, 2, none⟩ = some (.string q.1) := cellFr (BH.out.cell' rfl) hS; go_simp; rfl⟩) hS1 ?_
          refine wpAnyU_take2 (i := 2) (v := _) rfl (by kernel_rfl) (by kernel_rfl) (by kernel_rfl) (by kernel_rfl) (fun _ _ _ h => h) (.inl ⟨by kernel_rfl, fun w' hS => by go_simp; rfl⟩) hS1 ?_
          refine wpAnyU_take2 (i := 4) (v := _) rfl (by kernel_rfl) (by kernel_rfl) (by kernel_rfl) (by kernel_rfl) (fun _ _ _ h => h) (.inl ⟨by kernel_rfl, fun w' hS => by go_simp; rfl⟩) hS1 ?_
          have FS := hid_ ((Fr.refl none_ wp).drew)
          obtain ⟨we, hwe⟩ : ∃ z, z = wp.drew := ⟨_, rfl⟩
          rw [← hwe] at FS
          change wpAnyU _ _ _ _ _ _ _ _ _ wp.drew
          rw [← hwe]
          clear hwe hS1
          refine wpAnyU_three (i := 3) (j := 5) (l := 11) rfl rfl rfl rfl rfl rfl (by kernel_rfl) ?_ ?_ ?_
          · skip
            go_simp
            have HG := hid_ FS.out.size
            obtain ⟨wt1, hz⟩ : ∃ z, z = we.alloc (.cells (recL ⟨dropR, none, 0, none, 0⟩ ++ recL ⟨holdR q.2 l.2 q.1, none, 0, none, 0⟩).toArray 39) := ⟨_, rfl⟩
            have fz : Fr none_ we wt1 := by rw [hz]; exact (Fr.refl none_ we).alloc _
            have BP : Hid (Blk wt1 we.heap.size 39 (recL ⟨dropR, none, 0, none, 0⟩ ++ recL ⟨holdR q.2 l.2 q.1, none, 0, none, 0⟩).toArray) := hid_ (by rw [hz]; exact Blk.new we _ _)
            replace FS := hid_ (FS.out.then_none fz)
            change Fr none_ wp (we.alloc (.cells (recL ⟨dropR, none, 0, none, 0⟩ ++ recL ⟨holdR q.2 l.2 q.1, none, 0, none, 0⟩).toArray 39)) ∧ wpAnyU _ _ _ _ _ _ _ _ _ (we.alloc (.cells (recL ⟨dropR, none, 0, none, 0⟩ ++ recL ⟨holdR q.2 l.2 q.1, none, 0, none, 0⟩).toArray 39))
            rw [← hz]
            refine ⟨FS.out, ?_⟩
            clear hz fz
            refine wpAnyU_two (i := 5) (j := 11) rfl rfl rfl rfl (by kernel_rfl) ?_ ?_
            · skip
              go_simp
              refine (own8_ok A L.length cap L _ (((H.out.keep FS.out)).few HE.out) (by omega) (in_rows (H.out.keep FS.out))).mono ?_
              rintro e wt2 ⟨A9, c9, Ds, rfl, hCs, hown, hco, hf2⟩
              have DR := hid_ (And.intro hown hco)
              have DM := hid_ hCs
              replace BP := hid_ (BP.out.fr hf2 id)
              replace FS := hid_ (FS.out.then_none hf2)
              refine ⟨FS.out, ?_⟩
              clear hCs hown hco hf2
              refine wpAnyU_two (i := 6) (j := 11) rfl rfl rfl rfl (by kernel_rfl) ?_ ?_
              · skip
                refine wp_append_any _ (.tmp 65) (.tmp 67) 22 rfl 0 39 i0 _ 15 192 Try.underlying22 Hi.out.1 Hi.out.2.1 Hi.out.2.2.1 Hi.out.2.2.2 rfl (by omega) (.slice (some ⟨we.heap.size, 0, none⟩) 2 2) 2 (recL ⟨dropR, none, 0, none, 0⟩ ++ recL ⟨holdR q.2 l.2 q.1, none, 0, none, 0⟩) rfl (own_rec2 BP.out) A9 L.length c9 (recFlat Ds) rfl (Reads.of_own DR.out.1) (recFlat_one _) (by simp only [maxLen]; omega) (by omega) (Nat.zero_le _) ?_
                intro A7 c7 wt3 hown hgr
                obtain ⟨hch, hfb⟩ := push_chain2 DM.out rfl BP.out DR.out hown hgr (bare_ok rfl rfl SzOk.nil SzOk.nil SzOk.nil SzOk.nil) (bare_ok rfl rfl SzOk.nil SzOk.nil SzOk.nil HQL.out)
                have CH := hid_ hch
                replace FS := hid_ (FS.out.then_only hfb (.inr HG.out))
                refine ⟨.inr FS.out, ?_⟩
                clear hch hfb hown hgr DR BP
                refine wpAnyU_two (i := 7) (j := 11) rfl rfl rfl rfl (by kernel_rfl) ?_ ?_
                · skip
                  go_simp
                  have hpf : foldU ((⟨dropR, none, 0, none, 0⟩ :: ⟨holdR q.2 l.2 q.1, none, 0, none, 0⟩ :: Ds).map (·.R)) = some (cutV V (i + 1)) := (fold_push ((fold_push_of HM.out DM.out HFO.out.2 ⟨holdR q.2 l.2 q.1, none, 0, none, 0⟩).trans UP.out)).trans UD.out
                  have KP := hid_ (kind_cons (R := dropR) ⟨by show (7 : Int) ≤ 11; decide, by show (11 : Int) ≤ 11; decide⟩ (kind_push HM.out DM.out HFO.out.1 (R := holdR q.2 l.2 q.1) ⟨by show (7 : Int) ≤ 10; decide, by show (10 : Int) ≤ 11; decide⟩ (P := ⟨holdR q.2 l.2 q.1, none, 0, none, 0⟩) rfl))
                  refine (fold_ok A7 (2 + L.length) c7 (⟨dropR, none, 0, none, 0⟩ :: ⟨holdR q.2 l.2 q.1, none, 0, none, 0⟩ :: Ds) _ CH.out (by omega) (ents_cons (ents_push DM.out HE.out (P := ⟨holdR q.2 l.2 q.1, none, 0, none, 0⟩) (Nat.zero_le _)) (Nat.zero_le _))).mono ?_
                  rintro e wt4 (⟨W, A5, c5, -, hfo, rfl, hvin, -, hff⟩ | ⟨kk, -, hno, rfl, hff⟩)
                  rotate_left
                  · rw [hno KP.out] at hpf
                    cases hpf
                  obtain rfl : (cutV V (i + 1)) = W := Option.some.inj (hpf.symm.trans hfo)
                  have WI := hid_ hvin
                  replace FS := hid_ (FS.out.then_none hff)
                  refine ⟨FS.out, ?_⟩
                  clear hfo hvin hff hpf KP CH
                  refine wpAnyU_take2 (i := 8) (v := _) rfl (by kernel_rfl) (by kernel_rfl) (by kernel_rfl) (by kernel_rfl) (fun _ _ _ h => h) (.inl ⟨by kernel_rfl, fun w' hS => by go_simp; rfl⟩) FS.out ?_
                  refine wpAnyU_take2 (i := 9) (v := _) rfl (by kernel_rfl) (by kernel_rfl) (by kernel_rfl) (by kernel_rfl) (fun _ _ _ h => h) (.inl ⟨by kernel_rfl, fun w' hS => by go_simp; rfl⟩) FS.out ?_
                  refine wpAnyU_take2 (i := 10) (v := _) rfl (by kernel_rfl) (by kernel_rfl) (by kernel_rfl) (by kernel_rfl) (fun _ _ _ h => h) (.inl ⟨by kernel_rfl, fun w' hS => by go_simp; rfl⟩) FS.out ?_
                  refine wpAnyU_oneG (i := 11) rfl (by kernel_rfl) (by kernel_rfl) ?_
                  go_simp
                  have HA := hid_ FS.out.size
                  obtain ⟨wt5, hz⟩ : ∃ z, z = wt4.alloc (.cells (vwA Vw.zero (.slice none 0 0)) 29) := ⟨_, rfl⟩
                  have fz : Fr none_ wt4 wt5 := by rw [hz]; exact (Fr.refl none_ wt4).alloc _
                  have BA : Hid (Blk wt5 wt4.heap.size 29 (vwA Vw.zero (.slice none 0 0))) := hid_ (by rw [hz]; exact Blk.new wt4 _ _)
                  replace WI := hid_ (WI.out.keep fz)
                  replace FS := hid_ (FS.out.then_none fz)
                  change Fr none_ wp (wt4.alloc (.cells (vwA Vw.zero (.slice none 0 0)) 29)) ∧ wpAnyU _ _ _ _ _ _ _ _ _ (wt4.alloc (.cells (vwA Vw.zero (.slice none 0 0)) 29))
                  rw [← hz]
                  refine ⟨FS.out, ?_⟩
                  clear hz fz
                  refine wpAnyU_oneG (i := 12) rfl (by kernel_rfl) (by kernel_rfl) ?_
                  refine wp_store_mid 29 (.tmp 13) (.tmp 70) rfl wt4.heap.size 0 (vwA (cutV V (i + 1)) (.slice A5 (cutV V (i + 1)).ents.length c5)) rfl rfl (BA.out.there0 rfl) view_sz8 (by simp [Value.oneCell']) ?_
                  obtain ⟨wf, hz⟩ : ∃ z, z = wt5.setCells (wt4.heap.size) 0 (vwA (cutV V (i + 1)) (.slice A5 (cutV V (i + 1)).ents.length c5)).toList := ⟨_, rfl⟩
                  have ov := BA.out.over (vwA (cutV V (i + 1)) (.slice A5 (cutV V (i + 1)).ents.length c5)).toList rfl
                  rw [← hz] at ov
                  have fS := FS.out.then_only ov.2 (.inr HA.out)
                  refine ⟨.inr (by rw [← hz]; exact fS), ?_⟩
                  change wpAnyU _ _ _ _ _ _ _ _ _ (wt5.setCells (wt4.heap.size) 0 (vwA (cutV V (i + 1)) (.slice A5 (cutV V (i + 1)).ents.length c5)).toList)
                  rw [← hz]
                  clear hz
                  have WJ := hid_ (WI.out.far BA.out ov.2)
                  have OV := hid_ (show Blk wf (wt4.heap.size) 29 (vwA (cutV V (i + 1)) (.slice A5 (cutV V (i + 1)).ents.length c5)) from ov.1)
                  refine wpAnyU_take2 (i := 13) (v := _) rfl (by kernel_rfl) (by kernel_rfl) (by kernel_rfl) (by kernel_rfl) (fun _ _ _ h => h) (.inl ⟨by kernel_rfl, fun w' hS => by go_simp; rfl⟩) fS ?_
                  refine wpAnyU_done (by kernel_rfl) ?_ _
                  go_wp2_with fail
                  go_meet
                  exact ⟨_, A5, c5, rfl, rfl, HA.out, OV.out, WJ.out, fS⟩
                · skip
                  go_simp
                  have HA := hid_ FS.out.size
                  obtain ⟨wt6, hz⟩ : ∃ z, z = wt3.alloc (.cells (vwA Vw.zero (.slice none 0 0)) 29) := ⟨_, rfl⟩
                  have fz : Fr none_ wt3 wt6 := by rw [hz]; exact (Fr.refl none_ wt3).alloc _
                  have BA : Hid (Blk wt6 wt3.heap.size 29 (vwA Vw.zero (.slice none 0 0))) := hid_ (by rw [hz]; exact Blk.new wt3 _ _)
                  replace CH := hid_ (CH.out.keep fz)
                  replace FS := hid_ (FS.out.then_none fz)
                  change Fr none_ wp (wt3.alloc (.cells (vwA Vw.zero (.slice none 0 0)) 29)) ∧ wpAnyU _ _ _ _ _ _ _ _ _ (wt3.alloc (.cells (vwA Vw.zero (.slice none 0 0)) 29))
                  rw [← hz]
                  refine ⟨FS.out, ?_⟩
                  clear hz fz
                  refine wpAnyU_oneG (i := 7) rfl (by kernel_rfl) (by kernel_rfl) ?_
                  go_simp
                  have hpf : foldU ((⟨dropR, none, 0, none, 0⟩ :: ⟨holdR q.2 l.2 q.1, none, 0, none, 0⟩ :: Ds).map (·.R)) = some (cutV V (i + 1)) := (fold_push ((fold_push_of HM.out DM.out HFO.out.2 ⟨holdR q.2 l.2 q.1, none, 0, none, 0⟩).trans UP.out)).trans UD.out
                  have KP := hid_ (kind_cons (R := dropR) ⟨by show (7 : Int) ≤ 11; decide, by show (11 : Int) ≤ 11; decide⟩ (kind_push HM.out DM.out HFO.out.1 (R := holdR q.2 l.2 q.1) ⟨by show (7 : Int) ≤ 10; decide, by show (10 : Int) ≤ 11; decide⟩ (P := ⟨holdR q.2 l.2 q.1, none, 0, none, 0⟩) rfl))
                  refine (fold_ok A7 (2 + L.length) c7 (⟨dropR, none, 0, none, 0⟩ :: ⟨holdR q.2 l.2 q.1, none, 0, none, 0⟩ :: Ds) _ CH.out (by omega) (ents_cons (ents_push DM.out HE.out (P := ⟨holdR q.2 l.2 q.1, none, 0, none, 0⟩) (Nat.zero_le _)) (Nat.zero_le _))).mono ?_
                  rintro e wt7 (⟨W, A5, c5, -, hfo, rfl, hvin, -, hff⟩ | ⟨kk, -, hno, rfl, hff⟩)
                  rotate_left
                  · rw [hno KP.out] at hpf
                    cases hpf
                  obtain rfl : (cutV V (i + 1)) = W := Option.some.inj (hpf.symm.trans hfo)
                  have WI := hid_ hvin
                  replace BA := hid_ (BA.out.fr hff id)
                  replace FS := hid_ (FS.out.then_none hff)
                  refine ⟨FS.out, ?_⟩
                  clear hfo hvin hff hpf KP CH
                  refine wpAnyU_take2 (i := 8) (v := _) rfl (by kernel_rfl) (by kernel_rfl) (by kernel_rfl) (by kernel_rfl) (fun _ _ _ h => h) (.inl ⟨by kernel_rfl, fun w' hS => by go_simp; rfl⟩) FS.out ?_
                  refine wpAnyU_take2 (i := 9) (v := _) rfl (by kernel_rfl) (by kernel_rfl) (by kernel_rfl) (by kernel_rfl) (fun _ _ _ h => h) (.inl ⟨by kernel_rfl, fun w' hS => by go_simp; rfl⟩) FS.out ?_
                  refine wpAnyU_take2 (i := 10) (v := _) rfl (by kernel_rfl) (by kernel_rfl) (by kernel_rfl) (by kernel_rfl) (fun _ _ _ h => h) (.inl ⟨by kernel_rfl, fun w' hS => by go_simp; rfl⟩) FS.out ?_
                  refine wpAnyU_oneG (i := 12) rfl (by kernel_rfl) (by kernel_rfl) ?_
                  refine wp_store_mid 29 (.tmp 13) (.tmp 70) rfl wt3.heap.size 0 (vwA (cutV V (i + 1)) (.slice A5 (cutV V (i + 1)).ents.length c5)) rfl rfl (BA.out.there0 rfl) view_sz8 (by simp [Value.oneCell']) ?_
                  obtain ⟨wf, hz⟩ : ∃ z, z = wt7.setCells (wt3.heap.size) 0 (vwA (cutV V (i + 1)) (.slice A5 (cutV V (i + 1)).ents.length c5)).toList := ⟨_, rfl⟩
                  have ov := BA.out.over (vwA (cutV V (i + 1)) (.slice A5 (cutV V (i + 1)).ents.length c5)).toList rfl
                  rw [← hz] at ov
                  have fS := FS.out.then_only ov.2 (.inr HA.out)
                  refine ⟨.inr (by rw [← hz]; exact fS), ?_⟩
                  change wpAnyU _ _ _ _ _ _ _ _ _ (wt7.setCells (wt3.heap.size) 0 (vwA (cutV V (i + 1)) (.slice A5 (cutV V (i + 1)).ents.length c5)).toList)
                  rw [← hz]
                  clear hz
                  have WJ := hid_ (WI.out.far BA.out ov.2)
                  have OV := hid_ (show Blk wf (wt3.heap.size) 29 (vwA (cutV V (i + 1)) (.slice A5 (cutV V (i + 1)).ents.length c5)) from ov.1)
                  refine wpAnyU_take2 (i := 13) (v := _) rfl (by kernel_rfl) (by kernel_rfl) (by kernel_rfl) (by kernel_rfl) (fun _ _ _ h => h) (.inl ⟨by kernel_rfl, fun w' hS => by go_simp; rfl⟩) fS ?_
                  refine wpAnyU_done (by kernel_rfl) ?_ _
                  go_wp2_with fail
                  go_meet
                  exact ⟨_, A5, c5, rfl, rfl, HA.out, OV.out, WJ.out, fS⟩
              · skip
                go_simp
                have HA := hid_ FS.out.size
                obtain ⟨wt8, hz⟩ : ∃ z, z = wt2.alloc (.cells (vwA Vw.zero (.slice none 0 0)) 29) := ⟨_, rfl⟩
                have fz : Fr none_ wt2 wt8 := by rw [hz]; exact (Fr.refl none_ wt2).alloc _
                have BA : Hid (Blk wt8 wt2.heap.size 29 (vwA Vw.zero (.slice none 0 0))) := hid_ (by rw [hz]; exact Blk.new wt2 _ _)
                replace BP := hid_ (BP.out.fr fz id)
                replace DR := hid_ (And.intro (own_none DR.out.1 fz) (fun C hC => (DR.out.2 C hC).keep fz))
                replace FS := hid_ (FS.out.then_none fz)
                change Fr none_ wp (wt2.alloc (.cells (vwA Vw.zero (.slice none 0 0)) 29)) ∧ wpAnyU _ _ _ _ _ _ _ _ _ (wt2.alloc (.cells (vwA Vw.zero (.slice none 0 0)) 29))
                rw [← hz]
                refine ⟨FS.out, ?_⟩
                clear hz fz
                refine wpAnyU_oneG (i := 6) rfl (by kernel_rfl) (by kernel_rfl) ?_
                refine wp_append_any _ (.tmp 65) (.tmp 67) 22 rfl 0 39 i0 _ 15 192 Try.underlying22 Hi.out.1 Hi.out.2.1 Hi.out.2.2.1 Hi.out.2.2.2 rfl (by omega) (.slice (some ⟨we.heap.size, 0, none⟩) 2 2) 2 (recL ⟨dropR, none, 0, none, 0⟩ ++ recL ⟨holdR q.2 l.2 q.1, none, 0, none, 0⟩) rfl (own_rec2 BP.out) A9 L.length c9 (recFlat Ds) rfl (Reads.of_own DR.out.1) (recFlat_one _) (by simp only [maxLen]; omega) (by omega) (Nat.zero_le _) ?_
                intro A7 c7 wt9 hown hgr
                obtain ⟨hch, hfb⟩ := push_chain2 DM.out rfl BP.out DR.out hown hgr (bare_ok rfl rfl SzOk.nil SzOk.nil SzOk.nil SzOk.nil) (bare_ok rfl rfl SzOk.nil SzOk.nil SzOk.nil HQL.out)
                have CH := hid_ hch
                replace BA := hid_ (BA.out.fr hfb (only_ne (Blk.ne_ BA.out BP.out (by decide))))
                replace FS := hid_ (FS.out.then_only hfb (.inr HG.out))
                refine ⟨.inr FS.out, ?_⟩
                clear hch hfb hown hgr DR BP
                refine wpAnyU_oneG (i := 7) rfl (by kernel_rfl) (by kernel_rfl) ?_
                go_simp
                have hpf : foldU ((⟨dropR, none, 0, none, 0⟩ :: ⟨holdR q.2 l.2 q.1, none, 0, none, 0⟩ :: Ds).map (·.R)) = some (cutV V (i + 1)) := (fold_push ((fold_push_of HM.out DM.out HFO.out.2 ⟨holdR q.2 l.2 q.1, none, 0, none, 0⟩).trans UP.out)).trans UD.out
                have KP := hid_ (kind_cons (R := dropR) ⟨by show (7 : Int) ≤ 11; decide, by show (11 : Int) ≤ 11; decide⟩ (kind_push HM.out DM.out HFO.out.1 (R := holdR q.2 l.2 q.1) ⟨by show (7 : Int) ≤ 10; decide, by show (10 : Int) ≤ 11; decide⟩ (P := ⟨holdR q.2 l.2 q.1, none, 0, none, 0⟩) rfl))
                refine (fold_ok A7 (2 + L.length) c7 (⟨dropR, none, 0, none, 0⟩ :: ⟨holdR q.2 l.2 q.1, none, 0, none, 0⟩ :: Ds) _ CH.out (by omega) (ents_cons (ents_push DM.out HE.out (P := ⟨holdR q.2 l.2 q.1, none, 0, none, 0⟩) (Nat.zero_le _)) (Nat.zero_le _))).mono ?_
                rintro e wt10 (⟨W, A5, c5, -, hfo, rfl, hvin, -, hff⟩ | ⟨kk, -, hno, rfl, hff⟩)
                rotate_left
                · rw [hno KP.out] at hpf
                  cases hpf
                obtain rfl : (cutV V (i + 1)) = W := Option.some.inj (hpf.symm.trans hfo)
                have WI := hid_ hvin
                replace BA := hid_ (BA.out.fr hff id)
                replace FS := hid_ (FS.out.then_none hff)
                refine ⟨FS.out, ?_⟩
                clear hfo hvin hff hpf KP CH
                refine wpAnyU_take2 (i := 8) (v := _) rfl (by kernel_rfl) (by kernel_rfl) (by kernel_rfl) (by kernel_rfl) (fun _ _ _ h => h) (.inl ⟨by kernel_rfl, fun w' hS => by go_simp; rfl⟩) FS.out ?_
                refine wpAnyU_take2 (i := 9) (v := _) rfl (by kernel_rfl) (by kernel_rfl) (by kernel_rfl) (by kernel_rfl) (fun _ _ _ h => h) (.inl ⟨by kernel_rfl, fun w' hS => by go_simp; rfl⟩) FS.out ?_
                refine wpAnyU_take2 (i := 10) (v := _) rfl (by kernel_rfl) (by kernel_rfl) (by kernel_rfl) (by kernel_rfl) (fun _ _ _ h => h) (.inl ⟨by kernel_rfl, fun w' hS => by go_simp; rfl⟩) FS.out ?_
                refine wpAnyU_oneG (i := 12) rfl (by kernel_rfl) (by kernel_rfl) ?_
                refine wp_store_mid 29 (.tmp 13) (.tmp 70) rfl wt2.heap.size 0 (vwA (cutV V (i + 1)) (.slice A5 (cutV V (i + 1)).ents.length c5)) rfl rfl (BA.out.there0 rfl) view_sz8 (by simp [Value.oneCell']) ?_
                obtain ⟨wf, hz⟩ : ∃ z, z = wt10.setCells (wt2.heap.size) 0 (vwA (cutV V (i + 1)) (.slice A5 (cutV V (i + 1)).ents.length c5)).toList := ⟨_, rfl⟩
                have ov := BA.out.over (vwA (cutV V (i + 1)) (.slice A5 (cutV V (i + 1)).ents.length c5)).toList rfl
                rw [← hz] at ov
                have fS := FS.out.then_only ov.2 (.inr HA.out)
                refine ⟨.inr (by rw [← hz]; exact fS), ?_⟩
                change wpAnyU _ _ _ _ _ _ _ _ _ (wt10.setCells (wt2.heap.size) 0 (vwA (cutV V (i + 1)) (.slice A5 (cutV V (i + 1)).ents.length c5)).toList)
                rw [← hz]
                clear hz
                have WJ := hid_ (WI.out.far BA.out ov.2)
                have OV := hid_ (show Blk wf (wt2.heap.size) 29 (vwA (cutV V (i + 1)) (.slice A5 (cutV V (i + 1)).ents.length c5)) from ov.1)
                refine wpAnyU_take2 (i := 13) (v := _) rfl (by kernel_rfl) (by kernel_rfl) (by kernel_rfl) (by kernel_rfl) (fun _ _ _ h => h) (.inl ⟨by kernel_rfl, fun w' hS => by go_simp; rfl⟩) fS ?_
                refine wpAnyU_done (by kernel_rfl) ?_ _
                go_wp2_with fail
                go_meet
                exact ⟨_, A5, c5, rfl, rfl, HA.out, OV.out, WJ.out, fS⟩
            · skip
              go_simp
              have HA := hid_ FS.out.size
              obtain ⟨wt11, hz⟩ : ∃ z, z = wt1.alloc (.cells (vwA Vw.zero (.slice none 0 0)) 29) := ⟨_, rfl⟩
              have fz : Fr none_ wt1 wt11 := by rw [hz]; exact (Fr.refl none_ wt1).alloc _
              have BA : Hid (Blk wt11 wt1.heap.size 29 (vwA Vw.zero (.slice none 0 0))) := hid_ (by rw [hz]; exact Blk.new wt1 _ _)
              replace BP := hid_ (BP.out.fr fz id)
              replace FS := hid_ (FS.out.then_none fz)
              change Fr none_ wp (wt1.alloc (.cells (vwA Vw.zero (.slice none 0 0)) 29)) ∧ wpAnyU _ _ _ _ _ _ _ _ _ (wt1.alloc (.cells (vwA Vw.zero (.slice none 0 0)) 29))
              rw [← hz]
              refine ⟨FS.out, ?_⟩
              clear hz fz
              refine wpAnyU_oneG (i := 5) rfl (by kernel_rfl) (by kernel_rfl) ?_
              go_simp
              refine (own8_ok A L.length cap L _ (((H.out.keep FS.out)).few HE.out) (by omega) (in_rows (H.out.keep FS.out))).mono ?_
              rintro e wt12 ⟨A9, c9, Ds, rfl, hCs, hown, hco, hf2⟩
              have DR := hid_ (And.intro hown hco)
              have DM := hid_ hCs
              replace BP := hid_ (BP.out.fr hf2 id)
              replace BA := hid_ (BA.out.fr hf2 id)
              replace FS := hid_ (FS.out.then_none hf2)
              refine ⟨FS.out, ?_⟩
              clear hCs hown hco hf2
              refine wpAnyU_oneG (i := 6) rfl (by kernel_rfl) (by kernel_rfl) ?_
              refine wp_append_any _ (.tmp 65) (.tmp 67) 22 rfl 0 39 i0 _ 15 192 Try.underlying22 Hi.out.1 Hi.out.2.1 Hi.out.2.2.1 Hi.out.2.2.2 rfl (by omega) (.slice (some ⟨we.heap.size, 0, none⟩) 2 2) 2 (recL ⟨dropR, none, 0, none, 0⟩ ++ recL ⟨holdR q.2 l.2 q.1, none, 0, none, 0⟩) rfl (own_rec2 BP.out) A9 L.length c9 (recFlat Ds) rfl (Reads.of_own DR.out.1) (recFlat_one _) (by simp only [maxLen]; omega) (by omega) (Nat.zero_le _) ?_
              intro A7 c7 wt13 hown hgr
              obtain ⟨hch, hfb⟩ := push_chain2 DM.out rfl BP.out DR.out hown hgr (bare_ok rfl rfl SzOk.nil SzOk.nil SzOk.nil SzOk.nil) (bare_ok rfl rfl SzOk.nil SzOk.nil SzOk.nil HQL.out)
              have CH := hid_ hch
              replace BA := hid_ (BA.out.fr hfb (only_ne (Blk.ne_ BA.out BP.out (by decide))))
              replace FS := hid_ (FS.out.then_only hfb (.inr HG.out))
              refine ⟨.inr FS.out, ?_⟩
              clear hch hfb hown hgr DR BP
              refine wpAnyU_oneG (i := 7) rfl (by kernel_rfl) (by kernel_rfl) ?_
              go_simp
              have hpf : foldU ((⟨dropR, none, 0, none, 0⟩ :: ⟨holdR q.2 l.2 q.1, none, 0, none, 0⟩ :: Ds).map (·.R)) = some (cutV V (i + 1)) := (fold_push ((fold_push_of HM.out DM.out HFO.out.2 ⟨holdR q.2 l.2 q.1, none, 0, none, 0⟩).trans UP.out)).trans UD.out
              have KP := hid_ (kind_cons (R := dropR) ⟨by show (7 : Int) ≤ 11; decide, by show (11 : Int) ≤ 11; decide⟩ (kind_push HM.out DM.out HFO.out.1 (R := holdR q.2 l.2 q.1) ⟨by show (7 : Int) ≤ 10; decide, by show (10 : Int) ≤ 11; decide⟩ (P := ⟨holdR q.2 l.2 q.1, none, 0, none, 0⟩) rfl))
              refine (fold_ok A7 (2 + L.length) c7 (⟨dropR, none, 0, none, 0⟩ :: ⟨holdR q.2 l.2 q.1, none, 0, none, 0⟩ :: Ds) _ CH.out (by omega) (ents_cons (ents_push DM.out HE.out (P := ⟨holdR q.2 l.2 q.1, none, 0, none, 0⟩) (Nat.zero_le _)) (Nat.zero_le _))).mono ?_
              rintro e wt14 (⟨W, A5, c5, -, hfo, rfl, hvin, -, hff⟩ | ⟨kk, -, hno, rfl, hff⟩)
              rotate_left
              · rw [hno KP.out] at hpf
                cases hpf
              obtain rfl : (cutV V (i + 1)) = W := Option.some.inj (hpf.symm.trans hfo)
              have WI := hid_ hvin
              replace BA := hid_ (BA.out.fr hff id)
              replace FS := hid_ (FS.out.then_none hff)
              refine ⟨FS.out, ?_⟩
              clear hfo hvin hff hpf KP CH
              refine wpAnyU_take2 (i := 8) (v := _) rfl (by kernel_rfl) (by kernel_rfl) (by kernel_rfl) (by kernel_rfl) (fun _ _ _ h => h) (.inl ⟨by kernel_rfl, fun w' hS => by go_simp; rfl⟩) FS.out ?_
              refine wpAnyU_take2 (i := 9) (v := _) rfl (by kernel_rfl) (by kernel_rfl) (by kernel_rfl) (by kernel_rfl) (fun _ _ _ h => h) (.inl ⟨by kernel_rfl, fun w' hS => by go_simp; rfl⟩) FS.out ?_
              refine wpAnyU_take2 (i := 10) (v := _) rfl (by kernel_rfl) (by kernel_rfl) (by kernel_rfl) (by kernel_rfl) (fun _ _ _ h => h) (.inl ⟨by kernel_rfl, fun w' hS => by go_simp; rfl⟩) FS.out ?_
              refine wpAnyU_oneG (i := 12) rfl (by kernel_rfl) (by kernel_rfl) ?_
              refine wp_store_mid 29 (.tmp 13) (.tmp 70) rfl wt1.heap.size 0 (vwA (cutV V (i + 1)) (.slice A5 (cutV V (i + 1)).ents.length c5)) rfl rfl (BA.out.there0 rfl) view_sz8 (by simp [Value.oneCell']) ?_
              obtain ⟨wf, hz⟩ : ∃ z, z = wt14.setCells (wt1.heap.size) 0 (vwA (cutV V (i + 1)) (.slice A5 (cutV V (i + 1)).ents.length c5)).toList := ⟨_, rfl⟩
              have ov := BA.out.over (vwA (cutV V (i + 1)) (.slice A5 (cutV V (i + 1)).ents.length c5)).toList rfl
              rw [← hz] at ov
              have fS := FS.out.then_only ov.2 (.inr HA.out)
              refine ⟨.inr (by rw [← hz]; exact fS), ?_⟩
              change wpAnyU _ _ _ _ _ _ _ _ _ (wt14.setCells (wt1.heap.size) 0 (vwA (cutV V (i + 1)) (.slice A5 (cutV V (i + 1)).ents.length c5)).toList)
              rw [← hz]
              clear hz
              have WJ := hid_ (WI.out.far BA.out ov.2)
              have OV := hid_ (show Blk wf (wt1.heap.size) 29 (vwA (cutV V (i + 1)) (.slice A5 (cutV V (i + 1)).ents.length c5)) from ov.1)
              refine wpAnyU_take2 (i := 13) (v := _) rfl (by kernel_rfl) (by kernel_rfl) (by kernel_rfl) (by kernel_rfl) (fun _ _ _ h => h) (.inl ⟨by kernel_rfl, fun w' hS => by go_simp; rfl⟩) fS ?_
              refine wpAnyU_done (by kernel_rfl) ?_ _
              go_wp2_with fail
              go_meet
              exact ⟨_, A5, c5, rfl, rfl, HA.out, OV.out, WJ.out, fS⟩
          · skip
            go_simp
            refine (own8_ok A L.length cap L _ (((H.out.keep FS.out)).few HE.out) (by omega) (in_rows (H.out.keep FS.out))).mono ?_
            rintro e wt15 ⟨A9, c9, Ds, rfl, hCs, hown, hco, hf2⟩
            have DR := hid_ (And.intro hown hco)
            have DM := hid_ hCs
            replace FS := hid_ (FS.out.then_none hf2)
            refine ⟨FS.out, ?_⟩
            clear hCs hown hco hf2
            refine wpAnyU_two (i := 3) (j := 11) rfl rfl rfl rfl (by kernel_rfl) ?_ ?_
            · skip
              go_simp
              have HG := hid_ FS.out.size
              obtain ⟨wt16, hz⟩ : ∃ z, z = wt15.alloc (.cells (recL ⟨dropR, none, 0, none, 0⟩ ++ recL ⟨holdR q.2 l.2 q.1, none, 0, none, 0⟩).toArray 39) := ⟨_, rfl⟩
              have fz : Fr none_ wt15 wt16 := by rw [hz]; exact (Fr.refl none_ wt15).alloc _
              have BP : Hid (Blk wt16 wt15.heap.size 39 (recL ⟨dropR, none, 0, none, 0⟩ ++ recL ⟨holdR q.2 l.2 q.1, none, 0, none, 0⟩).toArray) := hid_ (by rw [hz]; exact Blk.new wt15 _ _)
              replace DR := hid_ (And.intro (own_none DR.out.1 fz) (fun C hC => (DR.out.2 C hC).keep fz))
              replace FS := hid_ (FS.out.then_none fz)
              change Fr none_ wp (wt15.alloc (.cells (recL ⟨dropR, none, 0, none, 0⟩ ++ recL ⟨holdR q.2 l.2 q.1, none, 0, none, 0⟩).toArray 39)) ∧ wpAnyU _ _ _ _ _ _ _ _ _ (wt15.alloc (.cells (recL ⟨dropR, none, 0, none, 0⟩ ++ recL ⟨holdR q.2 l.2 q.1, none, 0, none, 0⟩).toArray 39))
              rw [← hz]
              refine ⟨FS.out, ?_⟩
              clear hz fz
              refine wpAnyU_two (i := 6) (j := 11) rfl rfl rfl rfl (by kernel_rfl) ?_ ?_
              · skip
                refine wp_append_any _ (.tmp 65) (.tmp 67) 22 rfl 0 39 i0 _ 15 192 Try.underlying22 Hi.out.1 Hi.out.2.1 Hi.out.2.2.1 Hi.out.2.2.2 rfl (by omega) (.slice (some ⟨wt15.heap.size, 0, none⟩) 2 2) 2 (recL ⟨dropR, none, 0, none, 0⟩ ++ recL ⟨holdR q.2 l.2 q.1, none, 0, none, 0⟩) rfl (own_rec2 BP.out) A9 L.length c9 (recFlat Ds) rfl (Reads.of_own DR.out.1) (recFlat_one _) (by simp only [maxLen]; omega) (by omega) (Nat.zero_le _) ?_
                intro A7 c7 wt17 hown hgr
                obtain ⟨hch, hfb⟩ := push_chain2 DM.out rfl BP.out DR.out hown hgr (bare_ok rfl rfl SzOk.nil SzOk.nil SzOk.nil SzOk.nil) (bare_ok rfl rfl SzOk.nil SzOk.nil SzOk.nil HQL.out)
                have CH := hid_ hch
                replace FS := hid_ (FS.out.then_only hfb (.inr HG.out))
                refine ⟨.inr FS.out, ?_⟩
                clear hch hfb hown hgr DR BP
                refine wpAnyU_two (i := 7) (j := 11) rfl rfl rfl rfl (by kernel_rfl) ?_ ?_
                · skip
                  go_simp
                  have hpf : foldU ((⟨dropR, none, 0, none, 0⟩ :: ⟨holdR q.2 l.2 q.1, none, 0, none, 0⟩ :: Ds).map (·.R)) = some (cutV V (i + 1)) := (fold_push ((fold_push_of HM.out DM.out HFO.out.2 ⟨holdR q.2 l.2 q.1, none, 0, none, 0⟩).trans UP.out)).trans UD.out
                  have KP := hid_ (kind_cons (R := dropR) ⟨by show (7 : Int) ≤ 11; decide, by show (11 : Int) ≤ 11; decide⟩ (kind_push HM.out DM.out HFO.out.1 (R := holdR q.2 l.2 q.1) ⟨by show (7 : Int) ≤ 10; decide, by show (10 : Int) ≤ 11; decide⟩ (P := ⟨holdR q.2 l.2 q.1, none, 0, none, 0⟩) rfl))
                  refine (fold_ok A7 (2 + L.length) c7 (⟨dropR, none, 0, none, 0⟩ :: ⟨holdR q.2 l.2 q.1, none, 0, none, 0⟩ :: Ds) _ CH.out (by omega) (ents_cons (ents_push DM.out HE.out (P := ⟨holdR q.2 l.2 q.1, none, 0, none, 0⟩) (Nat.zero_le _)) (Nat.zero_le _))).mono ?_
                  rintro e wt18 (⟨W, A5, c5, -, hfo, rfl, hvin, -, hff⟩ | ⟨kk, -, hno, rfl, hff⟩)
                  rotate_left
                  · rw [hno KP.out] at hpf
                    cases hpf
                  obtain rfl : (cutV V (i + 1)) = W := Option.some.inj (hpf.symm.trans hfo)
                  have WI := hid_ hvin
                  replace FS := hid_ (FS.out.then_none hff)
                  refine ⟨FS.out, ?_⟩
                  clear hfo hvin hff hpf KP CH
                  refine wpAnyU_take2 (i := 8) (v := _) rfl (by kernel_rfl) (by kernel_rfl) (by kernel_rfl) (by kernel_rfl) (fun _ _ _ h => h) (.inl ⟨by kernel_rfl, fun w' hS => by go_simp; rfl⟩) FS.out ?_
                  refine wpAnyU_take2 (i := 9) (v := _) rfl (by kernel_rfl) (by kernel_rfl) (by kernel_rfl) (by kernel_rfl) (fun _ _ _ h => h) (.inl ⟨by kernel_rfl, fun w' hS => by go_simp; rfl⟩) FS.out ?_
                  refine wpAnyU_take2 (i := 10) (v := _) rfl (by kernel_rfl) (by kernel_rfl) (by kernel_rfl) (by kernel_rfl) (fun _ _ _ h => h) (.inl ⟨by kernel_rfl, fun w' hS => by go_simp; rfl⟩) FS.out ?_
                  refine wpAnyU_oneG (i := 11) rfl (by kernel_rfl) (by kernel_rfl) ?_
                  go_simp
                  have HA := hid_ FS.out.size
                  obtain ⟨wt19, hz⟩ : ∃ z, z = wt18.alloc (.cells (vwA Vw.zero (.slice none 0 0)) 29) := ⟨_, rfl⟩
                  have fz : Fr none_ wt18 wt19 := by rw [hz]; exact (Fr.refl none_ wt18).alloc _
                  have BA : Hid (Blk wt19 wt18.heap.size 29 (vwA Vw.zero (.slice none 0 0))) := hid_ (by rw [hz]; exact Blk.new wt18 _ _)
                  replace WI := hid_ (WI.out.keep fz)
                  replace FS := hid_ (FS.out.then_none fz)
                  change Fr none_ wp (wt18.alloc (.cells (vwA Vw.zero (.slice none 0 0)) 29)) ∧ wpAnyU _ _ _ _ _ _ _ _ _ (wt18.alloc (.cells (vwA Vw.zero (.slice none 0 0)) 29))
                  rw [← hz]
                  refine ⟨FS.out, ?_⟩
                  clear hz fz
                  refine wpAnyU_oneG (i := 12) rfl (by kernel_rfl) (by kernel_rfl) ?_
                  refine wp_store_mid 29 (.tmp 13) (.tmp 70) rfl wt18.heap.size 0 (vwA (cutV V (i + 1)) (.slice A5 (cutV V (i + 1)).ents.length c5)) rfl rfl (BA.out.there0 rfl) view_sz8 (by simp [Value.oneCell']) ?_
                  obtain ⟨wf, hz⟩ : ∃ z, z = wt19.setCells (wt18.heap.size) 0 (vwA (cutV V (i + 1)) (.slice A5 (cutV V (i + 1)).ents.length c5)).toList := ⟨_, rfl⟩
                  have ov := BA.out.over (vwA (cutV V (i + 1)) (.slice A5 (cutV V (i + 1)).ents.length c5)).toList rfl
                  rw [← hz] at ov
                  have fS := FS.out.then_only ov.2 (.inr HA.out)
                  refine ⟨.inr (by rw [← hz]; exact fS), ?_⟩
                  change wpAnyU _ _ _ _ _ _ _ _ _ (wt19.setCells (wt18.heap.size) 0 (vwA (cutV V (i + 1)) (.slice A5 (cutV V (i + 1)).ents.length c5)).toList)
                  rw [← hz]
                  clear hz
                  have WJ := hid_ (WI.out.far BA.out ov.2)
                  have OV := hid_ (show Blk wf (wt18.heap.size) 29 (vwA (cutV V (i + 1)) (.slice A5 (cutV V (i + 1)).ents.length c5)) from ov.1)
                  refine wpAnyU_take2 (i := 13) (v := _) rfl (by kernel_rfl) (by kernel_rfl) (by kernel_rfl) (by kernel_rfl) (fun _ _ _ h => h) (.inl ⟨by kernel_rfl, fun w' hS => by go_simp; rfl⟩) fS ?_
                  refine wpAnyU_done (by kernel_rfl) ?_ _
                  go_wp2_with fail
                  go_meet
                  exact ⟨_, A5, c5, rfl, rfl, HA.out, OV.out, WJ.out, fS⟩
                · skip
                  go_simp
                  have HA := hid_ FS.out.size
                  obtain ⟨wt20, hz⟩ : ∃ z, z = wt17.alloc (.cells (vwA Vw.zero (.slice none 0 0)) 29) := ⟨_, rfl⟩
                  have fz : Fr none_ wt17 wt20 := by rw [hz]; exact (Fr.refl none_ wt17).alloc _
                  have BA : Hid (Blk wt20 wt17.heap.size 29 (vwA Vw.zero (.slice none 0 0))) := hid_ (by rw [hz]; exact Blk.new wt17 _ _)
                  replace CH := hid_ (CH.out.keep fz)
                  replace FS := hid_ (FS.out.then_none fz)
                  change Fr none_ wp (wt17.alloc (.cells (vwA Vw.zero (.slice none 0 0)) 29)) ∧ wpAnyU _ _ _ _ _ _ _ _ _ (wt17.alloc (.cells (vwA Vw.zero (.slice none 0 0)) 29))
                  rw [← hz]
                  refine ⟨FS.out, ?_⟩
                  clear hz fz
                  refine wpAnyU_oneG (i := 7) rfl (by kernel_rfl) (by kernel_rfl) ?_
                  go_simp
                  have hpf : foldU ((⟨dropR, none, 0, none, 0⟩ :: ⟨holdR q.2 l.2 q.1, none, 0, none, 0⟩ :: Ds).map (·.R)) = some (cutV V (i + 1)) := (fold_push ((fold_push_of HM.out DM.out HFO.out.2 ⟨holdR q.2 l.2 q.1, none, 0, none, 0⟩).trans UP.out)).trans UD.out
                  have KP := hid_ (kind_cons (R := dropR) ⟨by show (7 : Int) ≤ 11; decide, by show (11 : Int) ≤ 11; decide⟩ (kind_push HM.out DM.out HFO.out.1 (R := holdR q.2 l.2 q.1) ⟨by show (7 : Int) ≤ 10; decide, by show (10 : Int) ≤ 11; decide⟩ (P := ⟨holdR q.2 l.2 q.1, none, 0, none, 0⟩) rfl))
                  refine (fold_ok A7 (2 + L.length) c7 (⟨dropR, none, 0, none, 0⟩ :: ⟨holdR q.2 l.2 q.1, none, 0, none, 0⟩ :: Ds) _ CH.out (by omega) (ents_cons (ents_push DM.out HE.out (P := ⟨holdR q.2 l.2 q.1, none, 0, none, 0⟩) (Nat.zero_le _)) (Nat.zero_le _))).mono ?_
                  rintro e wt21 (⟨W, A5, c5, -, hfo, rfl, hvin, -, hff⟩ | ⟨kk, -, hno, rfl, hff⟩)
                  rotate_left
                  · rw [hno KP.out] at hpf
                    cases hpf
                  obtain rfl : (cutV V (i + 1)) = W := Option.some.inj (hpf.symm.trans hfo)
                  have WI := hid_ hvin
                  replace BA := hid_ (BA.out.fr hff id)
                  replace FS := hid_ (FS.out.then_none hff)
                  refine ⟨FS.out, ?_⟩
                  clear hfo hvin hff hpf KP CH
                  refine wpAnyU_take2 (i := 8) (v := _) rfl (by kernel_rfl) (by kernel_rfl) (by kernel_rfl) (by kernel_rfl) (fun _ _ _ h => h) (.inl ⟨by kernel_rfl, fun w' hS => by go_simp; rfl⟩) FS.out ?_
                  refine wpAnyU_take2 (i := 9) (v := _) rfl (by kernel_rfl) (by kernel_rfl) (by kernel_rfl) (by kernel_rfl) (fun _ _ _ h => h) (.inl ⟨by kernel_rfl, fun w' hS => by go_simp; rfl⟩) FS.out ?_
                  refine wpAnyU_take2 (i := 10) (v := _) rfl (by kernel_rfl) (by kernel_rfl) (by kernel_rfl) (by kernel_rfl) (fun _ _ _ h => h) (.inl ⟨by kernel_rfl, fun w' hS => by go_simp; rfl⟩) FS.out ?_
                  refine wpAnyU_oneG (i := 12) rfl (by kernel_rfl) (by kernel_rfl) ?_
                  refine wp_store_mid 29 (.tmp 13) (.tmp 70) rfl wt17.heap.size 0 (vwA (cutV V (i + 1)) (.slice A5 (cutV V (i + 1)).ents.length c5)) rfl rfl (BA.out.there0 rfl) view_sz8 (by simp [Value.oneCell']) ?_
                  obtain ⟨wf, hz⟩ : ∃ z, z = wt21.setCells (wt17.heap.size) 0 (vwA (cutV V (i + 1)) (.slice A5 (cutV V (i + 1)).ents.length c5)).toList := ⟨_, rfl⟩
                  have ov := BA.out.over (vwA (cutV V (i + 1)) (.slice A5 (cutV V (i + 1)).ents.length c5)).toList rfl
                  rw [← hz] at ov
                  have fS := FS.out.then_only ov.2 (.inr HA.out)
                  refine ⟨.inr (by rw [← hz]; exact fS), ?_⟩
                  change wpAnyU _ _ _ _ _ _ _ _ _ (wt21.setCells (wt17.heap.size) 0 (vwA (cutV V (i + 1)) (.slice A5 (cutV V (i + 1)).ents.length c5)).toList)
                  rw [← hz]
                  clear hz
                  have WJ := hid_ (WI.out.far BA.out ov.2)
                  have OV := hid_ (show Blk wf (wt17.heap.size) 29 (vwA (cutV V (i + 1)) (.slice A5 (cutV V (i + 1)).ents.length c5)) from ov.1)
                  refine wpAnyU_take2 (i := 13) (v := _) rfl (by kernel_rfl) (by kernel_rfl) (by kernel_rfl) (by kernel_rfl) (fun _ _ _ h => h) (.inl ⟨by kernel_rfl, fun w' hS => by go_simp; rfl⟩) fS ?_
                  refine wpAnyU_done (by kernel_rfl) ?_ _
                  go_wp2_with fail
                  go_meet
                  exact ⟨_, A5, c5, rfl, rfl, HA.out, OV.out, WJ.out, fS⟩
              · skip
                go_simp
                have HA := hid_ FS.out.size
                obtain ⟨wt22, hz⟩ : ∃ z, z = wt16.alloc (.cells (vwA Vw.zero (.slice none 0 0)) 29) := ⟨_, rfl⟩
                have fz : Fr none_ wt16 wt22 := by rw [hz]; exact (Fr.refl none_ wt16).alloc _
                have BA : Hid (Blk wt22 wt16.heap.size 29 (vwA Vw.zero (.slice none 0 0))) := hid_ (by rw [hz]; exact Blk.new wt16 _ _)
                replace BP := hid_ (BP.out.fr fz id)
                replace DR := hid_ (And.intro (own_none DR.out.1 fz) (fun C hC => (DR.out.2 C hC).keep fz))
                replace FS := hid_ (FS.out.then_none fz)
                change Fr none_ wp (wt16.alloc (.cells (vwA Vw.zero (.slice none 0 0)) 29)) ∧ wpAnyU _ _ _ _ _ _ _ _ _ (wt16.alloc (.cells (vwA Vw.zero (.slice none 0 0)) 29))
                rw [← hz]
                refine ⟨FS.out, ?_⟩
                clear hz fz
                refine wpAnyU_oneG (i := 6) rfl (by kernel_rfl) (by kernel_rfl) ?_
                refine wp_append_any _ (.tmp 65) (.tmp 67) 22 rfl 0 39 i0 _ 15 192 Try.underlying22 Hi.out.1 Hi.out.2.1 Hi.out.2.2.1 Hi.out.2.2.2 rfl (by omega) (.slice (some ⟨wt15.heap.size, 0, none⟩) 2 2) 2 (recL ⟨dropR, none, 0, none, 0⟩ ++ recL ⟨holdR q.2 l.2 q.1, none, 0, none, 0⟩) rfl (own_rec2 BP.out) A9 L.length c9 (recFlat Ds) rfl (Reads.of_own DR.out.1) (recFlat_one _) (by simp only [maxLen]; omega) (by omega) (Nat.zero_le _) ?_
                intro A7 c7 wt23 hown hgr
                obtain ⟨hch, hfb⟩ := push_chain2 DM.out rfl BP.out DR.out hown hgr (bare_ok rfl rfl SzOk.nil SzOk.nil SzOk.nil SzOk.nil) (bare_ok rfl rfl SzOk.nil SzOk.nil SzOk.nil HQL.out)
                have CH := hid_ hch
                replace BA := hid_ (BA.out.fr hfb (only_ne (Blk.ne_ BA.out BP.out (by decide))))
                replace FS := hid_ (FS.out.then_only hfb (.inr HG.out))
                refine ⟨.inr FS.out, ?_⟩
                clear hch hfb hown hgr DR BP
                refine wpAnyU_oneG (i := 7) rfl (by kernel_rfl) (by kernel_rfl) ?_
                go_simp
                have hpf : foldU ((⟨dropR, none, 0, none, 0⟩ :: ⟨holdR q.2 l.2 q.1, none, 0, none, 0⟩ :: Ds).map (·.R)) = some (cutV V (i + 1)) := (fold_push ((fold_push_of HM.out DM.out HFO.out.2 ⟨holdR q.2 l.2 q.1, none, 0, none, 0⟩).trans UP.out)).trans UD.out
                have KP := hid_ (kind_cons (R := dropR) ⟨by show (7 : Int) ≤ 11; decide, by show (11 : Int) ≤ 11; decide⟩ (kind_push HM.out DM.out HFO.out.1 (R := holdR q.2 l.2 q.1) ⟨by show (7 : Int) ≤ 10; decide, by show (10 : Int) ≤ 11; decide⟩ (P := ⟨holdR q.2 l.2 q.1, none, 0, none, 0⟩) rfl))
                refine (fold_ok A7 (2 + L.length) c7 (⟨dropR, none, 0, none, 0⟩ :: ⟨holdR q.2 l.2 q.1, none, 0, none, 0⟩ :: Ds) _ CH.out (by omega) (ents_cons (ents_push DM.out HE.out (P := ⟨holdR q.2 l.2 q.1, none, 0, none, 0⟩) (Nat.zero_le _)) (Nat.zero_le _))).mono ?_
                rintro e wt24 (⟨W, A5, c5, -, hfo, rfl, hvin, -, hff⟩ | ⟨kk, -, hno, rfl, hff⟩)
                rotate_left
                · rw [hno KP.out] at hpf
                  cases hpf
                obtain rfl : (cutV V (i + 1)) = W := Option.some.inj (hpf.symm.trans hfo)
                have WI := hid_ hvin
                replace BA := hid_ (BA.out.fr hff id)
                replace FS := hid_ (FS.out.then_none hff)
                refine ⟨FS.out, ?_⟩
                clear hfo hvin hff hpf KP CH
                refine wpAnyU_take2 (i := 8) (v := _) rfl (by kernel_rfl) (by kernel_rfl) (by kernel_rfl) (by kernel_rfl) (fun _ _ _ h => h) (.inl ⟨by kernel_rfl, fun w' hS => by go_simp; rfl⟩) FS.out ?_
                refine wpAnyU_take2 (i := 9) (v := _) rfl (by kernel_rfl) (by kernel_rfl) (by kernel_rfl) (by kernel_rfl) (fun _ _ _ h => h) (.inl ⟨by kernel_rfl, fun w' hS => by go_simp; rfl⟩) FS.out ?_
                refine wpAnyU_take2 (i := 10) (v := _) rfl (by kernel_rfl) (by kernel_rfl) (by kernel_rfl) (by kernel_rfl) (fun _ _ _ h => h) (.inl ⟨by kernel_rfl, fun w' hS => by go_simp; rfl⟩) FS.out ?_
                refine wpAnyU_oneG (i := 12) rfl (by kernel_rfl) (by kernel_rfl) ?_
                refine wp_store_mid 29 (.tmp 13) (.tmp 70) rfl wt16.heap.size 0 (vwA (cutV V (i + 1)) (.slice A5 (cutV V (i + 1)).ents.length c5)) rfl rfl (BA.out.there0 rfl) view_sz8 (by simp [Value.oneCell']) ?_
                obtain ⟨wf, hz⟩ : ∃ z, z = wt24.setCells (wt16.heap.size) 0 (vwA (cutV V (i + 1)) (.slice A5 (cutV V (i + 1)).ents.length c5)).toList := ⟨_, rfl⟩
                have ov := BA.out.over (vwA (cutV V (i + 1)) (.slice A5 (cutV V (i + 1)).ents.length c5)).toList rfl
                rw [← hz] at ov
                have fS := FS.out.then_only ov.2 (.inr HA.out)
                refine ⟨.inr (by rw [← hz]; exact fS), ?_⟩
                change wpAnyU _ _ _ _ _ _ _ _ _ (wt24.setCells (wt16.heap.size) 0 (vwA (cutV V (i + 1)) (.slice A5 (cutV V (i + 1)).ents.length c5)).toList)
                rw [← hz]
                clear hz
                have WJ := hid_ (WI.out.far BA.out ov.2)
                have OV := hid_ (show Blk wf (wt16.heap.size) 29 (vwA (cutV V (i + 1)) (.slice A5 (cutV V (i + 1)).ents.length c5)) from ov.1)
                refine wpAnyU_take2 (i := 13) (v := _) rfl (by kernel_rfl) (by kernel_rfl) (by kernel_rfl) (by kernel_rfl) (fun _ _ _ h => h) (.inl ⟨by kernel_rfl, fun w' hS => by go_simp; rfl⟩) fS ?_
                refine wpAnyU_done (by kernel_rfl) ?_ _
                go_wp2_with fail
                go_meet
                exact ⟨_, A5, c5, rfl, rfl, HA.out, OV.out, WJ.out, fS⟩
            · skip
              go_simp
              have HA := hid_ FS.out.size
              obtain ⟨wt25, hz⟩ : ∃ z, z = wt15.alloc (.cells (vwA Vw.zero (.slice none 0 0)) 29) := ⟨_, rfl⟩
              have fz : Fr none_ wt15 wt25 := by rw [hz]; exact (Fr.refl none_ wt15).alloc _
              have BA : Hid (Blk wt25 wt15.heap.size 29 (vwA Vw.zero (.slice none 0 0))) := hid_ (by rw [hz]; exact Blk.new wt15 _ _)
              replace DR := hid_ (And.intro (own_none DR.out.1 fz) (fun C hC => (DR.out.2 C hC).keep fz))
              replace FS := hid_ (FS.out.then_none fz)
              change Fr none_ wp (wt15.alloc (.cells (vwA Vw.zero (.slice none 0 0)) 29)) ∧ wpAnyU _ _ _ _ _ _ _ _ _ (wt15.alloc (.cells (vwA Vw.zero (.slice none 0 0)) 29))
              rw [← hz]
              refine ⟨FS.out, ?_⟩
              clear hz fz
              refine wpAnyU_oneG (i := 3) rfl (by kernel_rfl) (by kernel_rfl) ?_
              go_simp
              have HG := hid_ FS.out.size
              obtain ⟨wt26, hz⟩ : ∃ z, z = wt25.alloc (.cells (recL ⟨dropR, none, 0, none, 0⟩ ++ recL ⟨holdR q.2 l.2 q.1, none, 0, none, 0⟩).toArray 39) := ⟨_, rfl⟩
              have fz : Fr none_ wt25 wt26 := by rw [hz]; exact (Fr.refl none_ wt25).alloc _
              have BP : Hid (Blk wt26 wt25.heap.size 39 (recL ⟨dropR, none, 0, none, 0⟩ ++ recL ⟨holdR q.2 l.2 q.1, none, 0, none, 0⟩).toArray) := hid_ (by rw [hz]; exact Blk.new wt25 _ _)
              replace DR := hid_ (And.intro (own_none DR.out.1 fz) (fun C hC => (DR.out.2 C hC).keep fz))
              replace BA := hid_ (BA.out.fr fz id)
              replace FS := hid_ (FS.out.then_none fz)
              change Fr none_ wp (wt25.alloc (.cells (recL ⟨dropR, none, 0, none, 0⟩ ++ recL ⟨holdR q.2 l.2 q.1, none, 0, none, 0⟩).toArray 39)) ∧ wpAnyU _ _ _ _ _ _ _ _ _ (wt25.alloc (.cells (recL ⟨dropR, none, 0, none, 0⟩ ++ recL ⟨holdR q.2 l.2 q.1, none, 0, none, 0⟩).toArray 39))
              rw [← hz]
              refine ⟨FS.out, ?_⟩
              clear hz fz
              refine wpAnyU_oneG (i := 6) rfl (by kernel_rfl) (by kernel_rfl) ?_
              refine wp_append_any _ (.tmp 65) (.tmp 67) 22 rfl 0 39 i0 _ 15 192 Try.underlying22 Hi.out.1 Hi.out.2.1 Hi.out.2.2.1 Hi.out.2.2.2 rfl (by omega) (.slice (some ⟨wt25.heap.size, 0, none⟩) 2 2) 2 (recL ⟨dropR, none, 0, none, 0⟩ ++ recL ⟨holdR q.2 l.2 q.1, none, 0, none, 0⟩) rfl (own_rec2 BP.out) A9 L.length c9 (recFlat Ds) rfl (Reads.of_own DR.out.1) (recFlat_one _) (by simp only [maxLen]; omega) (by omega) (Nat.zero_le _) ?_
              intro A7 c7 wt27 hown hgr
              obtain ⟨hch, hfb⟩ := push_chain2 DM.out rfl BP.out DR.out hown hgr (bare_ok rfl rfl SzOk.nil SzOk.nil SzOk.nil SzOk.nil) (bare_ok rfl rfl SzOk.nil SzOk.nil SzOk.nil HQL.out)
              have CH := hid_ hch
              replace BA := hid_ (BA.out.fr hfb (only_ne (Blk.ne_ BA.out BP.out (by decide))))
              replace FS := hid_ (FS.out.then_only hfb (.inr HG.out))
              refine ⟨.inr FS.out, ?_⟩
              clear hch hfb hown hgr DR BP
              refine wpAnyU_oneG (i := 7) rfl (by kernel_rfl) (by kernel_rfl) ?_
              go_simp
              have hpf : foldU ((⟨dropR, none, 0, none, 0⟩ :: ⟨holdR q.2 l.2 q.1, none, 0, none, 0⟩ :: Ds).map (·.R)) = some (cutV V (i + 1)) := (fold_push ((fold_push_of HM.out DM.out HFO.out.2 ⟨holdR q.2 l.2 q.1, none, 0, none, 0⟩).trans UP.out)).trans UD.out
              have KP := hid_ (kind_cons (R := dropR) ⟨by show (7 : Int) ≤ 11; decide, by show (11 : Int) ≤ 11; decide⟩ (kind_push HM.out DM.out HFO.out.1 (R := holdR q.2 l.2 q.1) ⟨by show (7 : Int) ≤ 10; decide, by show (10 : Int) ≤ 11; decide⟩ (P := ⟨holdR q.2 l.2 q.1, none, 0, none, 0⟩) rfl))
              refine (fold_ok A7 (2 + L.length) c7 (⟨dropR, none, 0, none, 0⟩ :: ⟨holdR q.2 l.2 q.1, none, 0, none, 0⟩ :: Ds) _ CH.out (by omega) (ents_cons (ents_push DM.out HE.out (P := ⟨holdR q.2 l.2 q.1, none, 0, none, 0⟩) (Nat.zero_le _)) (Nat.zero_le _))).mono ?_
              rintro e wt28 (⟨W, A5, c5, -, hfo, rfl, hvin, -, hff⟩ | ⟨kk, -, hno, rfl, hff⟩)
              rotate_left
              · rw [hno KP.out] at hpf
                cases hpf
              obtain rfl : (cutV V (i + 1)) = W := Option.some.inj (hpf.symm.trans hfo)
              have WI := hid_ hvin
              replace BA := hid_ (BA.out.fr hff id)
              replace FS := hid_ (FS.out.then_none hff)
              refine ⟨FS.out, ?_⟩
              clear hfo hvin hff hpf KP CH
              refine wpAnyU_take2 (i := 8) (v := _) rfl (by kernel_rfl) (by kernel_rfl) (by kernel_rfl) (by kernel_rfl) (fun _ _ _ h => h) (.inl ⟨by kernel_rfl, fun w' hS => by go_simp; rfl⟩) FS.out ?_
              refine wpAnyU_take2 (i := 9) (v := _) rfl (by kernel_rfl) (by kernel_rfl) (by kernel_rfl) (by kernel_rfl) (fun _ _ _ h => h) (.inl ⟨by kernel_rfl, fun w' hS => by go_simp; rfl⟩) FS.out ?_
              refine wpAnyU_take2 (i := 10) (v := _) rfl (by kernel_rfl) (by kernel_rfl) (by kernel_rfl) (by kernel_rfl) (fun _ _ _ h => h) (.inl ⟨by kernel_rfl, fun w' hS => by go_simp; rfl⟩) FS.out ?_
              refine wpAnyU_oneG (i := 12) rfl (by kernel_rfl) (by kernel_rfl) ?_
              refine wp_store_mid 29 (.tmp 13) (.tmp 70) rfl wt15.heap.size 0 (vwA (cutV V (i + 1)) (.slice A5 (cutV V (i + 1)).ents.length c5)) rfl rfl (BA.out.there0 rfl) view_sz8 (by simp [Value.oneCell']) ?_
              obtain ⟨wf, hz⟩ : ∃ z, z = wt28.setCells (wt15.heap.size) 0 (vwA (cutV V (i + 1)) (.slice A5 (cutV V (i + 1)).ents.length c5)).toList := ⟨_, rfl⟩
              have ov := BA.out.over (vwA (cutV V (i + 1)) (.slice A5 (cutV V (i + 1)).ents.length c5)).toList rfl
              rw [← hz] at ov
              have fS := FS.out.then_only ov.2 (.inr HA.out)
              refine ⟨.inr (by rw [← hz]; exact fS), ?_⟩
              change wpAnyU _ _ _ _ _ _ _ _ _ (wt28.setCells (wt15.heap.size) 0 (vwA (cutV V (i + 1)) (.slice A5 (cutV V (i + 1)).ents.length c5)).toList)
              rw [← hz]
              clear hz
              have WJ := hid_ (WI.out.far BA.out ov.2)
              have OV := hid_ (show Blk wf (wt15.heap.size) 29 (vwA (cutV V (i + 1)) (.slice A5 (cutV V (i + 1)).ents.length c5)) from ov.1)
              refine wpAnyU_take2 (i := 13) (v := _) rfl (by kernel_rfl) (by kernel_rfl) (by kernel_rfl) (by kernel_rfl) (fun _ _ _ h => h) (.inl ⟨by kernel_rfl, fun w' hS => by go_simp; rfl⟩) fS ?_
              refine wpAnyU_done (by kernel_rfl) ?_ _
              go_wp2_with fail
              go_meet
              exact ⟨_, A5, c5, rfl, rfl, HA.out, OV.out, WJ.out, fS⟩
          · skip
            go_simp
            have HA := hid_ FS.out.size
            obtain ⟨wt29, hz⟩ : ∃ z, z = we.alloc (.cells (vwA Vw.zero (.slice none 0 0)) 29) := ⟨_, rfl⟩
            have fz : Fr none_ we wt29 := by rw [hz]; exact (Fr.refl none_ we).alloc _
            have BA : Hid (Blk wt29 we.heap.size 29 (vwA Vw.zero (.slice none 0 0))) := hid_ (by rw [hz]; exact Blk.new we _ _)
            replace FS := hid_ (FS.out.then_none fz)
            change Fr none_ wp (we.alloc (.cells (vwA Vw.zero (.slice none 0 0)) 29)) ∧ wpAnyU _ _ _ _ _ _ _ _ _ (we.alloc (.cells (vwA Vw.zero (.slice none 0 0)) 29))
            rw [← hz]
            refine ⟨FS.out, ?_⟩
            clear hz fz
            refine wpAnyU_two (i := 3) (j := 5) rfl rfl rfl rfl (by kernel_rfl) ?_ ?_
            · skip
              go_simp
              have HG := hid_ FS.out.size
              obtain ⟨wt30, hz⟩ : ∃ z, z = wt29.alloc (.cells (recL ⟨dropR, none, 0, none, 0⟩ ++ recL ⟨holdR q.2 l.2 q.1, none, 0, none, 0⟩).toArray 39) := ⟨_, rfl⟩
              have fz : Fr none_ wt29 wt30 := by rw [hz]; exact (Fr.refl none_ wt29).alloc _
              have BP : Hid (Blk wt30 wt29.heap.size 39 (recL ⟨dropR, none, 0, none, 0⟩ ++ recL ⟨holdR q.2 l.2 q.1, none, 0, none, 0⟩).toArray) := hid_ (by rw [hz]; exact Blk.new wt29 _ _)
              replace BA := hid_ (BA.out.fr fz id)
              replace FS := hid_ (FS.out.then_none fz)
              change Fr none_ wp (wt29.alloc (.cells (recL ⟨dropR, none, 0, none, 0⟩ ++ recL ⟨holdR q.2 l.2 q.1, none, 0, none, 0⟩).toArray 39)) ∧ wpAnyU _ _ _ _ _ _ _ _ _ (wt29.alloc (.cells (recL ⟨dropR, none, 0, none, 0⟩ ++ recL ⟨holdR q.2 l.2 q.1, none, 0, none, 0⟩).toArray 39))
              rw [← hz]
              refine ⟨FS.out, ?_⟩
              clear hz fz
              refine wpAnyU_oneG (i := 5) rfl (by kernel_rfl) (by kernel_rfl) ?_
              go_simp
              refine (own8_ok A L.length cap L _ (((H.out.keep FS.out)).few HE.out) (by omega) (in_rows (H.out.keep FS.out))).mono ?_
              rintro e wt31 ⟨A9, c9, Ds, rfl, hCs, hown, hco, hf2⟩
              have DR := hid_ (And.intro hown hco)
              have DM := hid_ hCs
              replace BP := hid_ (BP.out.fr hf2 id)
              replace BA := hid_ (BA.out.fr hf2 id)
              replace FS := hid_ (FS.out.then_none hf2)
              refine ⟨FS.out, ?_⟩
              clear hCs hown hco hf2
              refine wpAnyU_oneG (i := 6) rfl (by kernel_rfl) (by kernel_rfl) ?_
              refine wp_append_any _ (.tmp 65) (.tmp 67) 22 rfl 0 39 i0 _ 15 192 Try.underlying22 Hi.out.1 Hi.out.2.1 Hi.out.2.2.1 Hi.out.2.2.2 rfl (by omega) (.slice (some ⟨wt29.heap.size, 0, none⟩) 2 2) 2 (recL ⟨dropR, none, 0, none, 0⟩ ++ recL ⟨holdR q.2 l.2 q.1, none, 0, none, 0⟩) rfl (own_rec2 BP.out) A9 L.length c9 (recFlat Ds) rfl (Reads.of_own DR.out.1) (recFlat_one _) (by simp only [maxLen]; omega) (by omega) (Nat.zero_le _) ?_
              intro A7 c7 wt32 hown hgr
              obtain ⟨hch, hfb⟩ := push_chain2 DM.out rfl BP.out DR.out hown hgr (bare_ok rfl rfl SzOk.nil SzOk.nil SzOk.nil SzOk.nil) (bare_ok rfl rfl SzOk.nil SzOk.nil SzOk.nil HQL.out)
              have CH := hid_ hch
              replace BA := hid_ (BA.out.fr hfb (only_ne (Blk.ne_ BA.out BP.out (by decide))))
              replace FS := hid_ (FS.out.then_only hfb (.inr HG.out))
              refine ⟨.inr FS.out, ?_⟩
              clear hch hfb hown hgr DR BP
              refine wpAnyU_oneG (i := 7) rfl (by kernel_rfl) (by kernel_rfl) ?_
              go_simp
              have hpf : foldU ((⟨dropR, none, 0, none, 0⟩ :: ⟨holdR q.2 l.2 q.1, none, 0, none, 0⟩ :: Ds).map (·.R)) = some (cutV V (i + 1)) := (fold_push ((fold_push_of HM.out DM.out HFO.out.2 ⟨holdR q.2 l.2 q.1, none, 0, none, 0⟩).trans UP.out)).trans UD.out
              have KP := hid_ (kind_cons (R := dropR) ⟨by show (7 : Int) ≤ 11; decide, by show (11 : Int) ≤ 11; decide⟩ (kind_push HM.out DM.out HFO.out.1 (R := holdR q.2 l.2 q.1) ⟨by show (7 : Int) ≤ 10; decide, by show (10 : Int) ≤ 11; decide⟩ (P := ⟨holdR q.2 l.2 q.1, none, 0, none, 0⟩) rfl))
              refine (fold_ok A7 (2 + L.length) c7 (⟨dropR, none, 0, none, 0⟩ :: ⟨holdR q.2 l.2 q.1, none, 0, none, 0⟩ :: Ds) _ CH.out (by omega) (ents_cons (ents_push DM.out HE.out (P := ⟨holdR q.2 l.2 q.1, none, 0, none, 0⟩) (Nat.zero_le _)) (Nat.zero_le _))).mono ?_
              rintro e wt33 (⟨W, A5, c5, -, hfo, rfl, hvin, -, hff⟩ | ⟨kk, -, hno, rfl, hff⟩)
              rotate_left
              · rw [hno KP.out] at hpf
                cases hpf
              obtain rfl : (cutV V (i + 1)) = W := Option.some.inj (hpf.symm.trans hfo)
              have WI := hid_ hvin
              replace BA := hid_ (BA.out.fr hff id)
              replace FS := hid_ (FS.out.then_none hff)
              refine ⟨FS.out, ?_⟩
              clear hfo hvin hff hpf KP CH
              refine wpAnyU_take2 (i := 8) (v := _) rfl (by kernel_rfl) (by kernel_rfl) (by kernel_rfl) (by kernel_rfl) (fun _ _ _ h => h) (.inl ⟨by kernel_rfl, fun w' hS => by go_simp; rfl⟩) FS.out ?_
              refine wpAnyU_take2 (i := 9) (v := _) rfl (by kernel_rfl) (by kernel_rfl) (by kernel_rfl) (by kernel_rfl) (fun _ _ _ h => h) (.inl ⟨by kernel_rfl, fun w' hS => by go_simp; rfl⟩) FS.out ?_
              refine wpAnyU_take2 (i := 10) (v := _) rfl (by kernel_rfl) (by kernel_rfl) (by kernel_rfl) (by kernel_rfl) (fun _ _ _ h => h) (.inl ⟨by kernel_rfl, fun w' hS => by go_simp; rfl⟩) FS.out ?_
              refine wpAnyU_oneG (i := 12) rfl (by kernel_rfl) (by kernel_rfl) ?_
              refine wp_store_mid 29 (.tmp 13) (.tmp 70) rfl we.heap.size 0 (vwA (cutV V (i + 1)) (.slice A5 (cutV V (i + 1)).ents.length c5)) rfl rfl (BA.out.there0 rfl) view_sz8 (by simp [Value.oneCell']) ?_
              obtain ⟨wf, hz⟩ : ∃ z, z = wt33.setCells (we.heap.size) 0 (vwA (cutV V (i + 1)) (.slice A5 (cutV V (i + 1)).ents.length c5)).toList := ⟨_, rfl⟩
              have ov := BA.out.over (vwA (cutV V (i + 1)) (.slice A5 (cutV V (i + 1)).ents.length c5)).toList rfl
              rw [← hz] at ov
              have fS := FS.out.then_only ov.2 (.inr HA.out)
              refine ⟨.inr (by rw [← hz]; exact fS), ?_⟩
              change wpAnyU _ _ _ _ _ _ _ _ _ (wt33.setCells (we.heap.size) 0 (vwA (cutV V (i + 1)) (.slice A5 (cutV V (i + 1)).ents.length c5)).toList)
              rw [← hz]
              clear hz
              have WJ := hid_ (WI.out.far BA.out ov.2)
              have OV := hid_ (show Blk wf (we.heap.size) 29 (vwA (cutV V (i + 1)) (.slice A5 (cutV V (i + 1)).ents.length c5)) from ov.1)
              refine wpAnyU_take2 (i := 13) (v := _) rfl (by kernel_rfl) (by kernel_rfl) (by kernel_rfl) (by kernel_rfl) (fun _ _ _ h => h) (.inl ⟨by kernel_rfl, fun w' hS => by go_simp; rfl⟩) fS ?_
              refine wpAnyU_done (by kernel_rfl) ?_ _
              go_wp2_with fail
              go_meet
              exact ⟨_, A5, c5, rfl, rfl, HA.out, OV.out, WJ.out, fS⟩
            · skip
              go_simp
              refine (own8_ok A L.length cap L _ (((H.out.keep FS.out)).few HE.out) (by omega) (in_rows (H.out.keep FS.out))).mono ?_
              rintro e wt34 ⟨A9, c9, Ds, rfl, hCs, hown, hco, hf2⟩
              have DR := hid_ (And.intro hown hco)
              have DM := hid_ hCs
              replace BA := hid_ (BA.out.fr hf2 id)
              replace FS := hid_ (FS.out.then_none hf2)
              refine ⟨FS.out, ?_⟩
              clear hCs hown hco hf2
              refine wpAnyU_oneG (i := 3) rfl (by kernel_rfl) (by kernel_rfl) ?_
              go_simp
              have HG := hid_ FS.out.size
              obtain ⟨wt35, hz⟩ : ∃ z, z = wt34.alloc (.cells (recL ⟨dropR, none, 0, none, 0⟩ ++ recL ⟨holdR q.2 l.2 q.1, none, 0, none, 0⟩).toArray 39) := ⟨_, rfl⟩
              have fz : Fr none_ wt34 wt35 := by rw [hz]; exact (Fr.refl none_ wt34).alloc _
              have BP : Hid (Blk wt35 wt34.heap.size 39 (recL ⟨dropR, none, 0, none, 0⟩ ++ recL ⟨holdR q.2 l.2 q.1, none, 0, none, 0⟩).toArray) := hid_ (by rw [hz]; exact Blk.new wt34 _ _)
              replace DR := hid_ (And.intro (own_none DR.out.1 fz) (fun C hC => (DR.out.2 C hC).keep fz))
              replace BA := hid_ (BA.out.fr fz id)
              replace FS := hid_ (FS.out.then_none fz)
              change Fr none_ wp (wt34.alloc (.cells (recL ⟨dropR, none, 0, none, 0⟩ ++ recL ⟨holdR q.2 l.2 q.1, none, 0, none, 0⟩).toArray 39)) ∧ wpAnyU _ _ _ _ _ _ _ _ _ (wt34.alloc (.cells (recL ⟨dropR, none, 0, none, 0⟩ ++ recL ⟨holdR q.2 l.2 q.1, none, 0, none, 0⟩).toArray 39))
              rw [← hz]
              refine ⟨FS.out, ?_⟩
              clear hz fz
              refine wpAnyU_oneG (i := 6) rfl (by kernel_rfl) (by kernel_rfl) ?_
              refine wp_append_any _ (.tmp 65) (.tmp 67) 22 rfl 0 39 i0 _ 15 192 Try.underlying22 Hi.out.1 Hi.out.2.1 Hi.out.2.2.1 Hi.out.2.2.2 rfl (by omega) (.slice (some ⟨wt34.heap.size, 0, none⟩) 2 2) 2 (recL ⟨dropR, none, 0, none, 0⟩ ++ recL ⟨holdR q.2 l.2 q.1, none, 0, none, 0⟩) rfl (own_rec2 BP.out) A9 L.length c9 (recFlat Ds) rfl (Reads.of_own DR.out.1) (recFlat_one _) (by simp only [maxLen]; omega) (by omega) (Nat.zero_le _) ?_
              intro A7 c7 wt36 hown hgr
              obtain ⟨hch, hfb⟩ := push_chain2 DM.out rfl BP.out DR.out hown hgr (bare_ok rfl rfl SzOk.nil SzOk.nil SzOk.nil SzOk.nil) (bare_ok rfl rfl SzOk.nil SzOk.nil SzOk.nil HQL.out)
              have CH := hid_ hch
              replace BA := hid_ (BA.out.fr hfb (only_ne (Blk.ne_ BA.out BP.out (by decide))))
              replace FS := hid_ (FS.out.then_only hfb (.inr HG.out))
              refine ⟨.inr FS.out, ?_⟩
              clear hch hfb hown hgr DR BP
              refine wpAnyU_oneG (i := 7) rfl (by kernel_rfl) (by kernel_rfl) ?_
              go_simp
              have hpf : foldU ((⟨dropR, none, 0, none, 0⟩ :: ⟨holdR q.2 l.2 q.1, none, 0, none, 0⟩ :: Ds).map (·.R)) = some (cutV V (i + 1)) := (fold_push ((fold_push_of HM.out DM.out HFO.out.2 ⟨holdR q.2 l.2 q.1, none, 0, none, 0⟩).trans UP.out)).trans UD.out
              have KP := hid_ (kind_cons (R := dropR) ⟨by show (7 : Int) ≤ 11; decide, by show (11 : Int) ≤ 11; decide⟩ (kind_push HM.out DM.out HFO.out.1 (R := holdR q.2 l.2 q.1) ⟨by show (7 : Int) ≤ 10; decide, by show (10 : Int) ≤ 11; decide⟩ (P := ⟨holdR q.2 l.2 q.1, none, 0, none, 0⟩) rfl))
              refine (fold_ok A7 (2 + L.length) c7 (⟨dropR, none, 0, none, 0⟩ :: ⟨holdR q.2 l.2 q.1, none, 0, none, 0⟩ :: Ds) _ CH.out (by omega) (ents_cons (ents_push DM.out HE.out (P := ⟨holdR q.2 l.2 q.1, none, 0, none, 0⟩) (Nat.zero_le _)) (Nat.zero_le _))).mono ?_
              rintro e wt37 (⟨W, A5, c5, -, hfo, rfl, hvin, -, hff⟩ | ⟨kk, -, hno, rfl, hff⟩)
              rotate_left
              · rw [hno KP.out] at hpf
                cases hpf
              obtain rfl : (cutV V (i + 1)) = W := Option.some.inj (hpf.symm.trans hfo)
              have WI := hid_ hvin
              replace BA := hid_ (BA.out.fr hff id)
              replace FS := hid_ (FS.out.then_none hff)
              refine ⟨FS.out, ?_⟩
              clear hfo hvin hff hpf KP CH
              refine wpAnyU_take2 (i := 8) (v := _) rfl (by kernel_rfl) (by kernel_rfl) (by kernel_rfl) (by kernel_rfl) (fun _ _ _ h => h) (.inl ⟨by kernel_rfl, fun w' hS => by go_simp; rfl⟩) FS.out ?_
              refine wpAnyU_take2 (i := 9) (v := _) rfl (by kernel_rfl) (by kernel_rfl) (by kernel_rfl) (by kernel_rfl) (fun _ _ _ h => h) (.inl ⟨by kernel_rfl, fun w' hS => by go_simp; rfl⟩) FS.out ?_
              refine wpAnyU_take2 (i := 10) (v := _) rfl (by kernel_rfl) (by kernel_rfl) (by kernel_rfl) (by kernel_rfl) (fun _ _ _ h => h) (.inl ⟨by kernel_rfl, fun w' hS => by go_simp; rfl⟩) FS.out ?_
              refine wpAnyU_oneG (i := 12) rfl (by kernel_rfl) (by kernel_rfl) ?_
              refine wp_store_mid 29 (.tmp 13) (.tmp 70) rfl we.heap.size 0 (vwA (cutV V (i + 1)) (.slice A5 (cutV V (i + 1)).ents.length c5)) rfl rfl (BA.out.there0 rfl) view_sz8 (by simp [Value.oneCell']) ?_
              obtain ⟨wf, hz⟩ : ∃ z, z = wt37.setCells (we.heap.size) 0 (vwA (cutV V (i + 1)) (.slice A5 (cutV V (i + 1)).ents.length c5)).toList := ⟨_, rfl⟩
              have ov := BA.out.over (vwA (cutV V (i + 1)) (.slice A5 (cutV V (i + 1)).ents.length c5)).toList rfl
              rw [← hz] at ov
              have fS := FS.out.then_only ov.2 (.inr HA.out)
              refine ⟨.inr (by rw [← hz]; exact fS), ?_⟩
              change wpAnyU _ _ _ _ _ _ _ _ _ (wt37.setCells (we.heap.size) 0 (vwA (cutV V (i + 1)) (.slice A5 (cutV V (i + 1)).ents.length c5)).toList)
              rw [← hz]
              clear hz
              have WJ := hid_ (WI.out.far BA.out ov.2)
              have OV := hid_ (show Blk wf (we.heap.size) 29 (vwA (cutV V (i + 1)) (.slice A5 (cutV V (i + 1)).ents.length c5)) from ov.1)
              refine wpAnyU_take2 (i := 13) (v := _) rfl (by kernel_rfl) (by kernel_rfl) (by kernel_rfl) (by kernel_rfl) (fun _ _ _ h => h) (.inl ⟨by kernel_rfl, fun w' hS => by go_simp; rfl⟩) fS ?_
              refine wpAnyU_done (by kernel_rfl) ?_ _
              go_wp2_with fail
              go_meet
              exact ⟨_, A5, c5, rfl, rfl, HA.out, OV.out, WJ.out, fS⟩
        case rest =>
          obtain ⟨b2, A9, c9, rfl, rfl, hb2, hbt, hvi, hf⟩ := hcut
          have BX := hid_ hbt
          have WX := hid_ hvi
          subst hwp
          replace H := hid_ (H.out.keep hf)
          replace F := hid_ (F.out.then_none hf)
          replace VI := hid_ (VI.out.keep hf)
          replace FV := hid_ (FV.out.then_none hf)
          replace BV := hid_ (BV.out.fr hf id)
          replace BH := hid_ (BH.out.fr hf id)
          replace BL := hid_ (BL.out.fr hf id)
          replace WL := hid_ (WL.out.keep hf)
          clear hbt hvi hf
          have hlen2 := cutV_len (V := V) HQ.out
          have hw1 : IntKind.i64.wrap ((V.ents.length : Int) - 1) = ((cutV V (i + 1)).ents.length : Int) := by rw [IntWalk.i64_in _ (by omega)]; omega
          have hw2 : (V.ents.length : Int) - 1 = ((cutV V (i + 1)).ents.length : Int) := by omega
          have l4 : wc.cell? ⟨b, 4, none⟩ = some (.slice A6 V.ents.length c6) := BL.out.cell' rfl
          have l5 : wc.cell? ⟨b, 5, none⟩ = some (.bool true) := BL.out.cell' rfl
          have l6 : wc.cell? ⟨b, 6, none⟩ = some (.int .i64 q.2) := BL.out.cell' rfl
          have l7 : wc.cell? ⟨b, 7, none⟩ = some (.int .i64 l.2) := BL.out.cell' rfl
          have l8 : wc.cell? ⟨b, 8, none⟩ = some (.string q.1) := BL.out.cell' rfl
          have h0 : wc.cell? ⟨w5.heap.size, 0, none⟩ = some (.int .i64 q.2) := BH.out.cell' rfl
          have h1 : wc.cell? ⟨w5.heap.size, 1, none⟩ = some (.int .i64 l.2) := BH.out.cell' rfl
          have h2 : wc.cell? ⟨w5.heap.size, 2, none⟩ = some (.string q.1) := BH.out.cell' rfl
          have x4 : wc.cell? ⟨b2, 4, none⟩ = some (.slice A9 (cutV V (i + 1)).ents.length c9) := BX.out.cell' rfl
          have x5 : wc.cell? ⟨b2, 5, none⟩ = some (.bool false) := BX.out.cell' rfl
          have v4 : wc.cell? ⟨w3.heap.size, 4, none⟩ = some (.slice A3 V.ents.length c3) := BV.out.cell' rfl
          go_upto_region 11 with fail
          clear l4 l5 l6 l7 l8 h0 h1 h2 x4 x5 v4 hw1 hw2 hlen2
          have v0 : wc.cell? ⟨w3.heap.size, 0, none⟩ = some (.string V.low) := BV.out.cell' rfl
          have v1 : wc.cell? ⟨w3.heap.size, 1, none⟩ = some (.string V.high) := BV.out.cell' rfl
          have v2 : wc.cell? ⟨w3.heap.size, 2, none⟩ = some (.bool V.unb) := BV.out.cell' rfl
          have v3 : wc.cell? ⟨w3.heap.size, 3, none⟩ = some (.int .i64 V.right) := BV.out.cell' rfl
          have v4 : wc.cell? ⟨w3.heap.size, 4, none⟩ = some (.slice A3 V.ents.length c3) := BV.out.cell' rfl
          have v5 : wc.cell? ⟨w3.heap.size, 5, none⟩ = some (.bool V.held) := BV.out.cell' rfl
          have v6 : wc.cell? ⟨w3.heap.size, 6, none⟩ = some (.int .i64 V.hp) := BV.out.cell' rfl
          have v7 : wc.cell? ⟨w3.heap.size, 7, none⟩ = some (.int .i64 V.hl) := BV.out.cell' rfl
          have v8 : wc.cell? ⟨w3.heap.size, 8, none⟩ = some (.string V.hk) := BV.out.cell' rfl
          go_wp2_with fail
          refine (child_ok V A3 c3 key _ VI.out hks).mono ?_
          rintro e w12 ⟨(⟨cc, hch, rfl⟩ | ⟨hch, rfl⟩), hf12⟩
          rotate_left
          · skip
            replace H := hid_ (H.out.keep hf12)
            replace F := hid_ (F.out.then_none hf12)
            replace VI := hid_ (VI.out.keep hf12)
            replace FV := hid_ (FV.out.then_none hf12)
            replace BV := hid_ (BV.out.fr hf12 id)
            replace BH := hid_ (BH.out.fr hf12 id)
            replace BL := hid_ (BL.out.fr hf12 id)
            replace WL := hid_ (WL.out.keep hf12)
            replace BX := hid_ (BX.out.fr hf12 id)
            replace WX := hid_ (WX.out.keep hf12)
            have HN := hid_ (drops_none G.out.s hch (i + 1))
            clear hf12 hch
            clear v0 v1 v2 v3 v4 v5 v6 v7 v8
            go_upto_region 12 with fail
            obtain ⟨w13, hw13⟩ : ∃ z, z = w12.alloc (.cells #[.string nilS, .int .i64 0] 47) := ⟨_, rfl⟩
            have fw13 : Fr none_ w12 w13 := by rw [hw13]; exact (Fr.refl none_ w12).alloc _
            have BC : Hid (Blk w13 w12.heap.size 47 (#[.string nilS, .int .i64 0])) := hid_ (by rw [hw13]; exact Blk.new w12 _ _)
            replace H := hid_ (H.out.keep fw13)
            replace F := hid_ (F.out.then_none fw13)
            replace VI := hid_ (VI.out.keep fw13)
            replace FV := hid_ (FV.out.then_none fw13)
            replace BV := hid_ (BV.out.fr fw13 id)
            replace BH := hid_ (BH.out.fr fw13 id)
            replace BL := hid_ (BL.out.fr fw13 id)
            replace WL := hid_ (WL.out.keep fw13)
            replace BX := hid_ (BX.out.fr fw13 id)
            replace WX := hid_ (WX.out.keep fw13)
            change Code.wp _ _ _ _ (w12.alloc (.cells #[.string nilS, .int .i64 0] 47))
            rw [← hw13]
            clear hw13 fw13
            have v0 : w13.cell? ⟨b2, 0, none⟩ = some (.string (cutV V (i + 1)).low) := BX.out.cell' rfl
            have v1 : w13.cell? ⟨b2, 1, none⟩ = some (.string (cutV V (i + 1)).high) := BX.out.cell' rfl
            have v2 : w13.cell? ⟨b2, 2, none⟩ = some (.bool (cutV V (i + 1)).unb) := BX.out.cell' rfl
            have v3 : w13.cell? ⟨b2, 3, none⟩ = some (.int .i64 (cutV V (i + 1)).right) := BX.out.cell' rfl
            have v4 : w13.cell? ⟨b2, 4, none⟩ = some (.slice A9 (cutV V (i + 1)).ents.length c9) := BX.out.cell' rfl
            have v5 : w13.cell? ⟨b2, 5, none⟩ = some (.bool (cutV V (i + 1)).held) := BX.out.cell' rfl
            have v6 : w13.cell? ⟨b2, 6, none⟩ = some (.int .i64 (cutV V (i + 1)).hp) := BX.out.cell' rfl
            have v7 : w13.cell? ⟨b2, 7, none⟩ = some (.int .i64 (cutV V (i + 1)).hl) := BX.out.cell' rfl
            have v8 : w13.cell? ⟨b2, 8, none⟩ = some (.string (cutV V (i + 1)).hk) := BX.out.cell' rfl
            go_wp2_with fail
            refine (child_ok (cutV V (i + 1)) A9 c9 key _ WX.out hks).mono ?_
            rintro e w14 ⟨(⟨d, hd3, rfl⟩ | ⟨hd3, rfl⟩), hf14⟩
            · rw [HN.out] at hd3
              cases hd3
            replace H := hid_ (H.out.keep hf14)
            replace F := hid_ (F.out.then_none hf14)
            replace VI := hid_ (VI.out.keep hf14)
            replace FV := hid_ (FV.out.then_none hf14)
            replace BV := hid_ (BV.out.fr hf14 id)
            replace BH := hid_ (BH.out.fr hf14 id)
            replace BL := hid_ (BL.out.fr hf14 id)
            replace WL := hid_ (WL.out.keep hf14)
            replace BX := hid_ (BX.out.fr hf14 id)
            replace WX := hid_ (WX.out.keep hf14)
            replace BC := hid_ (BC.out.fr hf14 id)
            clear hf14 hd3
            clear v0 v1 v2 v3 v4 v5 v6 v7 v8
            go_upto_region 13 with fail
            obtain ⟨w15, hw15⟩ : ∃ z, z = w14.alloc (.cells #[.string nilS, .int .i64 0] 47) := ⟨_, rfl⟩
            have fw15 : Fr none_ w14 w15 := by rw [hw15]; exact (Fr.refl none_ w14).alloc _
            have BC2 : Hid (Blk w15 w14.heap.size 47 (#[.string nilS, .int .i64 0])) := hid_ (by rw [hw15]; exact Blk.new w14 _ _)
            replace H := hid_ (H.out.keep fw15)
            replace F := hid_ (F.out.then_none fw15)
            replace VI := hid_ (VI.out.keep fw15)
            replace FV := hid_ (FV.out.then_none fw15)
            replace BV := hid_ (BV.out.fr fw15 id)
            replace BH := hid_ (BH.out.fr fw15 id)
            replace BL := hid_ (BL.out.fr fw15 id)
            replace WL := hid_ (WL.out.keep fw15)
            replace BX := hid_ (BX.out.fr fw15 id)
            replace WX := hid_ (WX.out.keep fw15)
            replace BC := hid_ (BC.out.fr fw15 id)
            change Code.wp _ _ _ _ (w14.alloc (.cells #[.string nilS, .int .i64 0] 47))
            rw [← hw15]
            clear hw15 fw15
            go_wp2_with fail
            refine (awake8 _).mono ?_
            rintro e w9 ⟨rfl, hf9⟩
            have F9 := hid_ hf9
            clear hf9
            go_wp2_with fail
            go_ret
            exact ⟨rfl, (F.out).then_none F9.out⟩
          replace H := hid_ (H.out.keep hf12)
          replace F := hid_ (F.out.then_none hf12)
          replace VI := hid_ (VI.out.keep hf12)
          replace FV := hid_ (FV.out.then_none hf12)
          replace BV := hid_ (BV.out.fr hf12 id)
          replace BH := hid_ (BH.out.fr hf12 id)
          replace BL := hid_ (BL.out.fr hf12 id)
          replace WL := hid_ (WL.out.keep hf12)
          replace BX := hid_ (BX.out.fr hf12 id)
          replace WX := hid_ (WX.out.keep hf12)
          have HC := hid_ hch
          clear hf12 hch
          clear v0 v1 v2 v3 v4 v5 v6 v7 v8
          go_upto_region 12 with fail
          obtain ⟨w13, hw13⟩ : ∃ z, z = w12.alloc (.cells #[.string cc.1, .int .i64 cc.2] 47) := ⟨_, rfl⟩
          have fw13 : Fr none_ w12 w13 := by rw [hw13]; exact (Fr.refl none_ w12).alloc _
          have BC : Hid (Blk w13 w12.heap.size 47 (#[.string cc.1, .int .i64 cc.2])) := hid_ (by rw [hw13]; exact Blk.new w12 _ _)
          replace H := hid_ (H.out.keep fw13)
          replace F := hid_ (F.out.then_none fw13)
          replace VI := hid_ (VI.out.keep fw13)
          replace FV := hid_ (FV.out.then_none fw13)
          replace BV := hid_ (BV.out.fr fw13 id)
          replace BH := hid_ (BH.out.fr fw13 id)
          replace BL := hid_ (BL.out.fr fw13 id)
          replace WL := hid_ (WL.out.keep fw13)
          replace BX := hid_ (BX.out.fr fw13 id)
          replace WX := hid_ (WX.out.keep fw13)
          change Code.wp _ _ _ _ (w12.alloc (.cells #[.string cc.1, .int .i64 cc.2] 47))
          rw [← hw13]
          clear hw13 fw13
          have v0 : w13.cell? ⟨b2, 0, none⟩ = some (.string (cutV V (i + 1)).low) := BX.out.cell' rfl
          have v1 : w13.cell? ⟨b2, 1, none⟩ = some (.string (cutV V (i + 1)).high) := BX.out.cell' rfl
          have v2 : w13.cell? ⟨b2, 2, none⟩ = some (.bool (cutV V (i + 1)).unb) := BX.out.cell' rfl
          have v3 : w13.cell? ⟨b2, 3, none⟩ = some (.int .i64 (cutV V (i + 1)).right) := BX.out.cell' rfl
          have v4 : w13.cell? ⟨b2, 4, none⟩ = some (.slice A9 (cutV V (i + 1)).ents.length c9) := BX.out.cell' rfl
          have v5 : w13.cell? ⟨b2, 5, none⟩ = some (.bool (cutV V (i + 1)).held) := BX.out.cell' rfl
          have v6 : w13.cell? ⟨b2, 6, none⟩ = some (.int .i64 (cutV V (i + 1)).hp) := BX.out.cell' rfl
          have v7 : w13.cell? ⟨b2, 7, none⟩ = some (.int .i64 (cutV V (i + 1)).hl) := BX.out.cell' rfl
          have v8 : w13.cell? ⟨b2, 8, none⟩ = some (.string (cutV V (i + 1)).hk) := BX.out.cell' rfl
          by_cases he : cc.1 = q.1
          · skip
            have HS := hid_ (drops_same G.out.s HC.out HL.out HQ.out he)
            have hs : (cc.1.toList == q.1.toList) = true := by rw [he]; simp
            clear he
            go_wp2_with fail
            refine (child_ok (cutV V (i + 1)) A9 c9 key _ WX.out hks).mono ?_
            rintro e w14 ⟨(⟨d, hd3, rfl⟩ | ⟨hd3, rfl⟩), hf14⟩
            rotate_left
            · rw [HS.out] at hd3
              cases hd3
            obtain rfl : l = d := by rw [HS.out] at hd3; exact Option.some.inj hd3
            replace H := hid_ (H.out.keep hf14)
            replace F := hid_ (F.out.then_none hf14)
            replace VI := hid_ (VI.out.keep hf14)
            replace FV := hid_ (FV.out.then_none hf14)
            replace BV := hid_ (BV.out.fr hf14 id)
            replace BH := hid_ (BH.out.fr hf14 id)
            replace BL := hid_ (BL.out.fr hf14 id)
            replace WL := hid_ (WL.out.keep hf14)
            replace BX := hid_ (BX.out.fr hf14 id)
            replace WX := hid_ (WX.out.keep hf14)
            replace BC := hid_ (BC.out.fr hf14 id)
            clear hf14 hd3
            clear v0 v1 v2 v3 v4 v5 v6 v7 v8
            go_upto_region 13 with fail
            obtain ⟨w15, hw15⟩ : ∃ z, z = w14.alloc (.cells #[.string l.1, .int .i64 l.2] 47) := ⟨_, rfl⟩
            have fw15 : Fr none_ w14 w15 := by rw [hw15]; exact (Fr.refl none_ w14).alloc _
            have BC2 : Hid (Blk w15 w14.heap.size 47 (#[.string l.1, .int .i64 l.2])) := hid_ (by rw [hw15]; exact Blk.new w14 _ _)
            replace H := hid_ (H.out.keep fw15)
            replace F := hid_ (F.out.then_none fw15)
            replace VI := hid_ (VI.out.keep fw15)
            replace FV := hid_ (FV.out.then_none fw15)
            replace BV := hid_ (BV.out.fr fw15 id)
            replace BH := hid_ (BH.out.fr fw15 id)
            replace BL := hid_ (BL.out.fr fw15 id)
            replace WL := hid_ (WL.out.keep fw15)
            replace BX := hid_ (BX.out.fr fw15 id)
            replace WX := hid_ (WX.out.keep fw15)
            replace BC := hid_ (BC.out.fr fw15 id)
            change Code.wp _ _ _ _ (w14.alloc (.cells #[.string l.1, .int .i64 l.2] 47))
            rw [← hw15]
            clear hw15 fw15
            have c0 : w15.cell? ⟨w12.heap.size, 0, none⟩ = some (.string cc.1) := BC.out.cell' rfl
            have c1 : w15.cell? ⟨w12.heap.size, 1, none⟩ = some (.int .i64 cc.2) := BC.out.cell' rfl
            have d0 : w15.cell? ⟨w14.heap.size, 0, none⟩ = some (.string l.1) := BC2.out.cell' rfl
            have d1 : w15.cell? ⟨w14.heap.size, 1, none⟩ = some (.int .i64 l.2) := BC2.out.cell' rfl
            have h1 : w15.cell? ⟨w5.heap.size, 1, none⟩ = some (.int .i64 l.2) := BH.out.cell' rfl
            have h2 : w15.cell? ⟨w5.heap.size, 2, none⟩ = some (.string q.1) := BH.out.cell' rfl
            go_wp2_with fail
            refine (awake8 _).mono ?_
            rintro e w9 ⟨rfl, hf9⟩
            have F9 := hid_ hf9
            clear hf9
            go_wp2_with fail
            go_ret
            exact ⟨rfl, (F.out).then_none F9.out⟩
          · skip
            have HS := hid_ (drops_other G.out.s HC.out HL.out HQ.out he)
            have hs : (cc.1.toList == q.1.toList) = false := by simpa using (fun h : cc.1.toList = q.1.toList => he (ba_eq (by rw [← ba_toList, ← ba_toList]; exact h)))
            clear he
            go_wp2_with fail
            refine (child_ok (cutV V (i + 1)) A9 c9 key _ WX.out hks).mono ?_
            rintro e w14 ⟨(⟨d, hd3, rfl⟩ | ⟨hd3, rfl⟩), hf14⟩
            rotate_left
            · rw [HS.out] at hd3
              cases hd3
            obtain rfl : cc = d := by rw [HS.out] at hd3; exact Option.some.inj hd3
            replace H := hid_ (H.out.keep hf14)
            replace F := hid_ (F.out.then_none hf14)
            replace VI := hid_ (VI.out.keep hf14)
            replace FV := hid_ (FV.out.then_none hf14)
            replace BV := hid_ (BV.out.fr hf14 id)
            replace BH := hid_ (BH.out.fr hf14 id)
            replace BL := hid_ (BL.out.fr hf14 id)
            replace WL := hid_ (WL.out.keep hf14)
            replace BX := hid_ (BX.out.fr hf14 id)
            replace WX := hid_ (WX.out.keep hf14)
            replace BC := hid_ (BC.out.fr hf14 id)
            clear hf14 hd3
            clear v0 v1 v2 v3 v4 v5 v6 v7 v8
            go_upto_region 13 with fail
            obtain ⟨w15, hw15⟩ : ∃ z, z = w14.alloc (.cells #[.string cc.1, .int .i64 cc.2] 47) := ⟨_, rfl⟩
            have fw15 : Fr none_ w14 w15 := by rw [hw15]; exact (Fr.refl none_ w14).alloc _
            have BC2 : Hid (Blk w15 w14.heap.size 47 (#[.string cc.1, .int .i64 cc.2])) := hid_ (by rw [hw15]; exact Blk.new w14 _ _)
            replace H := hid_ (H.out.keep fw15)
            replace F := hid_ (F.out.then_none fw15)
            replace VI := hid_ (VI.out.keep fw15)
            replace FV := hid_ (FV.out.then_none fw15)
            replace BV := hid_ (BV.out.fr fw15 id)
            replace BH := hid_ (BH.out.fr fw15 id)
            replace BL := hid_ (BL.out.fr fw15 id)
            replace WL := hid_ (WL.out.keep fw15)
            replace BX := hid_ (BX.out.fr fw15 id)
            replace WX := hid_ (WX.out.keep fw15)
            replace BC := hid_ (BC.out.fr fw15 id)
            change Code.wp _ _ _ _ (w14.alloc (.cells #[.string cc.1, .int .i64 cc.2] 47))
            rw [← hw15]
            clear hw15 fw15
            have c0 : w15.cell? ⟨w12.heap.size, 0, none⟩ = some (.string cc.1) := BC.out.cell' rfl
            have c1 : w15.cell? ⟨w12.heap.size, 1, none⟩ = some (.int .i64 cc.2) := BC.out.cell' rfl
            have d0 : w15.cell? ⟨w14.heap.size, 0, none⟩ = some (.string cc.1) := BC2.out.cell' rfl
            have d1 : w15.cell? ⟨w14.heap.size, 1, none⟩ = some (.int .i64 cc.2) := BC2.out.cell' rfl
            have h1 : w15.cell? ⟨w5.heap.size, 1, none⟩ = some (.int .i64 l.2) := BH.out.cell' rfl
            have h2 : w15.cell? ⟨w5.heap.size, 2, none⟩ = some (.string q.1) := BH.out.cell' rfl
            go_wp2_with fail
            refine (awake8 _).mono ?_
            rintro e w9 ⟨rfl, hf9⟩
            have F9 := hid_ hf9
            clear hf9
            go_wp2_with fail
            go_ret
            exact ⟨rfl, (F.out).then_none F9.out⟩
theorem drops8_walk_i {H : Type} {enc : TypeId × Value → H} (A : Option Addr) (n cap : Nat) (hc : n ≤ cap) (hm : cap ≤ maxLen) (page : Int) (key : ByteArray) (hk : key.size ≤ reachBytes) (w : World) (h : RecordAt enc w A n) :
    Calls Try.prog 4 #[.slice A n cap, .int .i64 page, .string key] w fun e w' => e = .returned (.bool true) ∧ Fr none_ w w' := by
  obtain ⟨L, hL⟩ := ins_of h
  exact drops8_walk A n cap L page key (szOk_of hk) w hL (by omega)
end Go.Proofs.Ytphlfocdljihlaa

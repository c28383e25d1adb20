/- InnerOne's walk. Written by gen_one8.py. -/
import Derived.Test.YtphlfocdljihlaaPre8
namespace Go.Proofs.Ytphlfocdljihlaa
open Go.RowKit Go.BigFrame Go.ChangeShapes Go.WideShapes
set_option maxRecDepth 100000
set_option linter.unusedVariables false

set_option maxHeartbeats 8000000 in
theorem one8_walk (A : Option Addr) (n cap : Nat) (L : List Ch) (key : ByteArray) (page : Int) (hks : SzOk key) (w : World) (h : InReads w A n L) (hm : n ≤ maxLen) :
    Calls Try.prog 7 #[.slice A n cap, .string key, .int .i64 page] w fun e w' => e = .returned (.bool true) ∧ Fr none_ w w' := by
  obtain ⟨i0, hi0, hz0, hs0, hb0⟩ := info_parts record_info
  have Hi := hid_ (And.intro hi0 (And.intro hz0 (And.intro hs0 hb0)))
  clear hi0 hz0 hs0 hb0
  obtain rfl : L.length = n := h.1
  have H := hid_ h
  have H0 := H
  have F := hid_ (Fr.refl none_ w)
  clear h
  go_enter Try.func7, Try.ntmps7
  go_wp2_with fail
  refine (few8_ok A L.length cap L _ H.out hm).mono ?_
  rintro e w1 ⟨b, rfl, hb, hf1⟩
  have HB := hid_ hb
  replace H := hid_ (H.out.keep hf1)
  replace F := hid_ (F.out.then_none hf1)
  clear hb hf1
  cases b with
  | false =>
    go_wp2_with fail
    refine (awake8 _).mono ?_
    rintro e w9 ⟨rfl, hf9⟩
    have F9 := hid_ hf9
    clear hf9
    go_wp2_with fail
    go_ret
    exact ⟨rfl, (F.out).then_none F9.out⟩
  | true =>
    have hfo := HB.out (by first | rfl | trivial)
    have h40 := hfo.1
    have HE := hid_ (few_ents hfo)
    clear hfo HB
    by_cases hg : (100 : Int) < (key.size : Int)
    · have hd : decide ((100 : Int) < (key.size : Int)) = true := by simpa using hg
      clear hg
      go_wp2_with fail
      refine (awake8 _).mono ?_
      rintro e w9 ⟨rfl, hf9⟩
      have F9 := hid_ hf9
      clear hf9
      go_wp2_with fail
      go_ret
      exact ⟨rfl, (F.out).then_none F9.out⟩
    have hd : decide ((100 : Int) < (key.size : Int)) = false := by simpa using hg
    clear hg
    go_wp2_with fail
    refine (own8_ok A L.length cap L _ (H.out.few HE.out) (by omega) (in_rows H.out)).mono ?_
    rintro e w2 ⟨A2, c2, Cs, rfl, hCs, hown, hco, hf2⟩
    have CR := hid_ (And.intro hown hco)
    have HM := hid_ hCs
    replace H := hid_ (H.out.keep hf2)
    replace F := hid_ (F.out.then_none hf2)
    clear hCs hown hco hf2
    have HCE := hid_ (map_ents HM.out HE.out)
    go_wp2_with fail
    refine (fold_ok A2 L.length c2 Cs _ (own_ch HM.out CR.out) (by omega) (fun C hC => by have := HCE.out C hC; omega)).mono ?_
    rintro e w3 (⟨V, A3, c3, hkk, hfo, rfl, hvin, hheld, hf3⟩ | ⟨k, hk, hno, rfl, hf3⟩)
    rotate_left
    · skip
      replace H := hid_ (H.out.keep hf3)
      replace F := hid_ (F.out.then_none hf3)
      replace CR := hid_ (And.intro (own_none CR.out.1 hf3) (fun C hC => (CR.out.2 C hC).keep hf3))
      clear hf3 hno
      go_wp2_with fail
      refine (awake8 _).mono ?_
      rintro e w9 ⟨rfl, hf9⟩
      have F9 := hid_ hf9
      clear hf9
      go_wp2_with fail
      go_ret
      exact ⟨rfl, (F.out.alloc _).then_none F9.out⟩
    have hlen : V.ents.length ≤ 140 := by
      have h1 := fold_len (b := 100) hfo (fun R hR => by
        obtain ⟨C, hC, rfl⟩ := List.mem_map.1 hR
        exact HCE.out C hC)
      have h2 := congrArg List.length HM.out
      simp only [List.length_map] at h1 h2
      omega
    have G := hid_ (fold_good hfo)
    have HFO := hid_ (And.intro hkk hfo)
    have VI := hid_ hvin
    replace H := hid_ (H.out.keep hf3)
    replace F := hid_ (F.out.then_none hf3)
    replace CR := hid_ (And.intro (own_none CR.out.1 hf3) (fun C hC => (CR.out.2 C hC).keep hf3))
    have hsz := F.out.size
    have HSZ := hid_ hsz
    clear hsz hfo hkk hheld hvin hf3
    have VI0 := VI
    have FV := hid_ (Fr.refl none_ w3)
    clear CR
    go_upto_region 4 with fail
    obtain ⟨w4, hw4⟩ : ∃ z, z = w3.alloc (.cells (vwA V (.slice A3 V.ents.length c3)) 29) := ⟨_, rfl⟩
    have fw4 : Fr none_ w3 w4 := by rw [hw4]; exact (Fr.refl none_ w3).alloc _
    have BV : Hid (Blk w4 w3.heap.size 29 (vwA V (.slice A3 V.ents.length c3))) := hid_ (by rw [hw4]; exact Blk.new w3 _ _)
    replace H := hid_ (H.out.keep fw4)
    replace F := hid_ (F.out.then_none fw4)
    replace VI := hid_ (VI.out.keep fw4)
    replace FV := hid_ (FV.out.then_none fw4)
    change Code.wp _ _ _ _ (w3.alloc (.cells (vwA V (.slice A3 V.ents.length c3)) 29))
    rw [← hw4]
    clear hw4 fw4
    have v0 : w4.cell? ⟨w3.heap.size, 0, none⟩ = some (.string V.low) := BV.out.cell' rfl
    have v1 : w4.cell? ⟨w3.heap.size, 1, none⟩ = some (.string V.high) := BV.out.cell' rfl
    have v2 : w4.cell? ⟨w3.heap.size, 2, none⟩ = some (.bool V.unb) := BV.out.cell' rfl
    have v3 : w4.cell? ⟨w3.heap.size, 3, none⟩ = some (.int .i64 V.right) := BV.out.cell' rfl
    have v4 : w4.cell? ⟨w3.heap.size, 4, none⟩ = some (.slice A3 V.ents.length c3) := BV.out.cell' rfl
    have v5 : w4.cell? ⟨w3.heap.size, 5, none⟩ = some (.bool V.held) := BV.out.cell' rfl
    have v6 : w4.cell? ⟨w3.heap.size, 6, none⟩ = some (.int .i64 V.hp) := BV.out.cell' rfl
    have v7 : w4.cell? ⟨w3.heap.size, 7, none⟩ = some (.int .i64 V.hl) := BV.out.cell' rfl
    have v8 : w4.cell? ⟨w3.heap.size, 8, none⟩ = some (.string V.hk) := BV.out.cell' rfl
    go_wp2_with fail
    refine (child_ok V A3 c3 key _ VI.out hks).mono ?_
    rintro e w5 ⟨(⟨cc, hch, rfl⟩ | ⟨hch, rfl⟩), hf5⟩
    rotate_left
    · skip
      replace H := hid_ (H.out.keep hf5)
      replace F := hid_ (F.out.then_none hf5)
      replace VI := hid_ (VI.out.keep hf5)
      replace FV := hid_ (FV.out.then_none hf5)
      replace BV := hid_ (BV.out.fr hf5 id)
      clear hf5 hch
      clear v0 v1 v2 v3 v4 v5 v6 v7 v8
      go_wp2_with fail
      refine (isF 2 2 _).mono ?_
      rintro e w6 ⟨rfl, rfl⟩
      go_wp2_with fail
      refine (awake8 _).mono ?_
      rintro e w9 ⟨rfl, hf9⟩
      have F9 := hid_ hf9
      clear hf9
      go_wp2_with fail
      go_ret
      exact ⟨rfl, (F.out.alloc _).then_none F9.out⟩
    replace H := hid_ (H.out.keep hf5)
    replace F := hid_ (F.out.then_none hf5)
    replace VI := hid_ (VI.out.keep hf5)
    replace FV := hid_ (FV.out.then_none hf5)
    replace BV := hid_ (BV.out.fr hf5 id)
    have HCH := hid_ hch
    clear hf5 hch
    clear v0 v1 v2 v3 v4 v5 v6 v7 v8
    go_upto_region 7 with fail
    obtain ⟨w6, hw6⟩ : ∃ z, z = w5.alloc (.cells #[.string cc.1, .int .i64 cc.2] 47) := ⟨_, rfl⟩
    have fw6 : Fr none_ w5 w6 := by rw [hw6]; exact (Fr.refl none_ w5).alloc _
    have BC : Hid (Blk w6 w5.heap.size 47 (#[.string cc.1, .int .i64 cc.2])) := hid_ (by rw [hw6]; exact Blk.new w5 _ _)
    replace H := hid_ (H.out.keep fw6)
    replace F := hid_ (F.out.then_none fw6)
    replace VI := hid_ (VI.out.keep fw6)
    replace FV := hid_ (FV.out.then_none fw6)
    replace BV := hid_ (BV.out.fr fw6 id)
    change Code.wp _ _ _ _ (w5.alloc (.cells #[.string cc.1, .int .i64 cc.2] 47))
    rw [← hw6]
    clear hw6 fw6
    have v0 : w6.cell? ⟨w3.heap.size, 0, none⟩ = some (.string V.low) := BV.out.cell' rfl
    have v1 : w6.cell? ⟨w3.heap.size, 1, none⟩ = some (.string V.high) := BV.out.cell' rfl
    have v2 : w6.cell? ⟨w3.heap.size, 2, none⟩ = some (.bool V.unb) := BV.out.cell' rfl
    have v3 : w6.cell? ⟨w3.heap.size, 3, none⟩ = some (.int .i64 V.right) := BV.out.cell' rfl
    have v4 : w6.cell? ⟨w3.heap.size, 4, none⟩ = some (.slice A3 V.ents.length c3) := BV.out.cell' rfl
    have v5 : w6.cell? ⟨w3.heap.size, 5, none⟩ = some (.bool V.held) := BV.out.cell' rfl
    have v6 : w6.cell? ⟨w3.heap.size, 6, none⟩ = some (.int .i64 V.hp) := BV.out.cell' rfl
    have v7 : w6.cell? ⟨w3.heap.size, 7, none⟩ = some (.int .i64 V.hl) := BV.out.cell' rfl
    have v8 : w6.cell? ⟨w3.heap.size, 8, none⟩ = some (.string V.hk) := BV.out.cell' rfl
    have c0 : w6.cell? ⟨w5.heap.size, 0, none⟩ = some (.string cc.1) := BC.out.cell' rfl
    have c1 : w6.cell? ⟨w5.heap.size, 1, none⟩ = some (.int .i64 cc.2) := BC.out.cell' rfl
    have hsc : SzOk cc.1 := by
      obtain ⟨i, hi⟩ := G.out.s.child_at HCH.out
      exact VI.out.ok.ents.2 cc (List.mem_of_getElem? hi.1)
    have HSC := hid_ hsc
    clear hsc
    go_wp2_with fail
    refine (has_ok V A3 c3 cc.1 _ VI.out HSC.out).mono ?_
    rintro e w7 ⟨rfl, hf7⟩
    rw [one_has G.out.s HCH.out]
    replace H := hid_ (H.out.keep hf7)
    replace F := hid_ (F.out.then_none hf7)
    replace VI := hid_ (VI.out.keep hf7)
    replace FV := hid_ (FV.out.then_none hf7)
    replace BV := hid_ (BV.out.fr hf7 id)
    replace BC := hid_ (BC.out.fr hf7 id)
    clear hf7
    clear v0 v1 v2 v3 v4 v5 v6 v7 v8
    clear c0 c1
    go_wp2_with fail
    have n1 := BV.out.lt
    have n2 := BC.out.lt
    have n3 := FV.out.size
    obtain ⟨w8, hw8⟩ : ∃ z, z = w7.alloc (.cells (recL ⟨putR key page, none, 0, none, 0⟩).toArray 39) := ⟨_, rfl⟩
    have fw8 : Fr none_ w7 w8 := by rw [hw8]; exact (Fr.refl none_ w7).alloc _
    have BP : Hid (Blk w8 w7.heap.size 39 ((recL ⟨putR key page, none, 0, none, 0⟩).toArray)) := hid_ (by rw [hw8]; exact Blk.new w7 _ _)
    replace H := hid_ (H.out.keep fw8)
    replace F := hid_ (F.out.then_none fw8)
    replace VI := hid_ (VI.out.keep fw8)
    replace FV := hid_ (FV.out.then_none fw8)
    replace BV := hid_ (BV.out.fr fw8 id)
    replace BC := hid_ (BC.out.fr fw8 id)
    change Calls _ _ _ (w7.alloc (.cells (recL ⟨putR key page, none, 0, none, 0⟩).toArray 39)) _
    rw [← hw8]
    clear hw8 fw8
    refine (own8_ok A L.length cap L _ (H.out.few HE.out) (by omega) (in_rows H.out)).mono ?_
    rintro e wpa ⟨Ap, cp, Dsp, rfl, hCs, hown, hco, hf2⟩
    have DRp := hid_ (And.intro hown hco)
    have DMp := hid_ hCs
    replace H := hid_ (H.out.keep hf2)
    replace F := hid_ (F.out.then_none hf2)
    replace VI := hid_ (VI.out.keep hf2)
    replace FV := hid_ (FV.out.then_none hf2)
    replace BV := hid_ (BV.out.fr hf2 id)
    replace BC := hid_ (BC.out.fr hf2 id)
    replace BP := hid_ (BP.out.fr hf2 id)
    clear hCs hown hco hf2
    go_wp2_with (at_builtin; refine wpList_append_any _ rfl (.tmp 55) (.tmp 57) 22 rfl 0 39 i0 _ 15 192 Try.underlying22 Hi.out.1 Hi.out.2.1 Hi.out.2.2.1 Hi.out.2.2.2 rfl (by omega) (.slice (some ⟨w7.heap.size, 0, none⟩) 1 1) 1 (recL ⟨putR key page, none, 0, none, 0⟩) rfl (own_rec BP.out) Ap L.length cp (recFlat Dsp) rfl (Reads.of_own DRp.out.1) (recFlat_one _) (by simp only [maxLen]; omega) (by omega) (Nat.zero_le _) ?_; intro Apb cpb wpb hownpb hgrpb)
    obtain ⟨hchp, hfbp⟩ := push_chain DMp.out rfl BP.out DRp.out hownpb hgrpb (bare_ok rfl rfl SzOk.nil SzOk.nil hks SzOk.nil)
    have CHp := hid_ hchp
    replace BV := hid_ (BV.out.fr hfbp (only_ne (by omega)))
    replace BC := hid_ (BC.out.fr hfbp (only_ne (by omega)))
    replace FV := hid_ (FV.out.then_only hfbp (.inr (by omega)))
    replace F := hid_ (F.out.then_only hfbp (.inr (by have := HSZ.out; omega)))
    replace VI := hid_ (VI0.out.keep FV.out)
    replace H := hid_ (H0.out.keep F.out)
    clear hchp hfbp hownpb hgrpb DRp BP
    refine (fold_ok Apb (1 + L.length) cpb (⟨putR key page, none, 0, none, 0⟩ :: Dsp) _ CHp.out (by omega) (ents_push DMp.out HE.out (Nat.zero_le _))).mono ?_
    have hpf : foldU ((⟨putR key page, none, 0, none, 0⟩ :: Dsp).map (·.R)) = upM V (putR key page) := fold_push_of HM.out DMp.out HFO.out.2 _
    rw [List.map_cons] at hpf
    have HPFp := hid_ hpf
    clear hpf CHp
    rintro e wpc (⟨Wp, Apc, cpc, -, hfo, rfl, hvin, -, hfp⟩ | ⟨kp, -, hno, rfl, hfp⟩)
    rotate_left
    · have hup : upM V (putR key page) = none := by
        rw [← HPFp.out]
        exact hno (kind_push HM.out DMp.out HFO.out.1 ⟨by show (7 : Int) ≤ 8; decide, by show (8 : Int) ≤ 11; decide⟩ rfl)
      have hbad : atB V.ents key = true ∨ V.held = true := by
        cases ha : atB V.ents key with
        | true => exact .inl rfl
        | false =>
          cases hh : V.held with
          | true => exact .inr rfl
          | false =>
            obtain ⟨W, hW, _⟩ := one_put (page := page) G.out.s HCH.out ha hh
            rw [hup] at hW
            cases hW
      replace H := hid_ (H.out.keep hfp)
      replace F := hid_ (F.out.then_none hfp)
      replace VI := hid_ (VI.out.keep hfp)
      replace FV := hid_ (FV.out.then_none hfp)
      replace BV := hid_ (BV.out.fr hfp id)
      replace BC := hid_ (BC.out.fr hfp id)
      have HBAD := hid_ hbad
      clear hno hup hfp hbad
      go_upto_region 12 with fail
      obtain ⟨w12, hw12⟩ : ∃ z, z = wpc.alloc (.cells (vwA Vw.zero (.slice none 0 0)) 29) := ⟨_, rfl⟩
      have fw12 : Fr none_ wpc w12 := by rw [hw12]; exact (Fr.refl none_ wpc).alloc _
      have BZ : Hid (Blk w12 wpc.heap.size 29 (vwA Vw.zero (.slice none 0 0))) := hid_ (by rw [hw12]; exact Blk.new wpc _ _)
      replace H := hid_ (H.out.keep fw12)
      replace F := hid_ (F.out.then_none fw12)
      replace VI := hid_ (VI.out.keep fw12)
      replace FV := hid_ (FV.out.then_none fw12)
      replace BV := hid_ (BV.out.fr fw12 id)
      replace BC := hid_ (BC.out.fr fw12 id)
      change Code.wp _ _ _ _ (wpc.alloc (.cells (vwA Vw.zero (.slice none 0 0)) 29))
      rw [← hw12]
      clear hw12 fw12
      have v0 : w12.cell? ⟨w3.heap.size, 0, none⟩ = some (.string V.low) := BV.out.cell' rfl
      have v1 : w12.cell? ⟨w3.heap.size, 1, none⟩ = some (.string V.high) := BV.out.cell' rfl
      have v2 : w12.cell? ⟨w3.heap.size, 2, none⟩ = some (.bool V.unb) := BV.out.cell' rfl
      have v3 : w12.cell? ⟨w3.heap.size, 3, none⟩ = some (.int .i64 V.right) := BV.out.cell' rfl
      have v4 : w12.cell? ⟨w3.heap.size, 4, none⟩ = some (.slice A3 V.ents.length c3) := BV.out.cell' rfl
      have v5 : w12.cell? ⟨w3.heap.size, 5, none⟩ = some (.bool V.held) := BV.out.cell' rfl
      have v6 : w12.cell? ⟨w3.heap.size, 6, none⟩ = some (.int .i64 V.hp) := BV.out.cell' rfl
      have v7 : w12.cell? ⟨w3.heap.size, 7, none⟩ = some (.int .i64 V.hl) := BV.out.cell' rfl
      have v8 : w12.cell? ⟨w3.heap.size, 8, none⟩ = some (.string V.hk) := BV.out.cell' rfl
      go_wp2_with fail
      refine (has_ok V A3 c3 key _ VI.out hks).mono ?_
      rintro e w13 ⟨rfl, hf13⟩
      replace H := hid_ (H.out.keep hf13)
      replace F := hid_ (F.out.then_none hf13)
      replace VI := hid_ (VI.out.keep hf13)
      replace FV := hid_ (FV.out.then_none hf13)
      replace BV := hid_ (BV.out.fr hf13 id)
      replace BC := hid_ (BC.out.fr hf13 id)
      replace BZ := hid_ (BZ.out.fr hf13 id)
      clear hf13
      clear v0 v1 v2 v3 v4 v5 v6 v7 v8
      have v5 : w13.cell? ⟨w3.heap.size, 5, none⟩ = some (.bool V.held) := BV.out.cell' rfl
      have c0 : w13.cell? ⟨w5.heap.size, 0, none⟩ = some (.string cc.1) := BC.out.cell' rfl
      cases hh : V.held with
      | true =>
        cases ha : atB V.ents key with
        | true =>
          rw [hh] at v5
          clear hh ha
          go_wp2_with fail
          refine (awake8 _).mono ?_
          rintro e w9 ⟨rfl, hf9⟩
          have F9 := hid_ hf9
          clear hf9
          go_wp2_with fail
          go_ret
          exact ⟨rfl, (F.out).then_none F9.out⟩
        | false =>
          rw [hh] at v5
          clear hh ha
          go_wp2_with fail
          refine (awake8 _).mono ?_
          rintro e w9 ⟨rfl, hf9⟩
          have F9 := hid_ hf9
          clear hf9
          go_wp2_with fail
          go_ret
          exact ⟨rfl, (F.out).then_none F9.out⟩
      | false =>
        have ha : atB V.ents key = true := by
          rcases HBAD.out with h | h
          · exact h
          · rw [hh] at h; cases h
        have hck := one_self G.out.s HCH.out ha
        have hs : (cc.1.toList == key.toList) = true := by rw [hck]; simp
        rw [ha]
        rw [hh] at v5
        clear hh ha hck
        go_wp2_with fail
        refine (awake8 _).mono ?_
        rintro e w9 ⟨rfl, hf9⟩
        have F9 := hid_ hf9
        clear hf9
        go_wp2_with fail
        go_ret
        exact ⟨rfl, (F.out).then_none F9.out⟩
    have hup : upM V (putR key page) = some Wp := by rw [← HPFp.out]; exact hfo
    have ha : atB V.ents key = false := by
      cases ha : atB V.ents key with
      | false => rfl
      | true => rw [one_no (.inl ha)] at hup; cases hup
    have hh : V.held = false := by
      cases hh : V.held with
      | false => rfl
      | true => rw [one_no (.inr hh)] at hup; cases hup
    obtain ⟨W', hW', hlw, hcw⟩ := one_put (page := page) G.out.s HCH.out ha hh
    obtain rfl : Wp = W' := Option.some.inj (hup.symm.trans hW')
    have HW := hid_ (And.intro hlw hcw)
    have WI := hid_ hvin
    have HA := hid_ (And.intro ha hh)
    replace H := hid_ (H.out.keep hfp)
    replace F := hid_ (F.out.then_none hfp)
    replace VI := hid_ (VI.out.keep hfp)
    replace FV := hid_ (FV.out.then_none hfp)
    replace BV := hid_ (BV.out.fr hfp id)
    replace BC := hid_ (BC.out.fr hfp id)
    clear hfo hup ha hh hW' hlw hcw hvin hfp
    go_upto_region 12 with fail
    obtain ⟨w12, hw12⟩ : ∃ z, z = wpc.alloc (.cells (vwA Wp (.slice Apc Wp.ents.length cpc)) 29) := ⟨_, rfl⟩
    have fw12 : Fr none_ wpc w12 := by rw [hw12]; exact (Fr.refl none_ wpc).alloc _
    have BW : Hid (Blk w12 wpc.heap.size 29 (vwA Wp (.slice Apc Wp.ents.length cpc))) := hid_ (by rw [hw12]; exact Blk.new wpc _ _)
    replace H := hid_ (H.out.keep fw12)
    replace F := hid_ (F.out.then_none fw12)
    replace VI := hid_ (VI.out.keep fw12)
    replace FV := hid_ (FV.out.then_none fw12)
    replace BV := hid_ (BV.out.fr fw12 id)
    replace BC := hid_ (BC.out.fr fw12 id)
    replace WI := hid_ (WI.out.keep fw12)
    change Code.wp _ _ _ _ (wpc.alloc (.cells (vwA Wp (.slice Apc Wp.ents.length cpc)) 29))
    rw [← hw12]
    clear hw12 fw12
    have v0 : w12.cell? ⟨w3.heap.size, 0, none⟩ = some (.string V.low) := BV.out.cell' rfl
    have v1 : w12.cell? ⟨w3.heap.size, 1, none⟩ = some (.string V.high) := BV.out.cell' rfl
    have v2 : w12.cell? ⟨w3.heap.size, 2, none⟩ = some (.bool V.unb) := BV.out.cell' rfl
    have v3 : w12.cell? ⟨w3.heap.size, 3, none⟩ = some (.int .i64 V.right) := BV.out.cell' rfl
    have v4 : w12.cell? ⟨w3.heap.size, 4, none⟩ = some (.slice A3 V.ents.length c3) := BV.out.cell' rfl
    have v5 : w12.cell? ⟨w3.heap.size, 5, none⟩ = some (.bool V.held) := BV.out.cell' rfl
    have v6 : w12.cell? ⟨w3.heap.size, 6, none⟩ = some (.int .i64 V.hp) := BV.out.cell' rfl
    have v7 : w12.cell? ⟨w3.heap.size, 7, none⟩ = some (.int .i64 V.hl) := BV.out.cell' rfl
    have v8 : w12.cell? ⟨w3.heap.size, 8, none⟩ = some (.string V.hk) := BV.out.cell' rfl
    go_wp2_with fail
    refine (has_ok V A3 c3 key _ VI.out hks).mono ?_
    rintro e w13 ⟨rfl, hf13⟩
    rw [HA.out.1]
    replace H := hid_ (H.out.keep hf13)
    replace F := hid_ (F.out.then_none hf13)
    replace VI := hid_ (VI.out.keep hf13)
    replace FV := hid_ (FV.out.then_none hf13)
    replace BV := hid_ (BV.out.fr hf13 id)
    replace BC := hid_ (BC.out.fr hf13 id)
    replace WI := hid_ (WI.out.keep hf13)
    replace BW := hid_ (BW.out.fr hf13 id)
    clear hf13
    clear v0 v1 v2 v3 v4 v5 v6 v7 v8
    have v5 : w13.cell? ⟨w3.heap.size, 5, none⟩ = some (.bool V.held) := BV.out.cell' rfl
    rw [HA.out.2] at v5
    have y0 : w13.cell? ⟨wpc.heap.size, 0, none⟩ = some (.string Wp.low) := BW.out.cell' rfl
    have y1 : w13.cell? ⟨wpc.heap.size, 1, none⟩ = some (.string Wp.high) := BW.out.cell' rfl
    have y2 : w13.cell? ⟨wpc.heap.size, 2, none⟩ = some (.bool Wp.unb) := BW.out.cell' rfl
    have y3 : w13.cell? ⟨wpc.heap.size, 3, none⟩ = some (.int .i64 Wp.right) := BW.out.cell' rfl
    have y4 : w13.cell? ⟨wpc.heap.size, 4, none⟩ = some (.slice Apc Wp.ents.length cpc) := BW.out.cell' rfl
    have y5 : w13.cell? ⟨wpc.heap.size, 5, none⟩ = some (.bool Wp.held) := BW.out.cell' rfl
    have y6 : w13.cell? ⟨wpc.heap.size, 6, none⟩ = some (.int .i64 Wp.hp) := BW.out.cell' rfl
    have y7 : w13.cell? ⟨wpc.heap.size, 7, none⟩ = some (.int .i64 Wp.hl) := BW.out.cell' rfl
    have y8 : w13.cell? ⟨wpc.heap.size, 8, none⟩ = some (.string Wp.hk) := BW.out.cell' rfl
    go_wp2_with fail
    refine (child_ok Wp Apc cpc key _ WI.out hks).mono ?_
    rintro e w14 ⟨(⟨d, hd2, rfl⟩ | ⟨hd2, rfl⟩), hf14⟩
    rotate_left
    · rw [HW.out.2] at hd2; cases hd2
    obtain rfl : (key, page) = d := Option.some.inj (HW.out.2.symm.trans hd2)
    replace H := hid_ (H.out.keep hf14)
    replace F := hid_ (F.out.then_none hf14)
    replace VI := hid_ (VI.out.keep hf14)
    replace FV := hid_ (FV.out.then_none hf14)
    replace BV := hid_ (BV.out.fr hf14 id)
    replace BC := hid_ (BC.out.fr hf14 id)
    replace WI := hid_ (WI.out.keep hf14)
    replace BW := hid_ (BW.out.fr hf14 id)
    clear hf14 hd2 v5
    clear y0 y1 y2 y3 y4 y5 y6 y7 y8
    go_upto_region 15 with fail
    obtain ⟨w15, hw15⟩ : ∃ z, z = w14.alloc (.cells #[.string key, .int .i64 page] 47) := ⟨_, rfl⟩
    have fw15 : Fr none_ w14 w15 := by rw [hw15]; exact (Fr.refl none_ w14).alloc _
    have BD : Hid (Blk w15 w14.heap.size 47 (#[.string key, .int .i64 page])) := hid_ (by rw [hw15]; exact Blk.new w14 _ _)
    replace H := hid_ (H.out.keep fw15)
    replace F := hid_ (F.out.then_none fw15)
    replace VI := hid_ (VI.out.keep fw15)
    replace FV := hid_ (FV.out.then_none fw15)
    replace BV := hid_ (BV.out.fr fw15 id)
    replace BC := hid_ (BC.out.fr fw15 id)
    replace WI := hid_ (WI.out.keep fw15)
    replace BW := hid_ (BW.out.fr fw15 id)
    change Code.wp _ _ _ _ (w14.alloc (.cells #[.string key, .int .i64 page] 47))
    rw [← hw15]
    clear hw15 fw15
    have d0 : w15.cell? ⟨w14.heap.size, 0, none⟩ = some (.string key) := BD.out.cell' rfl
    have d1 : w15.cell? ⟨w14.heap.size, 1, none⟩ = some (.int .i64 page) := BD.out.cell' rfl
    have y4 : w15.cell? ⟨wpc.heap.size, 4, none⟩ = some (.slice Apc Wp.ents.length cpc) := BW.out.cell' rfl
    have v4 : w15.cell? ⟨w3.heap.size, 4, none⟩ = some (.slice A3 V.ents.length c3) := BV.out.cell' rfl
    have hlen2 : ((Wp.ents.length : Int) == (V.ents.length : Int) + 1) = true := by have := HW.out.1; simp; omega
    go_wp2_with fail
    refine (awake8 _).mono ?_
    rintro e w9 ⟨rfl, hf9⟩
    have F9 := hid_ hf9
    clear hf9
    go_wp2_with fail
    go_ret
    exact ⟨rfl, (F.out).then_none F9.out⟩
theorem one8_walk_i {H : Type} {enc : TypeId × Value → H} (A : Option Addr) (n cap : Nat) (hc : n ≤ cap) (hm : cap ≤ maxLen) (key : ByteArray) (hk : key.size ≤ reachBytes) (page : Int) (w : World) (h : RecordAt enc w A n) :
    Calls Try.prog 7 #[.slice A n cap, .string key, .int .i64 page] w fun e w' => e = .returned (.bool true) ∧ Fr none_ w w' := by
  obtain ⟨L, hL⟩ := ins_of h
  exact one8_walk A n cap L key page (szOk_of hk) w hL (by omega)
end Go.Proofs.Ytphlfocdljihlaa

/- ArenaCopies' walk. Written by gen_copiesa4.py. -/
import Derived.Test.YtfoljojacakkeaaDoorTwoB4
namespace Go.Proofs.YtfoljojacakkeaaDoor
open Go.RowKit Go.ChangeShapes Go.WideShapes
set_option maxRecDepth 100000
set_option linter.unusedVariables false
set_option maxHeartbeats 16000000 in
theorem copiesa4_walk (slots last : Int) (A : Option Addr) (n cap : Nat) (hc : n ≤ cap) (hm : cap ≤ maxLen) (gv : Nat) (hgv : gv < 256) (L : List Dn) (w : World) (h : DnReads w A n L) (hLd : Laid w) :
    Calls Tryd.prog 4 #[.int .i64 slots, .int .i64 last, .slice A n cap, .int .u8 gv] w fun e w' => e = .returned (.bool true) ∧ Fr none_ w w' := by
  unfold maxLen at hm
  have H := hid_ h
  have HLd := hid_ hLd
  have hln := h.1
  have HM : Hid (n ≤ maxLen) := hid_ (by unfold maxLen; omega)
  clear h hLd
  obtain ⟨m, hmd⟩ : ∃ m, m = gv % (n + 1) := ⟨_, rfl⟩
  have hmn : m ≤ n := by rw [hmd]; have := Nat.mod_lt gv (show 0 < n + 1 by omega); omega
  have hmI : (gv : Int) % ((n : Int) + 1) = (m : Int) := by rw [hmd]; push_cast; rfl
  have hbd : 0 ≤ (gv : Int) % ((n : Int) + 1) ∧ (gv : Int) % ((n : Int) + 1) ≤ (cap : Int) := by omega
  have HMI := hid_ hmI
  have HMD := hid_ hmd
  clear hmI hmd
  go_enter Tryd.func4, Tryd.ntmps4
  go_wp2_with fail
  refine (few4_ok slots A n cap L w H.out HM.out).mono ?_
  rintro e w1 ⟨b, rfl, hb, hf1⟩
  have F1 := hid_ hf1
  clear hf1
  cases b with
  | false =>
    go_wp2_with fail
    refine (awake4 _).mono ?_
    rintro e w2 ⟨rfl, hf2⟩
    go_wp2
    go_ret
    exact ⟨rfl, F1.out.then_none hf2⟩
  | true =>
  obtain ⟨q1, -, hq⟩ := hb rfl
  have HQ := hid_ hq
  clear hq hb
  cases hok : newOk slots last with
  | false =>
    have hno : slots < 1 ∨ 4096 < slots ∨ last < 1 ∨ 1099511627776 < last := by
      rcases Classical.em (1 ≤ slots ∧ slots ≤ 4096 ∧ 1 ≤ last ∧ last ≤ 1099511627776) with h | h
      · rw [newOk_iff.2 h] at hok; cases hok
      · omega
    have hnv : newV slots last = raV 0 0 [] none 0 := by unfold newV; rw [if_neg (by rw [hok]; decide)]
    have HOK := hid_ (And.intro hok hnv)
    go_wp2_with fail
    refine (arNew_no slots last w1 hno).mono ?_
    rintro e w2 ⟨rfl, rfl⟩
    clear hok hnv hno
    go_wp2_with fail
    refine (rnew_ok slots last w1).mono ?_
    rintro e w3 ⟨rfl, hf3⟩
    rw [HOK.out.1, HOK.out.2]
    go_wp2_with fail
    refine (arCopy_nil _).mono ?_
    rintro e w4 ⟨rfl, hf4⟩
    go_wp2_with fail
    refine (awake4 _).mono ?_
    rintro e w5 ⟨rfl, hf5⟩
    go_wp2
    go_ret
    exact ⟨rfl, (((F1.out.then_none hf3).alloc _).then_none hf4).then_none hf5⟩
  | true =>
    obtain ⟨o1, o2, o3, o4⟩ := newOk_iff.1 hok
    obtain ⟨N, rfl⟩ : ∃ N : Nat, slots = N := ⟨slots.toNat, by omega⟩
    have hnv : newV N last = raV N last [] none 0 := by unfold newV; rw [if_pos hok]
    have HOK := hid_ (And.intro hok hnv)
    clear hok hnv
    go_wp2_with fail
    refine (arNew_ok N last w1 (by omega) (by omega) o3 o4).mono ?_
    rintro e w2 ⟨a, G, rfl, hA2, hf2, ha, hG⟩
    have K2 := hid_ hA2
    have F2 := hid_ (F1.out.then_none hf2)
    have hG0 : w.heap.size ≤ G := Nat.le_trans F1.out.size hG
    have hG2 := hA2.ltG
    have hw0 := HLd.out.lt
    clear hA2 hf2 ha hG
    go_wp2_with fail
    refine (rnew_ok N last w2).mono ?_
    rintro e w3 ⟨rfl, hf3⟩
    rw [HOK.out.1, HOK.out.2]
    have h23 := hf3.size
    go_upto_region 5 with fail
    obtain ⟨w4, hw4⟩ : ∃ z, z = w3.alloc (.cells (raA N last [] none 0) 29) := ⟨_, rfl⟩
    have f4 : Fr none_ w3 w4 := by rw [hw4]; exact (Fr.refl none_ w3).alloc _
    have B8 : Hid (Blk w4 w3.heap.size 29 (raA N last [] none 0)) := hid_ (by rw [hw4]; exact Blk.new w3 _ _)
    change Code.wp _ _ _ _ (w3.alloc (.cells (raA N last [] none 0) 29))
    rw [← hw4]
    clear hw4
    have F4 : Hid (Fr none_ w w4) := hid_ ((F2.out.then_none hf3).then_none f4)
    have P0 : Hid (P4 w w4 (fun b => b = w3.heap.size ∨ b = G) a G N last w3.heap.size (List.replicate N Sl.zero) [] none 0 0) := hid_ ⟨B8.out, ((PlA.start K2.out).keep hf3).keep f4, Nat.le_refl _, (fun p hp => by cases hp), (fun p hp => by cases hp), (fun ad e => by cases e), F4.out⟩
    have h8 : w.heap.size ≤ w3.heap.size := (F2.out.then_none hf3).size
    clear f4 hf3 K2 F2 F1 B8
    go_wp2_with fail
    simp only [HMI.out, ← HMD.out]
    clear hbd
    go_loopw [65] (fun i wr => ∃ k ss LL A2 c2, k ≤ m ∧ i = .int .i64 ((k : Nat) : Int) ∧ P4 w wr (fun b => b = w3.heap.size ∨ b = G) a G N last w3.heap.size ss LL A2 c2 k) (fun i _ => m - (intOf i).toNat)
    case atStart => exact ⟨0, _, [], none, 0, Nat.zero_le _, rfl, P0.out⟩
    case round =>
      obtain ⟨k, ss, LL, A2, c2, hk, rfl, hS⟩ := hrel
      have PP := hid_ hS
      have hb8 := hS.b.lt
      have hgl := hS.pl.ar.ltG
      have hll0 := hS.hl
      clear hS
      by_cases hlt : k < m
      · have hi0 : (0 : Int) ≤ (k : Int) := Int.natCast_nonneg _
        have hi1 : (k : Int) < (m : Int) := by omega
        obtain ⟨D, hD⟩ : ∃ D, L[k]? = some D := ⟨_, List.getElem?_eq_getElem (by omega)⟩
        obtain ⟨b, off, rfl, hb, hR, hO⟩ := (H.out.keep PP.out.fr).at_ hD
        have hlow : (∀ ad, D.A = some ad → 0 < D.R.rows.length → ad.block < w.heap.size) ∧ (∀ ad, D.B = some ad → 0 < D.R.ents.length → ad.block < w.heap.size) := by
          obtain ⟨_, _, _, _, _, hO0⟩ := H.out.at_ hD
          exact hO0.rd.low
        have hz := HQ.out k D hD
        have HR := hid_ hR
        have HO := hid_ hO
        have HLW := hid_ hlow
        clear hR hO hD hlow
        go_upto_region 11 with (first | (refine wpList_load_mid rfl 42 (.tmp 67) rfl b (off + k * 20) rfl (doL D) _ HR.out Tryd.underlying42 rfl do_size ?_) | (refine wpList_store_mid rfl 42 (.tmp 14) (.tmp 68) rfl wr.heap.size 0 (doL D).toArray rfl rfl (new_there wr _ doZ) do_size (do_one D) ?_; obtain ⟨w5, hw⟩ : ∃ z, z = (wr.alloc (.cells doZ 42)).setCells wr.heap.size 0 (doL D) := ⟨_, rfl⟩; change wpList _ _ _ _ _ ((wr.alloc (.cells doZ 42)).setCells wr.heap.size 0 (doL D)); rw [← hw]; have X5 : Hid (Blk w5 wr.heap.size 42 (doL D).toArray ∧ Fr none_ wr w5) := hid_ (by rw [hw]; exact new_copy wr _ doZ _ rfl); clear hw))
        have P5 := hid_ (PP.out.keep X5.out.2)
        have hoff5 : ∀ x, (x = w3.heap.size ∨ x = G) → x < w5.heap.size := fun x hx => by have := X5.out.2.size; omega
        have v0 : w5.cell? ⟨w3.heap.size, 0, none⟩ = some (.int .i64 N) := P5.out.b.cell' rfl
        have v1 : w5.cell? ⟨w3.heap.size, 1, none⟩ = some (.int .i64 last) := P5.out.b.cell' rfl
        have v2 : w5.cell? ⟨w3.heap.size, 2, none⟩ = some (.slice A2 LL.length c2) := P5.out.b.cell' rfl
        go_wp2_with (refine wpList_load_mid rfl 42 (.tmp 14) rfl wr.heap.size 0 rfl (doL D) _ (Blk.range4 (cs := doL D) X5.out.1) Tryd.underlying42 rfl do_size ?_)
        refine (does_ok a G N last ss LL A2 c2 D [] 0 none w5 P5.out.pl (HLd.out.fr P5.out.fr id) (by omega) Reads.nil_ (Nat.zero_le _) (HO.out.keep X5.out.2) ⟨fun ad e hn => by have := HLW.out.1 ad e hn; omega, fun ad e hn => by have := HLW.out.2 ad e hn; omega⟩ ⟨by omega, by omega⟩ o1 o2 (by omega) P5.out.keys).mono ?_
        rintro e w6 ⟨ss', LL', A3, c3, x, y, rfl, hpl, hll, hfl, hfa, hf6⟩
        have hst := P5.out.step (D := D) HO.out.ks HLW.out hoff5 h8 (.inl rfl) hG0 hpl hll hfl hfa hf6
        have ST := hid_ (And.intro hst.1 hst.2.2)
        clear v0 v1 v2 hpl hll hfl hfa hf6 hst P5 X5 PP
        go_wp2_with (refine wpList_store_mid rfl 29 (.tmp 10) (.tmp 74) rfl w3.heap.size 0 (raA N last LL' A3 c3) rfl rfl ST.out.2 (by kernel_rfl) (by simp [Value.oneCell']) ?_; obtain ⟨w7, hw⟩ : ∃ z, z = w6.setCells w3.heap.size 0 (raA N last LL' A3 c3).toList := ⟨_, rfl⟩; change wpList _ _ _ _ _ (w6.setCells w3.heap.size 0 (raA N last LL' A3 c3).toList); rw [← hw]; have S9 := ST.out.1; rw [← hw] at S9; have HS9 := hid_ S9; clear hw S9)
        go_roundw
        case rel => exact ⟨k + 1, ss', LL', A3, c3, by omega, by go_num, HS9.out⟩
        case measure => simp [intOf]; omega
      · obtain rfl : k = m := by omega
        have hlv : (liveTo ss ss.length).length ≤ 5000 := by have h1 := (shown4 a G N last ss LL A2 c2 PP.out.pl).1; have h2 := rlive_le LL (N : Int).toNat; rw [h1] at h2; omega
        have hssl : 1 ≤ ss.length := by have := PP.out.pl.ns; omega
        obtain ⟨LX, hLX⟩ : ∃ z, z = liveTo ss ss.length := ⟨_, rfl⟩
        rw [← hLX] at hlv
        have HLX := hid_ hLX
        clear hLX
        have hwr := PP.out.fr.size
        go_upto_region 13 with fail
        go_cut [15, 16, 17] (fun u v x wq => ∃ a2 G2 B2 XA cx X, u = .pointer (some ⟨a2, 0, none⟩) ∧ v = .pointer (some ⟨B2, 0, none⟩) ∧ x = .slice XA (List.length X) cx ∧ Two4 w wq (fun x => (x = w3.heap.size ∨ x = G) ∨ x = G2 ∨ x = B2) N last a G w3.heap.size ss LL A2 c2 a2 G2 B2 ss LL A2 c2 k ∧ wq.ownsRow w.heap.size 38 2 x (List.length X) (rfFlat X) ∧ (List.length X) ≤ 5000)
        case first =>
          have hS : (fun w' : World => Blk w' w3.heap.size 29 (raA N last LL A2 c2)) wr.drew := PP.out.b.drew
          have FR0 : Hid (Fr none_ wr wr.drew) := hid_ (Fr.refl none_ wr).drew
          refine wp_region_u 9 (fun w' : World => Blk w' w3.heap.size 29 (raA N last LL A2 c2)) (by kernel_rfl) ?_
          refine u_take 0 (some 78) (.pointer (some ⟨a, 0, none⟩)) rfl rfl (by kernel_rfl) (by kernel_rfl) (by kernel_rfl) (by kernel_rfl) (fun _ _ _ h => h) (y_val (by kernel_rfl) (fun w' hS => by kernel_rfl)) hS ?_
          refine u_take 2 (some 80) (.agg (raA N last LL A2 c2)) rfl rfl (by kernel_rfl) (by kernel_rfl) (by kernel_rfl) (by kernel_rfl) (fun _ _ _ h => h) (yieldsIf_load_mid (by kernel_rfl) 29 (.tmp 10) rfl (w3.heap.size) 0 (by kernel_rfl) (raA N last LL A2 c2).toList _ (fun w' hS => Blk.range4 (cs := (raA N last LL A2 c2).toList) hS) Tryd.underlying29 rfl (by kernel_rfl)) hS ?_
          refine u_take 3 (some 81) (.pointer (some ⟨a, 0, none⟩)) rfl rfl (by kernel_rfl) (by kernel_rfl) (by kernel_rfl) (by kernel_rfl) (fun _ _ _ h => h) (y_val (by kernel_rfl) (fun w' hS => by kernel_rfl)) hS ?_
          clear hS
          refine u_two 1 5 (by kernel_rfl) ?_ ?_
          · refine i_callE 1 (some 79) 19 #[.pointer (some ⟨a, 0, none⟩)] (fun v w' => ∃ a2 G2, v = .pointer (some ⟨a2, 0, none⟩) ∧ Ar w' a2 G2 last ss ∧ Fr none_ wr.drew w' ∧ wr.drew.heap.size ≤ a2 ∧ wr.drew.heap.size ≤ G2) rfl rfl (by kernel_rfl) (by kernel_rfl) ((arCopy_ok a G last ss wr.drew hssl (PP.out.pl.ar.keep FR0.out)).mono (fun e w' h => by obtain ⟨a2, G2, h1, h2, h3, h4, h5⟩ := h; exact ⟨_, h1, a2, G2, rfl, h2, h3, h4, h5⟩)) ?_
            rintro v q1_1 ⟨a2, G2, rfl, ha2, hf, hl1, hl2⟩
            have FRq1_1 : Hid (Fr none_ wr q1_1) := hid_ (FR0.out.then_none hf)
            have CA := hid_ ha2
            have hg2 : wr.heap.size ≤ G2 := Nat.le_trans (FR0.out.size) hl2
            clear ha2 hf hl1 hl2
            refine ⟨PP.out.b.fr FRq1_1.out id, ?_⟩
            refine u_two 4 5 (by kernel_rfl) ?_ ?_
            · refine i_callE 4 (some 82) 15 #[.pointer (some ⟨a, 0, none⟩)] (fun v w' => ∃ A1 c1, v = .slice A1 LX.length c1 ∧ w'.ownsRow q1_1.heap.size 38 2 (.slice A1 LX.length c1) LX.length (rfFlat LX) ∧ Fr none_ q1_1 w') rfl rfl (by kernel_rfl) (by kernel_rfl) ((live_ok q1_1 (PP.out.pl.ar.keep FRq1_1.out)).mono (fun e w' h => by obtain ⟨A1, c1, h1, h2, h3⟩ := h; rw [HLX.out]; exact ⟨_, h1, A1, c1, rfl, h2, h3⟩)) ?_
              rintro v q2_2 ⟨A1, c1, rfl, ho1, hf⟩
              have FRq2_2 : Hid (Fr none_ wr q2_2) := hid_ (FRq1_1.out.then_none hf)
              replace CA := hid_ (CA.out.keep hf)
              have OX := hid_ (own_base ho1 (Nat.le_trans hwr FRq1_1.out.size))
              clear ho1 hf
              refine ⟨PP.out.b.fr FRq2_2.out id, ?_⟩
              obtain ⟨q2_3, hw⟩ : ∃ z, z = q2_2.alloc (.cells #[.int .i64 0, .int .i64 0, .slice none 0 0] 29) := ⟨_, rfl⟩
              have hf : Fr none_ q2_2 q2_3 := by rw [hw]; exact (Fr.refl none_ q2_2).alloc _
              have hbz : Blk q2_3 q2_2.heap.size 29 #[.int .i64 0, .int .i64 0, .slice none 0 0] := by rw [hw]; exact Blk.new q2_2 _ _
              refine u_step 5 (some 16) (.pointer (some ⟨q2_2.heap.size, 0, none⟩)) q2_3 rfl rfl (by kernel_rfl) (by kernel_rfl) (by rw [hw]; kernel_rfl) ?_
              have FRq2_3 : Hid (Fr none_ wr q2_3) := hid_ (FRq2_2.out.then_none hf)
              replace CA := hid_ (CA.out.keep hf)
              replace OX := hid_ (own_none OX.out hf)
              have BZ := hid_ hbz
              have hb2 : wr.heap.size ≤ q2_2.heap.size := FRq2_2.out.size
              clear hw hf hbz
              refine ⟨PP.out.b.fr FRq2_3.out id, ?_⟩
              refine u_take 6 (some 15) (.pointer (some ⟨a2, 0, none⟩)) rfl rfl (by kernel_rfl) (by kernel_rfl) (by kernel_rfl) (by kernel_rfl) (fun _ _ _ h => h) (y_val (by kernel_rfl) (fun w' hS => by kernel_rfl)) (PP.out.b.fr FRq2_3.out id) ?_
              refine u_store 7 29 (.tmp 16) (.tmp 80) (q2_2.heap.size) 0 (raA N last LL A2 c2) rfl rfl (by kernel_rfl) (by kernel_rfl) rfl (by kernel_rfl) (by kernel_rfl) (BZ.out.there4 rfl) (by kernel_rfl) (by simp [Value.oneCell']) (fun q2_4 he => ?_)
              have ov := Blk.over4 BZ.out (raA N last LL A2 c2).toList rfl
              rw [← he] at ov
              have FE : Hid (Fr none_ wr q2_4) := hid_ (FRq2_3.out.then_only ov.2 (.inr hb2))
              have CE : Hid (Ar q2_4 a2 G2 last ss) := hid_ (by obtain ⟨cs, hB, _⟩ := CA.out.hG; exact CA.out.beside ov.2 BZ.out (by decide) (by decide) (Blk.ne_ CA.out.hA BZ.out (by decide)) (Blk.ne_ hB BZ.out (by decide)))
              have OE := hid_ (own_fr OX.out ov.2 (fun j hj e => own_blk_ne OX.out BZ.out (by decide) (by rw [hj]; exact congrArg some e)))
              have TW := hid_ (Two4.make PP.out (fun x hx => by rcases hx with rfl | rfl <;> omega) (.inr rfl) (.inl rfl) FE.out CE.out ov.1 hg2 hb2)
              clear he ov
              refine ⟨PP.out.b.fr FE.out id, ?_⟩
              refine u_take 8 (some 17) (.slice A1 LX.length c1) rfl rfl (by kernel_rfl) (by kernel_rfl) (by kernel_rfl) (by kernel_rfl) (fun _ _ _ h => h) (y_val (by kernel_rfl) (fun w' hS => by kernel_rfl)) (PP.out.b.fr FE.out id) ?_
              refine u_done (by kernel_rfl) ?_
              simp only [Exit.then]
              go_frame
              rename_i hKm
              refine hKm _ _ ?_
              go_meet
              case rel => exact ⟨a2, G2, _, A1, c1, LX, rfl, rfl, rfl, TW.out, OE.out, hlv⟩
            · obtain ⟨q3_2, hw⟩ : ∃ z, z = q1_1.alloc (.cells #[.int .i64 0, .int .i64 0, .slice none 0 0] 29) := ⟨_, rfl⟩
              have hf : Fr none_ q1_1 q3_2 := by rw [hw]; exact (Fr.refl none_ q1_1).alloc _
              have hbz : Blk q3_2 q1_1.heap.size 29 #[.int .i64 0, .int .i64 0, .slice none 0 0] := by rw [hw]; exact Blk.new q1_1 _ _
              refine i_step 5 (some 16) (.pointer (some ⟨q1_1.heap.size, 0, none⟩)) q3_2 rfl rfl (by kernel_rfl) (by rw [hw]; kernel_rfl) ?_
              have FRq3_2 : Hid (Fr none_ wr q3_2) := hid_ (FRq1_1.out.then_none hf)
              replace CA := hid_ (CA.out.keep hf)
              have BZ := hid_ hbz
              have hb2 : wr.heap.size ≤ q1_1.heap.size := FRq1_1.out.size
              clear hw hf hbz
              refine ⟨PP.out.b.fr FRq3_2.out id, ?_⟩
              refine u_callE 4 (some 82) 15 #[.pointer (some ⟨a, 0, none⟩)] (fun v w' => ∃ A1 c1, v = .slice A1 LX.length c1 ∧ w'.ownsRow q3_2.heap.size 38 2 (.slice A1 LX.length c1) LX.length (rfFlat LX) ∧ Fr none_ q3_2 w') rfl rfl (by kernel_rfl) (by kernel_rfl) (by kernel_rfl) ((live_ok q3_2 (PP.out.pl.ar.keep FRq3_2.out)).mono (fun e w' h => by obtain ⟨A1, c1, h1, h2, h3⟩ := h; rw [HLX.out]; exact ⟨_, h1, A1, c1, rfl, h2, h3⟩)) ?_
              rintro v q3_3 ⟨A1, c1, rfl, ho1, hf⟩
              have FRq3_3 : Hid (Fr none_ wr q3_3) := hid_ (FRq3_2.out.then_none hf)
              replace CA := hid_ (CA.out.keep hf)
              replace BZ := hid_ (BZ.out.fr hf id)
              have OX := hid_ (own_base ho1 (Nat.le_trans hwr FRq3_2.out.size))
              clear ho1 hf
              refine ⟨PP.out.b.fr FRq3_3.out id, ?_⟩
              refine u_take 6 (some 15) (.pointer (some ⟨a2, 0, none⟩)) rfl rfl (by kernel_rfl) (by kernel_rfl) (by kernel_rfl) (by kernel_rfl) (fun _ _ _ h => h) (y_val (by kernel_rfl) (fun w' hS => by kernel_rfl)) (PP.out.b.fr FRq3_3.out id) ?_
              refine u_store 7 29 (.tmp 16) (.tmp 80) (q1_1.heap.size) 0 (raA N last LL A2 c2) rfl rfl (by kernel_rfl) (by kernel_rfl) rfl (by kernel_rfl) (by kernel_rfl) (BZ.out.there4 rfl) (by kernel_rfl) (by simp [Value.oneCell']) (fun q3_4 he => ?_)
              have ov := Blk.over4 BZ.out (raA N last LL A2 c2).toList rfl
              rw [← he] at ov
              have FE : Hid (Fr none_ wr q3_4) := hid_ (FRq3_3.out.then_only ov.2 (.inr hb2))
              have CE : Hid (Ar q3_4 a2 G2 last ss) := hid_ (by obtain ⟨cs, hB, _⟩ := CA.out.hG; exact CA.out.beside ov.2 BZ.out (by decide) (by decide) (Blk.ne_ CA.out.hA BZ.out (by decide)) (Blk.ne_ hB BZ.out (by decide)))
              have OE := hid_ (own_fr OX.out ov.2 (fun j hj e => own_blk_ne OX.out BZ.out (by decide) (by rw [hj]; exact congrArg some e)))
              have TW := hid_ (Two4.make PP.out (fun x hx => by rcases hx with rfl | rfl <;> omega) (.inr rfl) (.inl rfl) FE.out CE.out ov.1 hg2 hb2)
              clear he ov
              refine ⟨PP.out.b.fr FE.out id, ?_⟩
              refine u_take 8 (some 17) (.slice A1 LX.length c1) rfl rfl (by kernel_rfl) (by kernel_rfl) (by kernel_rfl) (by kernel_rfl) (fun _ _ _ h => h) (y_val (by kernel_rfl) (fun w' hS => by kernel_rfl)) (PP.out.b.fr FE.out id) ?_
              refine u_done (by kernel_rfl) ?_
              simp only [Exit.then]
              go_frame
              rename_i hKm
              refine hKm _ _ ?_
              go_meet
              case rel => exact ⟨a2, G2, _, A1, c1, LX, rfl, rfl, rfl, TW.out, OE.out, hlv⟩
          · obtain ⟨q4_1, hw⟩ : ∃ z, z = wr.drew.alloc (.cells #[.int .i64 0, .int .i64 0, .slice none 0 0] 29) := ⟨_, rfl⟩
            have hf : Fr none_ wr.drew q4_1 := by rw [hw]; exact (Fr.refl none_ wr.drew).alloc _
            have hbz : Blk q4_1 wr.drew.heap.size 29 #[.int .i64 0, .int .i64 0, .slice none 0 0] := by rw [hw]; exact Blk.new wr.drew _ _
            refine i_step 5 (some 16) (.pointer (some ⟨wr.drew.heap.size, 0, none⟩)) q4_1 rfl rfl (by kernel_rfl) (by rw [hw]; kernel_rfl) ?_
            have FRq4_1 : Hid (Fr none_ wr q4_1) := hid_ (FR0.out.then_none hf)
            have BZ := hid_ hbz
            have hb2 : wr.heap.size ≤ wr.drew.heap.size := FR0.out.size
            clear hw hf hbz
            refine ⟨PP.out.b.fr FRq4_1.out id, ?_⟩
            refine u_callE 1 (some 79) 19 #[.pointer (some ⟨a, 0, none⟩)] (fun v w' => ∃ a2 G2, v = .pointer (some ⟨a2, 0, none⟩) ∧ Ar w' a2 G2 last ss ∧ Fr none_ q4_1 w' ∧ q4_1.heap.size ≤ a2 ∧ q4_1.heap.size ≤ G2) rfl rfl (by kernel_rfl) (by kernel_rfl) (by kernel_rfl) ((arCopy_ok a G last ss q4_1 hssl (PP.out.pl.ar.keep FRq4_1.out)).mono (fun e w' h => by obtain ⟨a2, G2, h1, h2, h3, h4, h5⟩ := h; exact ⟨_, h1, a2, G2, rfl, h2, h3, h4, h5⟩)) ?_
            rintro v q4_2 ⟨a2, G2, rfl, ha2, hf, hl1, hl2⟩
            have FRq4_2 : Hid (Fr none_ wr q4_2) := hid_ (FRq4_1.out.then_none hf)
            replace BZ := hid_ (BZ.out.fr hf id)
            have CA := hid_ ha2
            have hg2 : wr.heap.size ≤ G2 := Nat.le_trans (FRq4_1.out.size) hl2
            clear ha2 hf hl1 hl2
            refine ⟨PP.out.b.fr FRq4_2.out id, ?_⟩
            refine u_callE 4 (some 82) 15 #[.pointer (some ⟨a, 0, none⟩)] (fun v w' => ∃ A1 c1, v = .slice A1 LX.length c1 ∧ w'.ownsRow q4_2.heap.size 38 2 (.slice A1 LX.length c1) LX.length (rfFlat LX) ∧ Fr none_ q4_2 w') rfl rfl (by kernel_rfl) (by kernel_rfl) (by kernel_rfl) ((live_ok q4_2 (PP.out.pl.ar.keep FRq4_2.out)).mono (fun e w' h => by obtain ⟨A1, c1, h1, h2, h3⟩ := h; rw [HLX.out]; exact ⟨_, h1, A1, c1, rfl, h2, h3⟩)) ?_
            rintro v q4_3 ⟨A1, c1, rfl, ho1, hf⟩
            have FRq4_3 : Hid (Fr none_ wr q4_3) := hid_ (FRq4_2.out.then_none hf)
            replace CA := hid_ (CA.out.keep hf)
            replace BZ := hid_ (BZ.out.fr hf id)
            have OX := hid_ (own_base ho1 (Nat.le_trans hwr FRq4_2.out.size))
            clear ho1 hf
            refine ⟨PP.out.b.fr FRq4_3.out id, ?_⟩
            refine u_take 6 (some 15) (.pointer (some ⟨a2, 0, none⟩)) rfl rfl (by kernel_rfl) (by kernel_rfl) (by kernel_rfl) (by kernel_rfl) (fun _ _ _ h => h) (y_val (by kernel_rfl) (fun w' hS => by kernel_rfl)) (PP.out.b.fr FRq4_3.out id) ?_
            refine u_store 7 29 (.tmp 16) (.tmp 80) (wr.drew.heap.size) 0 (raA N last LL A2 c2) rfl rfl (by kernel_rfl) (by kernel_rfl) rfl (by kernel_rfl) (by kernel_rfl) (BZ.out.there4 rfl) (by kernel_rfl) (by simp [Value.oneCell']) (fun q4_4 he => ?_)
            have ov := Blk.over4 BZ.out (raA N last LL A2 c2).toList rfl
            rw [← he] at ov
            have FE : Hid (Fr none_ wr q4_4) := hid_ (FRq4_3.out.then_only ov.2 (.inr hb2))
            have CE : Hid (Ar q4_4 a2 G2 last ss) := hid_ (by obtain ⟨cs, hB, _⟩ := CA.out.hG; exact CA.out.beside ov.2 BZ.out (by decide) (by decide) (Blk.ne_ CA.out.hA BZ.out (by decide)) (Blk.ne_ hB BZ.out (by decide)))
            have OE := hid_ (own_fr OX.out ov.2 (fun j hj e => own_blk_ne OX.out BZ.out (by decide) (by rw [hj]; exact congrArg some e)))
            have TW := hid_ (Two4.make PP.out (fun x hx => by rcases hx with rfl | rfl <;> omega) (.inr rfl) (.inl rfl) FE.out CE.out ov.1 hg2 hb2)
            clear he ov
            refine ⟨PP.out.b.fr FE.out id, ?_⟩
            refine u_take 8 (some 17) (.slice A1 LX.length c1) rfl rfl (by kernel_rfl) (by kernel_rfl) (by kernel_rfl) (by kernel_rfl) (fun _ _ _ h => h) (y_val (by kernel_rfl) (fun w' hS => by kernel_rfl)) (PP.out.b.fr FE.out id) ?_
            refine u_done (by kernel_rfl) ?_
            simp only [Exit.then]
            go_frame
            rename_i hKm
            refine hKm _ _ ?_
            go_meet
            case rel => exact ⟨a2, G2, _, A1, c1, LX, rfl, rfl, rfl, TW.out, OE.out, hlv⟩
        case rest =>
          obtain ⟨a2, G2, B2, XA, cx, X, rfl, rfl, rfl, htw, hown, hxl⟩ := hcut
          obtain ⟨wz, rfl⟩ : ∃ z : World, z = wc := ⟨_, rfl⟩
          have TW := hid_ htw
          have OX := hid_ hown
          clear htw hown PP
          obtain ⟨A5, hA5⟩ : ∃ A5, (if cap = k then A else Option.map (fun x => x.add (k * 20)) A) = A5 := ⟨_, rfl⟩
          have HR2 := hid_ (H.out.from_ hmn hc)
          rw [hA5] at HR2
          go_wp2_with fail
          clear hA5
          go_loopw [87] (fun i wx => ∃ k2 ss1 LL1 A1 c1, k2 ≤ n - k ∧ i = .int .i64 ((k2 : Nat) : Int) ∧ Two4 w wx (fun x => (x = w3.heap.size ∨ x = G) ∨ x = G2 ∨ x = B2) N last a G w3.heap.size ss1 LL1 A1 c1 a2 G2 B2 ss LL A2 c2 (k + k2) ∧ wx.ownsRow w.heap.size 38 2 (.slice XA X.length cx) X.length (rfFlat X)) (fun i _ => n - k - (intOf i).toNat)
          case atStart => exact ⟨0, ss, LL, A2, c2, Nat.zero_le _, rfl, TW.out, OX.out⟩
          case round =>
            obtain ⟨k2, ss1, LL1, A1, c1, hk2, rfl, hS, hO⟩ := hrel
            clear TW OX
            have TW := hid_ hS
            have OX := hid_ hO
            have hll0 := hS.p.hl
            clear hS hO
            by_cases hlt : k2 < n - k
            · have hi0 : (0 : Int) ≤ (k2 : Int) := Int.natCast_nonneg _
              have hi1 : (k2 : Int) < ((n - k : Nat) : Int) := by omega
              obtain ⟨D, hD⟩ : ∃ D, (L.drop k)[k2]? = some D := ⟨_, List.getElem?_eq_getElem (by rw [List.length_drop]; omega)⟩
              have hD' : L[k + k2]? = some D := by rw [List.getElem?_drop] at hD; exact hD
              obtain ⟨b, off, rfl, hb, hR, hO⟩ := (HR2.out.keep TW.out.p.fr).at_ hD
              have hlow : (∀ ad, D.A = some ad → 0 < D.R.rows.length → ad.block < w.heap.size) ∧ (∀ ad, D.B = some ad → 0 < D.R.ents.length → ad.block < w.heap.size) := by
                obtain ⟨_, _, _, _, _, hO0⟩ := H.out.at_ hD'
                exact hO0.rd.low
              have hz := HQ.out (k + k2) D hD'
              have HR := hid_ hR
              have HO := hid_ hO
              have HLW := hid_ hlow
              clear hR hO hD hD' hlow
              go_upto_region 17 with (first | (refine wpList_load_mid rfl 42 (.tmp 89) rfl b (off + k2 * 20) rfl (doL D) _ HR.out Tryd.underlying42 rfl do_size ?_) | (refine wpList_store_mid rfl 42 (.tmp 19) (.tmp 90) rfl wr.heap.size 0 (doL D).toArray rfl rfl (new_there wr _ doZ) do_size (do_one D) ?_; obtain ⟨w5, hw⟩ : ∃ z, z = (wr.alloc (.cells doZ 42)).setCells wr.heap.size 0 (doL D) := ⟨_, rfl⟩; change wpList _ _ _ _ _ ((wr.alloc (.cells doZ 42)).setCells wr.heap.size 0 (doL D)); rw [← hw]; have X5 : Hid (Blk w5 wr.heap.size 42 (doL D).toArray ∧ Fr none_ wr w5) := hid_ (by rw [hw]; exact new_copy wr _ doZ _ rfl); clear hw))
              have P5 := hid_ (TW.out.keep X5.out.2)
              have OX5 := hid_ (own_none OX.out X5.out.2)
              have v0 : w5.cell? ⟨w3.heap.size, 0, none⟩ = some (.int .i64 N) := P5.out.p.b.cell' rfl
              have v1 : w5.cell? ⟨w3.heap.size, 1, none⟩ = some (.int .i64 last) := P5.out.p.b.cell' rfl
              have v2 : w5.cell? ⟨w3.heap.size, 2, none⟩ = some (.slice A1 LL1.length c1) := P5.out.p.b.cell' rfl
              go_wp2_with (refine wpList_load_mid rfl 42 (.tmp 19) rfl wr.heap.size 0 rfl (doL D) _ (Blk.range4 (cs := doL D) X5.out.1) Tryd.underlying42 rfl do_size ?_)
              refine (does_ok a G N last ss1 LL1 A1 c1 D X cx XA w5 P5.out.p.pl (HLd.out.fr P5.out.p.fr id) (by omega) (Reads.of_own OX5.out) hxl (HO.out.keep X5.out.2) ⟨fun ad e hn => by have := HLW.out.1 ad e hn; omega, fun ad e hn => by have := HLW.out.2 ad e hn; omega⟩ ⟨by omega, by omega⟩ o1 o2 (by omega) P5.out.p.keys).mono ?_
              rintro e w6 ⟨ss', LL', A3, c3, x, y, rfl, hpl, hll, hfl, hfa, hf6⟩
              have hst := P5.out.step (D := D) HO.out.ks HLW.out hpl hll hfl hfa hf6
              have hox := own_two P5.out OX5.out hf6 (raA N last LL' A3 c3).toList
              have ST := hid_ (And.intro (And.intro hst.1 hox) hst.2)
              clear v0 v1 v2 hpl hll hfl hfa hf6 hst hox P5 X5 TW OX OX5
              go_wp2_with (refine wpList_store_mid rfl 29 (.tmp 10) (.tmp 97) rfl w3.heap.size 0 (raA N last LL' A3 c3) rfl rfl ST.out.2 (by kernel_rfl) (by simp [Value.oneCell']) ?_; obtain ⟨w7, hw⟩ : ∃ z, z = w6.setCells w3.heap.size 0 (raA N last LL' A3 c3).toList := ⟨_, rfl⟩; change wpList _ _ _ _ _ (w6.setCells w3.heap.size 0 (raA N last LL' A3 c3).toList); rw [← hw]; have S9 := ST.out.1; rw [← hw] at S9; have HS9 := hid_ S9; clear hw S9)
              go_roundw
              case rel => exact ⟨k2 + 1, ss', LL', A3, c3, by omega, by go_num, HS9.out.1, HS9.out.2⟩
              case measure => simp [intOf]; omega
            · obtain rfl : k2 = n - k := by omega
              clear hlt
              go_wp2_with fail
              go_loopw [20] (fun i wx => ∃ (z : Int) (j : Nat) (ss3 : List Sl) (LL3 : List RaP) (A3 : Option Addr) (c3 : Nat), k ≤ j ∧ j ≤ n ∧ z + 1 = (j : Int) ∧ i = .int .i64 z ∧ Two4 w wx (fun x => (x = w3.heap.size ∨ x = G) ∨ x = G2 ∨ x = B2) N last a G w3.heap.size ss1 LL1 A1 c1 a2 G2 B2 ss3 LL3 A3 c3 (n + (n - j)) ∧ wx.ownsRow w.heap.size 38 2 (.slice XA X.length cx) X.length (rfFlat X)) (fun i _ => (intOf i + 1 - (k : Int)).toNat)
              case atStart => exact ⟨_, n, ss, LL, A2, c2, hmn, Nat.le_refl _, by omega, rfl, (show k + (n - k) = n + (n - n) by omega) ▸ TW.out, OX.out⟩
              case round =>
                obtain ⟨z, j, ss3, LL3, A3, c3, hkj, hjn, hzj, rfl, hS, hO⟩ := hrel
                clear TW OX
                have TW := hid_ hS
                have OX := hid_ hO
                have hll3 := hS.q.hl
                clear hS hO
                by_cases hlt : k < j
                · obtain ⟨z, rfl⟩ : ∃ z' : Nat, z = z' := ⟨j - 1, by omega⟩
                  obtain ⟨D, hD⟩ : ∃ D, L[z]? = some D := ⟨_, List.getElem?_eq_getElem (by omega)⟩
                  obtain ⟨b, off, rfl, hb, hR, hO⟩ := (H.out.keep TW.out.p.fr).at_ hD
                  have hlow : (∀ ad, D.A = some ad → 0 < D.R.rows.length → ad.block < w.heap.size) ∧ (∀ ad, D.B = some ad → 0 < D.R.ents.length → ad.block < w.heap.size) := by
                    obtain ⟨_, _, _, _, _, hO0⟩ := H.out.at_ hD
                    exact hO0.rd.low
                  have hz := HQ.out z D hD
                  have HR := hid_ hR
                  have HO := hid_ hO
                  have HLW := hid_ hlow
                  clear hR hO hD hlow
                  have hkz : (k : Int) ≤ (z : Int) := by omega
                  have hzn : (z : Int) < (n : Int) := by omega
                  have hz0 : (0 : Int) ≤ (z : Int) := by omega
                  go_upto_region 24 with fail
                  go_cut [11] (fun u wq => u = .bool true ∧ ∃ ss4 LL4 A4 c4, Two4 w wq (fun x => (x = w3.heap.size ∨ x = G) ∨ x = G2 ∨ x = B2) N last a G w3.heap.size ss1 LL1 A1 c1 a2 G2 B2 ss4 LL4 A4 c4 (n + (n - j) + 1) ∧ wq.ownsRow w.heap.size 38 2 (.slice XA X.length cx) X.length (rfFlat X))
                  case first =>
                    have hS : (fun w' : World => w'.rangeAt b (off + z * 20) (doL D) ∧ Blk w' B2 29 (raA N last LL3 A3 c3)) wr.drew := ⟨fun i v hv => cellFr (HR.out i v hv) (Fr.refl none_ wr).drew, TW.out.q.b.drew⟩
                    refine wp_region_u 7 (fun w' : World => w'.rangeAt b (off + z * 20) (doL D) ∧ Blk w' B2 29 (raA N last LL3 A3 c3)) (by kernel_rfl) ?_
                    refine u_take 0 (some 112) (.pointer (some ⟨a2, 0, none⟩)) rfl rfl (by kernel_rfl) (by kernel_rfl) (by kernel_rfl) (by kernel_rfl) (fun _ _ _ h => h) (y_val (by kernel_rfl) (fun w' hS => by kernel_rfl)) hS ?_
                    refine u_take 1 (some 113) (.agg (raA N last LL3 A3 c3)) rfl rfl (by kernel_rfl) (by kernel_rfl) (by kernel_rfl) (by kernel_rfl) (fun _ _ _ h => h) (yieldsIf_load_mid (by kernel_rfl) 29 (.tmp 16) rfl (B2) 0 (by kernel_rfl) (raA N last LL3 A3 c3).toList _ (fun w' hS => Blk.range4 (cs := (raA N last LL3 A3 c3).toList) hS.2) Tryd.underlying29 rfl (by kernel_rfl)) hS ?_
                    refine u_take 2 (some 114) (.slice (some ⟨b, off, none⟩) n cap) rfl rfl (by kernel_rfl) (by kernel_rfl) (by kernel_rfl) (by kernel_rfl) (fun _ _ _ h => h) (y_val (by kernel_rfl) (fun w' hS => by kernel_rfl)) hS ?_
                    refine u_take 3 (some 115) (.int .i64 (z : Nat)) rfl rfl (by kernel_rfl) (by kernel_rfl) (by kernel_rfl) (by kernel_rfl) (fun _ _ _ h => h) (y_val (by kernel_rfl) (fun w' hS => by kernel_rfl)) hS ?_
                    refine u_take 4 (some 116) (.pointer (some ⟨b, off + z * 20, none⟩)) rfl rfl (by kernel_rfl) (by kernel_rfl) (by kernel_rfl) (by kernel_rfl) (fun _ _ _ h => h) (y_val (by kernel_rfl) (fun w' hS => by go_simp)) hS ?_
                    refine u_take 5 (some 117) (.agg (doL D).toArray) rfl rfl (by kernel_rfl) (by kernel_rfl) (by kernel_rfl) (by kernel_rfl) (fun _ _ _ h => h) (yieldsIf_load_mid (by kernel_rfl) 42 (.tmp 116) rfl b (off + z * 20) (by kernel_rfl) (doL D) _ (fun w' hS => hS.1) Tryd.underlying42 rfl do_size) hS ?_
                    refine u_take 6 (some 118) (.slice XA X.length cx) rfl rfl (by kernel_rfl) (by kernel_rfl) (by kernel_rfl) (by kernel_rfl) (fun _ _ _ h => h) (y_val (by kernel_rfl) (fun w' hS => by kernel_rfl)) hS ?_
                    clear hS
                    have TD := hid_ (TW.out.keep (Fr.refl none_ wr).drew)
                    have OD := hid_ (own_none OX.out (Fr.refl none_ wr).drew)
                    refine u_of_i 7 (by kernel_rfl) (i_callM 7 (some 119) 13 #[.pointer (some ⟨a2, 0, none⟩), .agg (raA N last LL3 A3 c3), .agg (doL D).toArray, .slice XA X.length cx] (fun v w' => ∃ ss4 LL4 A4 c4 x y, v = .tuple #[raV (N : Int) last LL4 A4 c4, .agg #[.int .i64 x, .int .i64 y], .bool true] ∧ PlA w' a2 G2 N last ss4 LL4 A4 c4 ∧ LL4.length ≤ LL3.length + 1 ∧ FromL LL4 LL3 D.R D.A D.B ∧ ((A4 = A3 ∧ LL4.length = LL3.length) ∨ ∀ ad, A4 = some ad → wr.drew.heap.size ≤ ad.block) ∧ Fr (only G2) wr.drew w') (by decide) rfl rfl (by kernel_rfl) (by kernel_rfl)
                      ((does_ok a2 G2 N last ss3 LL3 A3 c3 D X cx XA wr.drew TD.out.q.pl (HLd.out.fr TD.out.p.fr id) (by have := (TD.out.hoff G2 TD.out.oG2).2; omega) (Reads.of_own OD.out) hxl (HO.out.keep (Fr.refl none_ wr).drew) ⟨fun ad e hn => by have := HLW.out.1 ad e hn; have := (TD.out.hoff G2 TD.out.oG2).2; omega, fun ad e hn => by have := HLW.out.2 ad e hn; have := (TD.out.hoff G2 TD.out.oG2).2; omega⟩ ⟨by omega, by omega⟩ o1 o2 (by omega) TD.out.q.keys).mono (fun e w' h => by obtain ⟨ss4, LL4, A4, c4, x, y, h1, h2, h3, h4, h5, h6⟩ := h; exact ⟨_, h1, ss4, LL4, A4, c4, x, y, rfl, h2, h3, h4, h5, h6⟩)) ?_)
                    rintro v p1 ⟨ss4, LL4, A4, c4, x, y, rfl, hpl, hll, hfl, hfa, hf6⟩
                    have hst := TD.out.swap.step (D := D) HO.out.ks HLW.out hpl hll hfl hfa hf6
                    have hox := own_two TD.out.swap OD.out hf6 (raA N last LL4 A4 c4).toList
                    have ST := hid_ (And.intro (And.intro hst.1.swap hox) hst.2)
                    clear hpl hll hfl hfa hf6 hst hox TD OD
                    refine u_of_i 8 (by kernel_rfl) (i_stepM 8 (some 111) (.tuple #[raV N last LL4 A4 c4, .agg #[.int .i64 x, .int .i64 y], .bool true]) p1 (by decide) rfl rfl (by kernel_rfl) (by kernel_rfl) ?_)
                    refine u_three 9 10 11 (by kernel_rfl) ?_ ?_ ?_
                    · refine (i_stepM 9 (some 120) (raV N last LL4 A4 c4) p1 (by decide) rfl rfl (by kernel_rfl) (by kernel_rfl) ?_)
                      refine u_three 10 11 12 (by kernel_rfl) ?_ ?_ ?_
                      · refine (i_stepM 10 (some 121) (.agg #[.int .i64 x, .int .i64 y]) p1 (by decide) rfl rfl (by kernel_rfl) (by kernel_rfl) ?_)
                        refine u_two 11 12 (by kernel_rfl) ?_ ?_
                        · refine (i_stepM 11 (some 122) (.bool true) p1 (by decide) rfl rfl (by kernel_rfl) (by kernel_rfl) ?_)
                          refine u_of_i 12 (by kernel_rfl) (i_storeM 12 29 (.tmp 16) (.tmp 120) B2 0 (raA N last LL4 A4 c4) (by decide) rfl rfl (by kernel_rfl) rfl (by kernel_rfl) (by kernel_rfl) ST.out.2 (by kernel_rfl) (by simp [Value.oneCell']) ?_)
                          intro p2 he
                          have S9 := ST.out.1
                          rw [← he] at S9
                          have HS9 := hid_ S9
                          clear he S9
                          refine u_of_i 13 (by kernel_rfl) (i_stepM 13 (some 11) (.bool true) p2 (by decide) rfl rfl (by kernel_rfl) (by kernel_rfl) ?_)
                          refine u_done (by kernel_rfl) ?_
                          simp only [Exit.then]
                          go_frame
                          rename_i hKm
                          refine hKm _ _ ?_
                          go_meet
                          case rel => exact ⟨rfl, ss4, LL4, A4, c4, HS9.out.1, HS9.out.2⟩
                        · refine (i_storeM 12 29 (.tmp 16) (.tmp 120) B2 0 (raA N last LL4 A4 c4) (by decide) rfl rfl (by kernel_rfl) rfl (by kernel_rfl) (by kernel_rfl) ST.out.2 (by kernel_rfl) (by simp [Value.oneCell']) ?_)
                          intro p2 he
                          have S9 := ST.out.1
                          rw [← he] at S9
                          have HS9 := hid_ S9
                          clear he S9
                          refine u_of_i 11 (by kernel_rfl) (i_stepM 11 (some 122) (.bool true) p2 (by decide) rfl rfl (by kernel_rfl) (by kernel_rfl) ?_)
                          refine u_of_i 13 (by kernel_rfl) (i_stepM 13 (some 11) (.bool true) p2 (by decide) rfl rfl (by kernel_rfl) (by kernel_rfl) ?_)
                          refine u_done (by kernel_rfl) ?_
                          simp only [Exit.then]
                          go_frame
                          rename_i hKm
                          refine hKm _ _ ?_
                          go_meet
                          case rel => exact ⟨rfl, ss4, LL4, A4, c4, HS9.out.1, HS9.out.2⟩
                      · refine (i_stepM 11 (some 122) (.bool true) p1 (by decide) rfl rfl (by kernel_rfl) (by kernel_rfl) ?_)
                        refine u_two 10 12 (by kernel_rfl) ?_ ?_
                        · refine (i_stepM 10 (some 121) (.agg #[.int .i64 x, .int .i64 y]) p1 (by decide) rfl rfl (by kernel_rfl) (by kernel_rfl) ?_)
                          refine u_of_i 12 (by kernel_rfl) (i_storeM 12 29 (.tmp 16) (.tmp 120) B2 0 (raA N last LL4 A4 c4) (by decide) rfl rfl (by kernel_rfl) rfl (by kernel_rfl) (by kernel_rfl) ST.out.2 (by kernel_rfl) (by simp [Value.oneCell']) ?_)
                          intro p2 he
                          have S9 := ST.out.1
                          rw [← he] at S9
                          have HS9 := hid_ S9
                          clear he S9
                          refine u_of_i 13 (by kernel_rfl) (i_stepM 13 (some 11) (.bool true) p2 (by decide) rfl rfl (by kernel_rfl) (by kernel_rfl) ?_)
                          refine u_done (by kernel_rfl) ?_
                          simp only [Exit.then]
                          go_frame
                          rename_i hKm
                          refine hKm _ _ ?_
                          go_meet
                          case rel => exact ⟨rfl, ss4, LL4, A4, c4, HS9.out.1, HS9.out.2⟩
                        · refine (i_storeM 12 29 (.tmp 16) (.tmp 120) B2 0 (raA N last LL4 A4 c4) (by decide) rfl rfl (by kernel_rfl) rfl (by kernel_rfl) (by kernel_rfl) ST.out.2 (by kernel_rfl) (by simp [Value.oneCell']) ?_)
                          intro p2 he
                          have S9 := ST.out.1
                          rw [← he] at S9
                          have HS9 := hid_ S9
                          clear he S9
                          refine u_of_i 10 (by kernel_rfl) (i_stepM 10 (some 121) (.agg #[.int .i64 x, .int .i64 y]) p2 (by decide) rfl rfl (by kernel_rfl) (by kernel_rfl) ?_)
                          refine u_of_i 13 (by kernel_rfl) (i_stepM 13 (some 11) (.bool true) p2 (by decide) rfl rfl (by kernel_rfl) (by kernel_rfl) ?_)
                          refine u_done (by kernel_rfl) ?_
                          simp only [Exit.then]
                          go_frame
                          rename_i hKm
                          refine hKm _ _ ?_
                          go_meet
                          case rel => exact ⟨rfl, ss4, LL4, A4, c4, HS9.out.1, HS9.out.2⟩
                      · refine (i_storeM 12 29 (.tmp 16) (.tmp 120) B2 0 (raA N last LL4 A4 c4) (by decide) rfl rfl (by kernel_rfl) rfl (by kernel_rfl) (by kernel_rfl) ST.out.2 (by kernel_rfl) (by simp [Value.oneCell']) ?_)
                        intro p2 he
                        have S9 := ST.out.1
                        rw [← he] at S9
                        have HS9 := hid_ S9
                        clear he S9
                        refine u_two 10 11 (by kernel_rfl) ?_ ?_
                        · refine (i_stepM 10 (some 121) (.agg #[.int .i64 x, .int .i64 y]) p2 (by decide) rfl rfl (by kernel_rfl) (by kernel_rfl) ?_)
                          refine u_of_i 11 (by kernel_rfl) (i_stepM 11 (some 122) (.bool true) p2 (by decide) rfl rfl (by kernel_rfl) (by kernel_rfl) ?_)
                          refine u_of_i 13 (by kernel_rfl) (i_stepM 13 (some 11) (.bool true) p2 (by decide) rfl rfl (by kernel_rfl) (by kernel_rfl) ?_)
                          refine u_done (by kernel_rfl) ?_
                          simp only [Exit.then]
                          go_frame
                          rename_i hKm
                          refine hKm _ _ ?_
                          go_meet
                          case rel => exact ⟨rfl, ss4, LL4, A4, c4, HS9.out.1, HS9.out.2⟩
                        · refine (i_stepM 11 (some 122) (.bool true) p2 (by decide) rfl rfl (by kernel_rfl) (by kernel_rfl) ?_)
                          refine u_of_i 10 (by kernel_rfl) (i_stepM 10 (some 121) (.agg #[.int .i64 x, .int .i64 y]) p2 (by decide) rfl rfl (by kernel_rfl) (by kernel_rfl) ?_)
                          refine u_of_i 13 (by kernel_rfl) (i_stepM 13 (some 11) (.bool true) p2 (by decide) rfl rfl (by kernel_rfl) (by kernel_rfl) ?_)
                          refine u_done (by kernel_rfl) ?_
                          simp only [Exit.then]
                          go_frame
                          rename_i hKm
                          refine hKm _ _ ?_
                          go_meet
                          case rel => exact ⟨rfl, ss4, LL4, A4, c4, HS9.out.1, HS9.out.2⟩
                    · refine (i_stepM 10 (some 121) (.agg #[.int .i64 x, .int .i64 y]) p1 (by decide) rfl rfl (by kernel_rfl) (by kernel_rfl) ?_)
                      refine u_two 9 11 (by kernel_rfl) ?_ ?_
                      · refine (i_stepM 9 (some 120) (raV N last LL4 A4 c4) p1 (by decide) rfl rfl (by kernel_rfl) (by kernel_rfl) ?_)
                        refine u_two 11 12 (by kernel_rfl) ?_ ?_
                        · refine (i_stepM 11 (some 122) (.bool true) p1 (by decide) rfl rfl (by kernel_rfl) (by kernel_rfl) ?_)
                          refine u_of_i 12 (by kernel_rfl) (i_storeM 12 29 (.tmp 16) (.tmp 120) B2 0 (raA N last LL4 A4 c4) (by decide) rfl rfl (by kernel_rfl) rfl (by kernel_rfl) (by kernel_rfl) ST.out.2 (by kernel_rfl) (by simp [Value.oneCell']) ?_)
                          intro p2 he
                          have S9 := ST.out.1
                          rw [← he] at S9
                          have HS9 := hid_ S9
                          clear he S9
                          refine u_of_i 13 (by kernel_rfl) (i_stepM 13 (some 11) (.bool true) p2 (by decide) rfl rfl (by kernel_rfl) (by kernel_rfl) ?_)
                          refine u_done (by kernel_rfl) ?_
                          simp only [Exit.then]
                          go_frame
                          rename_i hKm
                          refine hKm _ _ ?_
                          go_meet
                          case rel => exact ⟨rfl, ss4, LL4, A4, c4, HS9.out.1, HS9.out.2⟩
                        · refine (i_storeM 12 29 (.tmp 16) (.tmp 120) B2 0 (raA N last LL4 A4 c4) (by decide) rfl rfl (by kernel_rfl) rfl (by kernel_rfl) (by kernel_rfl) ST.out.2 (by kernel_rfl) (by simp [Value.oneCell']) ?_)
                          intro p2 he
                          have S9 := ST.out.1
                          rw [← he] at S9
                          have HS9 := hid_ S9
                          clear he S9
                          refine u_of_i 11 (by kernel_rfl) (i_stepM 11 (some 122) (.bool true) p2 (by decide) rfl rfl (by kernel_rfl) (by kernel_rfl) ?_)
                          refine u_of_i 13 (by kernel_rfl) (i_stepM 13 (some 11) (.bool true) p2 (by decide) rfl rfl (by kernel_rfl) (by kernel_rfl) ?_)
                          refine u_done (by kernel_rfl) ?_
                          simp only [Exit.then]
                          go_frame
                          rename_i hKm
                          refine hKm _ _ ?_
                          go_meet
                          case rel => exact ⟨rfl, ss4, LL4, A4, c4, HS9.out.1, HS9.out.2⟩
                      · refine (i_stepM 11 (some 122) (.bool true) p1 (by decide) rfl rfl (by kernel_rfl) (by kernel_rfl) ?_)
                        refine u_of_i 9 (by kernel_rfl) (i_stepM 9 (some 120) (raV N last LL4 A4 c4) p1 (by decide) rfl rfl (by kernel_rfl) (by kernel_rfl) ?_)
                        refine u_of_i 12 (by kernel_rfl) (i_storeM 12 29 (.tmp 16) (.tmp 120) B2 0 (raA N last LL4 A4 c4) (by decide) rfl rfl (by kernel_rfl) rfl (by kernel_rfl) (by kernel_rfl) ST.out.2 (by kernel_rfl) (by simp [Value.oneCell']) ?_)
                        intro p2 he
                        have S9 := ST.out.1
                        rw [← he] at S9
                        have HS9 := hid_ S9
                        clear he S9
                        refine u_of_i 13 (by kernel_rfl) (i_stepM 13 (some 11) (.bool true) p2 (by decide) rfl rfl (by kernel_rfl) (by kernel_rfl) ?_)
                        refine u_done (by kernel_rfl) ?_
                        simp only [Exit.then]
                        go_frame
                        rename_i hKm
                        refine hKm _ _ ?_
                        go_meet
                        case rel => exact ⟨rfl, ss4, LL4, A4, c4, HS9.out.1, HS9.out.2⟩
                    · refine (i_stepM 11 (some 122) (.bool true) p1 (by decide) rfl rfl (by kernel_rfl) (by kernel_rfl) ?_)
                      refine u_two 9 10 (by kernel_rfl) ?_ ?_
                      · refine (i_stepM 9 (some 120) (raV N last LL4 A4 c4) p1 (by decide) rfl rfl (by kernel_rfl) (by kernel_rfl) ?_)
                        refine u_two 10 12 (by kernel_rfl) ?_ ?_
                        · refine (i_stepM 10 (some 121) (.agg #[.int .i64 x, .int .i64 y]) p1 (by decide) rfl rfl (by kernel_rfl) (by kernel_rfl) ?_)
                          refine u_of_i 12 (by kernel_rfl) (i_storeM 12 29 (.tmp 16) (.tmp 120) B2 0 (raA N last LL4 A4 c4) (by decide) rfl rfl (by kernel_rfl) rfl (by kernel_rfl) (by kernel_rfl) ST.out.2 (by kernel_rfl) (by simp [Value.oneCell']) ?_)
                          intro p2 he
                          have S9 := ST.out.1
                          rw [← he] at S9
                          have HS9 := hid_ S9
                          clear he S9
                          refine u_of_i 13 (by kernel_rfl) (i_stepM 13 (some 11) (.bool true) p2 (by decide) rfl rfl (by kernel_rfl) (by kernel_rfl) ?_)
                          refine u_done (by kernel_rfl) ?_
                          simp only [Exit.then]
                          go_frame
                          rename_i hKm
                          refine hKm _ _ ?_
                          go_meet
                          case rel => exact ⟨rfl, ss4, LL4, A4, c4, HS9.out.1, HS9.out.2⟩
                        · refine (i_storeM 12 29 (.tmp 16) (.tmp 120) B2 0 (raA N last LL4 A4 c4) (by decide) rfl rfl (by kernel_rfl) rfl (by kernel_rfl) (by kernel_rfl) ST.out.2 (by kernel_rfl) (by simp [Value.oneCell']) ?_)
                          intro p2 he
                          have S9 := ST.out.1
                          rw [← he] at S9
                          have HS9 := hid_ S9
                          clear he S9
                          refine u_of_i 10 (by kernel_rfl) (i_stepM 10 (some 121) (.agg #[.int .i64 x, .int .i64 y]) p2 (by decide) rfl rfl (by kernel_rfl) (by kernel_rfl) ?_)
                          refine u_of_i 13 (by kernel_rfl) (i_stepM 13 (some 11) (.bool true) p2 (by decide) rfl rfl (by kernel_rfl) (by kernel_rfl) ?_)
                          refine u_done (by kernel_rfl) ?_
                          simp only [Exit.then]
                          go_frame
                          rename_i hKm
                          refine hKm _ _ ?_
                          go_meet
                          case rel => exact ⟨rfl, ss4, LL4, A4, c4, HS9.out.1, HS9.out.2⟩
                      · refine (i_stepM 10 (some 121) (.agg #[.int .i64 x, .int .i64 y]) p1 (by decide) rfl rfl (by kernel_rfl) (by kernel_rfl) ?_)
                        refine u_of_i 9 (by kernel_rfl) (i_stepM 9 (some 120) (raV N last LL4 A4 c4) p1 (by decide) rfl rfl (by kernel_rfl) (by kernel_rfl) ?_)
                        refine u_of_i 12 (by kernel_rfl) (i_storeM 12 29 (.tmp 16) (.tmp 120) B2 0 (raA N last LL4 A4 c4) (by decide) rfl rfl (by kernel_rfl) rfl (by kernel_rfl) (by kernel_rfl) ST.out.2 (by kernel_rfl) (by simp [Value.oneCell']) ?_)
                        intro p2 he
                        have S9 := ST.out.1
                        rw [← he] at S9
                        have HS9 := hid_ S9
                        clear he S9
                        refine u_of_i 13 (by kernel_rfl) (i_stepM 13 (some 11) (.bool true) p2 (by decide) rfl rfl (by kernel_rfl) (by kernel_rfl) ?_)
                        refine u_done (by kernel_rfl) ?_
                        simp only [Exit.then]
                        go_frame
                        rename_i hKm
                        refine hKm _ _ ?_
                        go_meet
                        case rel => exact ⟨rfl, ss4, LL4, A4, c4, HS9.out.1, HS9.out.2⟩
                  case rest =>
                    obtain ⟨rfl, ss4, LL4, A4, c4, hS, hO⟩ := hcut
                    have TWc := hid_ hS
                    have OXc := hid_ hO
                    clear hS hO
                    go_wp2_with fail
                    go_roundw
                    case rel => exact ⟨(z : Int) - 1, z, ss4, LL4, A4, c4, by omega, by omega, by omega, by go_num, (show n + (n - j) + 1 = n + (n - z) by omega) ▸ TWc.out, OXc.out⟩
                    case measure => simp [intOf]; omega
                · have hkz : ¬ (k : Int) ≤ z := by omega
                  have hs1 := shown4 a G N last ss1 LL1 A1 c1 TW.out.p.pl
                  have hs2 := shown4 a2 G2 N last ss3 LL3 A3 c3 TW.out.q.pl
                  obtain ⟨X1, hX1⟩ : ∃ z, z = liveTo ss1 ss1.length := ⟨_, rfl⟩
                  obtain ⟨X2, hX2⟩ : ∃ z, z = liveTo ss3 ss3.length := ⟨_, rfl⟩
                  rw [← hX1] at hs1
                  rw [← hX2] at hs2
                  have hl1 : X1.length ≤ 5000 := by have := rlive_le LL1 (N : Int).toNat; rw [hs1.1] at this; omega
                  have hl2 : X2.length ≤ 5000 := by have := rlive_le LL3 (N : Int).toNat; rw [hs2.1] at this; omega
                  have HS1 := hid_ hs1
                  have HS2 := hid_ hs2
                  have HX1 := hid_ hX1
                  have HX2 := hid_ hX2
                  clear hs1 hs2 hX1 hX2
                  go_upto_region 27 with fail
                  go_cut [8] (fun u wq => u = .bool true ∧ Fr none_ wr wq)
                  case first =>
                    have hS : (fun w' : World => Blk w' w3.heap.size 29 (raA N last LL1 A1 c1) ∧ Blk w' B2 29 (raA N last LL3 A3 c3)) wr.drew := ⟨TW.out.p.b.drew, TW.out.q.b.drew⟩
                    refine wp_region_u 16 (fun w' : World => Blk w' w3.heap.size 29 (raA N last LL1 A1 c1) ∧ Blk w' B2 29 (raA N last LL3 A3 c3)) (by kernel_rfl) ?_
                    refine u_take 0 (some 125) (.pointer (some ⟨a, 0, none⟩)) rfl rfl (by kernel_rfl) (by kernel_rfl) (by kernel_rfl) (by kernel_rfl) (fun _ _ _ h => h) (y_val (by kernel_rfl) (fun w' hS => by kernel_rfl)) hS ?_
                    refine u_take 2 (some 127) (.agg (raA N last LL1 A1 c1)) rfl rfl (by kernel_rfl) (by kernel_rfl) (by kernel_rfl) (by kernel_rfl) (fun _ _ _ h => h) (yieldsIf_load_mid (by kernel_rfl) 29 (.tmp 10) rfl (w3.heap.size) 0 (by kernel_rfl) (raA N last LL1 A1 c1).toList _ (fun w' hS => Blk.range4 (cs := (raA N last LL1 A1 c1).toList) hS.1) Tryd.underlying29 rfl (by kernel_rfl)) hS ?_
                    have FF0 : Hid (Fr none_ wr wr.drew) := hid_ (Fr.refl none_ wr).drew
                    clear hS
                    refine u_callE 1 (some 126) 15 #[.pointer (some ⟨a, 0, none⟩)] (fun v w' => ∃ A9 c9, v = .slice A9 X1.length c9 ∧ w'.ownsRow wr.drew.heap.size 38 2 (.slice A9 X1.length c9) X1.length (rfFlat X1) ∧ Fr none_ wr.drew w') rfl rfl (by kernel_rfl) (by kernel_rfl) (by kernel_rfl) ((live_ok wr.drew (TW.out.p.pl.ar.keep FF0.out)).mono (fun e w' h => by obtain ⟨A9, c9, h1, h2, h3⟩ := h; rw [HX1.out]; exact ⟨_, h1, A9, c9, rfl, h2, h3⟩)) ?_
                    rintro v r1 ⟨Dr1, dr1, rfl, ho, hf⟩
                    have O1 := hid_ ho
                    have FFr1 := hid_ (FF0.out.then_none hf)
                    clear ho hf
                    refine ⟨⟨TW.out.p.b.fr FFr1.out id, TW.out.q.b.fr FFr1.out id⟩, ?_⟩
                    refine u_callE 3 (some 128) 16 #[.agg (raA N last LL1 A1 c1)] (fun v w' => ∃ A9 c9, v = .slice A9 X1.length c9 ∧ w'.ownsRow r1.heap.size 38 2 (.slice A9 X1.length c9) X1.length (rfFlat X1) ∧ Fr none_ r1 w') rfl rfl (by kernel_rfl) (by kernel_rfl) (by kernel_rfl) ((rlive_ok N last LL1 A1 c1 r1 (by omega) o2 (TW.out.p.pl.ra.keep FFr1.out)).mono (fun e w' h => by obtain ⟨A9, c9, h1, h2, h3⟩ := h; rw [HS1.out.1] at h1 h2; exact ⟨_, h1, A9, c9, rfl, h2, h3⟩)) ?_
                    rintro v r2 ⟨Dr2, dr2, rfl, ho, hf⟩
                    have O2 := hid_ ho
                    replace O1 := hid_ (own_none O1.out hf)
                    have FFr2 := hid_ (FFr1.out.then_none hf)
                    clear ho hf
                    refine ⟨⟨TW.out.p.b.fr FFr2.out id, TW.out.q.b.fr FFr2.out id⟩, ?_⟩
                    refine u_call 4 (some 129) 14 #[.slice Dr1 X1.length dr1, .slice Dr2 X1.length dr2] (.bool true) (Fr none_ r2) rfl rfl (by kernel_rfl) (by kernel_rfl) (by kernel_rfl) (sameRefs_ok X1 Dr1 Dr2 dr1 dr2 r2 hl1 (Reads.of_own O1.out) (Reads.of_own O2.out)) ?_
                    intro r3 hf
                    have FFr3 := hid_ (FFr2.out.then_none hf)
                    clear hf
                    refine ⟨⟨TW.out.p.b.fr FFr3.out id, TW.out.q.b.fr FFr3.out id⟩, ?_⟩
                    refine u_take 5 (some 130) (.bool true) rfl rfl (by kernel_rfl) (by kernel_rfl) (by kernel_rfl) (by kernel_rfl) (fun _ _ _ h => h) (y_val (by kernel_rfl) (fun w' hS => by kernel_rfl)) ⟨TW.out.p.b.fr FFr3.out id, TW.out.q.b.fr FFr3.out id⟩ ?_
                    refine u_take 6 (some 131) (.pointer (some ⟨a2, 0, none⟩)) rfl rfl (by kernel_rfl) (by kernel_rfl) (by kernel_rfl) (by kernel_rfl) (fun _ _ _ h => h) (y_val (by kernel_rfl) (fun w' hS => by kernel_rfl)) ⟨TW.out.p.b.fr FFr3.out id, TW.out.q.b.fr FFr3.out id⟩ ?_
                    refine u_take 8 (some 133) (.agg (raA N last LL3 A3 c3)) rfl rfl (by kernel_rfl) (by kernel_rfl) (by kernel_rfl) (by kernel_rfl) (fun _ _ _ h => h) (yieldsIf_load_mid (by kernel_rfl) 29 (.tmp 16) rfl (B2) 0 (by kernel_rfl) (raA N last LL3 A3 c3).toList _ (fun w' hS => Blk.range4 (cs := (raA N last LL3 A3 c3).toList) hS.2) Tryd.underlying29 rfl (by kernel_rfl)) ⟨TW.out.p.b.fr FFr3.out id, TW.out.q.b.fr FFr3.out id⟩ ?_
                    refine u_callE 7 (some 132) 15 #[.pointer (some ⟨a2, 0, none⟩)] (fun v w' => ∃ A9 c9, v = .slice A9 X2.length c9 ∧ w'.ownsRow r3.heap.size 38 2 (.slice A9 X2.length c9) X2.length (rfFlat X2) ∧ Fr none_ r3 w') rfl rfl (by kernel_rfl) (by kernel_rfl) (by kernel_rfl) ((live_ok r3 (TW.out.q.pl.ar.keep FFr3.out)).mono (fun e w' h => by obtain ⟨A9, c9, h1, h2, h3⟩ := h; rw [HX2.out]; exact ⟨_, h1, A9, c9, rfl, h2, h3⟩)) ?_
                    rintro v r4 ⟨Dr4, dr4, rfl, ho, hf⟩
                    have O4 := hid_ ho
                    have FFr4 := hid_ (FFr3.out.then_none hf)
                    clear ho hf
                    refine ⟨⟨TW.out.p.b.fr FFr4.out id, TW.out.q.b.fr FFr4.out id⟩, ?_⟩
                    refine u_callE 9 (some 134) 16 #[.agg (raA N last LL3 A3 c3)] (fun v w' => ∃ A9 c9, v = .slice A9 X2.length c9 ∧ w'.ownsRow r4.heap.size 38 2 (.slice A9 X2.length c9) X2.length (rfFlat X2) ∧ Fr none_ r4 w') rfl rfl (by kernel_rfl) (by kernel_rfl) (by kernel_rfl) ((rlive_ok N last LL3 A3 c3 r4 (by omega) o2 (TW.out.q.pl.ra.keep FFr4.out)).mono (fun e w' h => by obtain ⟨A9, c9, h1, h2, h3⟩ := h; rw [HS2.out.1] at h1 h2; exact ⟨_, h1, A9, c9, rfl, h2, h3⟩)) ?_
                    rintro v r5 ⟨Dr5, dr5, rfl, ho, hf⟩
                    have O5 := hid_ ho
                    replace O4 := hid_ (own_none O4.out hf)
                    have FFr5 := hid_ (FFr4.out.then_none hf)
                    clear ho hf
                    refine ⟨⟨TW.out.p.b.fr FFr5.out id, TW.out.q.b.fr FFr5.out id⟩, ?_⟩
                    refine u_call 10 (some 135) 14 #[.slice Dr4 X2.length dr4, .slice Dr5 X2.length dr5] (.bool true) (Fr none_ r5) rfl rfl (by kernel_rfl) (by kernel_rfl) (by kernel_rfl) (sameRefs_ok X2 Dr4 Dr5 dr4 dr5 r5 hl2 (Reads.of_own O4.out) (Reads.of_own O5.out)) ?_
                    intro r6 hf
                    have FFr6 := hid_ (FFr5.out.then_none hf)
                    clear hf
                    refine ⟨⟨TW.out.p.b.fr FFr6.out id, TW.out.q.b.fr FFr6.out id⟩, ?_⟩
                    refine u_take 11 (some 136) (.bool true) rfl rfl (by kernel_rfl) (by kernel_rfl) (by kernel_rfl) (by kernel_rfl) (fun _ _ _ h => h) (y_val (by kernel_rfl) (fun w' hS => by kernel_rfl)) ⟨TW.out.p.b.fr FFr6.out id, TW.out.q.b.fr FFr6.out id⟩ ?_
                    refine u_take 12 (some 137) (.bool true) rfl rfl (by kernel_rfl) (by kernel_rfl) (by kernel_rfl) (by kernel_rfl) (fun _ _ _ h => h) (y_val (by kernel_rfl) (fun w' hS => by kernel_rfl)) ⟨TW.out.p.b.fr FFr6.out id, TW.out.q.b.fr FFr6.out id⟩ ?_
                    refine u_call 13 (some 138) 10 #[] (.bool true) (Fr none_ r6) rfl rfl (by kernel_rfl) (by kernel_rfl) (by kernel_rfl) (awake4 r6) ?_
                    intro r7 hf
                    have FFr7 := hid_ (FFr6.out.then_none hf)
                    clear hf
                    refine ⟨⟨TW.out.p.b.fr FFr7.out id, TW.out.q.b.fr FFr7.out id⟩, ?_⟩
                    refine u_take 14 (some 139) (.bool true) rfl rfl (by kernel_rfl) (by kernel_rfl) (by kernel_rfl) (by kernel_rfl) (fun _ _ _ h => h) (y_val (by kernel_rfl) (fun w' hS => by kernel_rfl)) ⟨TW.out.p.b.fr FFr7.out id, TW.out.q.b.fr FFr7.out id⟩ ?_
                    refine u_take 15 (some 8) (.bool true) rfl rfl (by kernel_rfl) (by kernel_rfl) (by kernel_rfl) (by kernel_rfl) (fun _ _ _ h => h) (y_val (by kernel_rfl) (fun w' hS => by kernel_rfl)) ⟨TW.out.p.b.fr FFr7.out id, TW.out.q.b.fr FFr7.out id⟩ ?_
                    refine u_done (by kernel_rfl) ?_
                    simp only [Exit.then]
                    go_frame
                    rename_i hKm
                    refine hKm _ _ ?_
                    go_meet
                    case rel => exact ⟨rfl, FFr7.out⟩
                  case rest =>
                    obtain ⟨rfl, hf⟩ := hcut
                    go_wp2
                    go_ret
                    exact ⟨rfl, TW.out.p.fr.then_none hf⟩
end Go.Proofs.YtfoljojacakkeaaDoor

/- Texts of one proof, merged: PSame10. -/
import Derived.Test.YtfihfjbakfadkaaDoorMsM
namespace Go.Proofs.YtfihfjbakfadkaaDoor
open Go.RowKit Go.BigFrame
set_option maxRecDepth 100000
set_option linter.unusedVariables false

theorem neq_bool10 (b : Bool) (w : World) : (binOp .neq 4 (.bool b) (.bool b)).run Tryd.prog w = .ok (.bool false) w := by cases b <;> kernel_rfl
theorem neq_boolG (x y : Operand) (b : Bool) (w : World) (h : (eqGuard .neq 4 x y (.bool b) (.bool b)).run Tryd.prog w = .ok () w) : (do eqGuard .neq 4 x y (.bool b) (.bool b); binOp .neq 4 (.bool b) (.bool b)).run Tryd.prog w = .ok (.bool false) w := by
  simp only [Sem.run_bind, Result.andThen_ok, h, neq_bool10]
theorem neq_refG (x y : Operand) (s g : Int) (w : World) (h : (eqGuard .neq 25 x y (.agg #[.int .i64 s, .int .i64 g]) (.agg #[.int .i64 s, .int .i64 g])).run Tryd.prog w = .ok () w) : (do eqGuard .neq 25 x y (.agg #[.int .i64 s, .int .i64 g]) (.agg #[.int .i64 s, .int .i64 g]); binOp .neq 25 (.agg #[.int .i64 s, .int .i64 g]) (.agg #[.int .i64 s, .int .i64 g])).run Tryd.prog w = .ok (.bool false) w := by
  simp only [Sem.run_bind, Result.andThen_ok, h, neq_ref]
  simp
theorem u8_rem {x : Int} (h0 : 0 ≤ x) (h1 : x ≤ 255) : x.tmod 2 = x % 2 ∧ IntKind.u8.wrap (x % 2) = x % 2 := by
  refine ⟨Int.tmod_eq_emod_of_nonneg h0, ?_⟩
  obtain h | h : x % 2 = 0 ∨ x % 2 = 1 := by omega
  · rw [h]; rfl
  · rw [h]; rfl
theorem Laid.keep0 {w w' : World} (h : Laid w) (hf : Fr none_ w w') : Laid w' := h.fr hf id
theorem tuple_inj10 {pv qv : Array Value} {ev fv : Value} (h : Value.tuple #[.agg pv, ev] = .tuple #[.agg qv, fv]) : pv = qv ∧ ev = fv := by
  injection h with h
  simpa using h
theorem ref_range10 {w : World} {g : Nat} {t : TypeId} {n hs hg : Int} {vc vr va vb : Value} {leaf : Bool} {lv : Lw} {iv : Vw} (h : Blk w g t (pgA n hs hg vc vr leaf lv va iv vb)) : w.rangeAt g 1 [.int .i64 hs, .int .i64 hg] := fun j v hv => by
  rw [h.cell]
  match j, hv with
  | 0, hv => exact hv
  | 1, hv => exact hv
  | k + 2, hv => simp at hv
set_option maxHeartbeats 16000000 in
theorem psame10_law (A : Option Addr) (n cap : Nat) (L : List Ch) (T : Option Addr) (tn tc : Nat) (N : List Int) (w : World) (h : InReads w A n L) (hw : RwIn L) (hm : n ≤ maxLen) (ht : U8Reads w T tn N) (htm : tn ≤ maxLen) (hL : Laid w) :
    Calls Tryd.prog 4 #[.slice A n cap, .slice T tn tc] w (RetQ (.bool true) w) := by
  have H := hid_ h
  have HW := hid_ hw
  have HT := hid_ ht
  have HL := hid_ hL
  have HM := hid_ (And.intro hm htm)
  have hln := h.1
  have htn0 : (0 : Int) ≤ (tn : Int) := Int.natCast_nonneg _
  clear h hw ht hL hm htm
  go_enter Tryd.func4, Tryd.ntmps4
  go_wp2_with fail
  refine (few10_ok A n cap L w H.out HW.out HM.out.1).mono ?_
  rintro e w1 ⟨b, rfl, hb, hf⟩
  have G0 := hid_ hb
  have F1 := hid_ hf
  clear hb hf
  cases b with
  | false =>
    go_wp2_with fail
    refine (awake10_ok w1).mono ?_
    rintro e w2 ⟨rfl, hf⟩
    go_wp2_with fail
    go_ret
    exact ⟨rfl, F1.out.then_none hf⟩
  | true =>
  by_cases ht2 : ¬ tn ≤ 200
  · have d0 : decide (200 < (tn : Int)) = true := decide_eq_true (by omega)
    clear ht2
    go_wp2_with fail
    refine (awake10_ok w1).mono ?_
    rintro e w2 ⟨rfl, hf⟩
    go_wp2_with fail
    go_ret
    exact ⟨rfl, F1.out.then_none hf⟩
  have d0 : decide (200 < (tn : Int)) = false := decide_eq_false (by omega)
  have HT2 := hid_ (Decidable.not_not.1 ht2)
  clear ht2
  have PI : Hid (PuIn w A n L ∧ n ≤ 40) := hid_ ⟨⟨H.out, few_prec H.out HW.out (G0.out rfl).1 (G0.out rfl).2.1⟩, (G0.out rfl).2.2⟩
  clear G0
  go_wp2_with fail
  refine (limits10_ok w1).mono ?_
  rintro e w2 ⟨rfl, hf2⟩
  have F2 := hid_ (F1.out.then_none hf2)
  clear hf2 F1
  go_wp2_with fail
  refine (memNew_ok lim10 _ lim10_right).mono ?_
  rintro e w3 ⟨m, a, G, vr, ve, T0, H0, C0, M0, rfl, hM, hf3, hm3, hC3, hM3, hG3, hH3⟩
  obtain ⟨x, hx⟩ : ∃ x : St, x = ⟨a, G, ss10 vr ve, T0, H0, ps10, C0, M0, 1, 0, .map []⟩ := ⟨_, rfl⟩
  have M3 : Hid (Mm w3 m 0 lim10 x) := hid_ (by rw [hx]; exact hM)
  have PS : Hid (Pst x [0] 1 1) := hid_ (by rw [hx]; exact pst_new vr ve a G T0 H0 C0 M0)
  have HN : Hid (∀ i, mall m x i → w.heap.size ≤ i) := hid_ (by
    have h0 := F2.out.size
    subst hx
    rintro i (e | e | e | e | e) <;> subst e <;> omega)
  have F3 := hid_ (F2.out.then_none hf3)
  clear hM hf3 hx hm3 hC3 hM3 hG3 hH3 F2
  go_wp2_with fail
  refine (push10_ok true w3 PI.out.1 F3.out (by have := PI.out.2; omega) M3.out PS.out (by simp) HN.out (by omega) (by omega)).mono ?_
  rintro e w4 ⟨rfl, y, js, s0, g0, K, hps⟩
  have PU := hid_ hps
  have F4 : Hid (Fr none_ w w4) := hid_ (fr_old F3.out HN.out hps.fr)
  have HY : Hid (∀ i, mall m y i → w.heap.size ≤ i) := hid_ (by rw [hps.al]; exact HN.out)
  clear hps M3 PS F3
  go_wp2_with fail
  refine (ldBegin_ok 0 w4).mono ?_
  rintro e w5 ⟨rfl, hL5, hf5⟩
  have L5 := hid_ hL5
  have F5 := hid_ hf5
  clear hL5 hf5
  go_wp2_with fail
  refine (ldBegin_ok 0 w5).mono ?_
  rintro e w6 ⟨rfl, hL6, hf6⟩
  have L6 := hid_ hL6
  have F6 := hid_ hf6
  clear hL6 hf6
  go_upto_region 6 with fail
  obtain ⟨w7, hw7⟩ : ∃ z, z = w6.alloc (.cells #[.pointer (some ⟨w4.heap.size, 0, none⟩), .pointer (some ⟨w5.heap.size, 0, none⟩)] 74) := ⟨_, rfl⟩
  have K7 : Hid (Blk w7 w6.heap.size 74 #[.pointer (some ⟨w4.heap.size, 0, none⟩), .pointer (some ⟨w5.heap.size, 0, none⟩)] ∧ Fr none_ w6 w7) := hid_ (by rw [hw7]; exact ⟨Blk.new w6 _ _, (Fr.refl none_ w6).alloc _⟩)
  change Code.wp _ _ _ _ (w6.alloc (.cells #[.pointer (some ⟨w4.heap.size, 0, none⟩), .pointer (some ⟨w5.heap.size, 0, none⟩)] 74))
  rw [← hw7]
  clear hw7
  obtain ⟨b0, hb0⟩ : ∃ b, b = w4.heap.size := ⟨_, rfl⟩
  obtain ⟨gb, hgb⟩ : ∃ b, b = w5.heap.size := ⟨_, rfl⟩
  obtain ⟨gX, hgX⟩ : ∃ b, b = w6.heap.size := ⟨_, rfl⟩
  have TK : Hid (TwK w b0 m K y js s0 g0) := hid_ (by
    have h1 := PU.out.k0
    have h2 := PU.out.k1
    have h3 := PU.out.le
    have h4 := PI.out.2
    simp only [List.length_cons, List.length_nil] at h3
    have hl : js.length ≤ 41 := by omega
    rw [hb0]
    exact ⟨PU.out.mm.mall_lt, HY.out, F4.out.size, h1, by omega, ⟨PU.out.p, PU.out.ne, by show js.length ≤ 100; omega, by omega⟩⟩)
  have TS : Hid (TwS w b0 m K y js s0 g0 gX b0 gb w7 0 0 (LdS.new 0) (LdS.new 0)) := hid_ (by
    rw [hb0, hgb, hgX]
    have h5 := L5.out.b.lt
    refine ⟨⟨?_, ((L5.out.keep F6.out).keep K7.out.2), (L6.out.base F5.out.size).keep K7.out.2, LdPh.new _ _ _ _ _, LdPh.new _ _ _ _ _, ⟨fun k hk => (by cases hk), fun k hk => (by cases hk)⟩, by omega⟩, K7.out.1, ((F4.out.then_none F5.out).then_none F6.out).then_none K7.out.2⟩
    have := ((PU.out.mm.keep F5.out).keep F6.out).keep K7.out.2
    simpa using this)
  rw [← hb0, ← hgb, ← hgX]
  have HJ : Hid (js.length ≤ 100) := hid_ TK.out.len
  clear hb0 hgb hgX K7 L5 L6 F5 F6 F4 HY HN
  go_wp2_with fail
  go_loopw [40] (fun i wr => ∃ (k p q : Nat) (s t : LdS), k ≤ tn ∧ i = .int .i64 k ∧ TwS w b0 m K y js s0 g0 gX b0 gb wr p q s t) (fun i _ => tn - (intOf i).toNat)
  case atStart => exact ⟨0, 0, 0, _, _, Nat.zero_le _, rfl, TS.out⟩
  case round =>
    obtain ⟨k, p, q, s, t, hk, rfl, hts⟩ := hrel
    have S := hid_ hts
    have hi0 : (0 : Int) ≤ (k : Int) := Int.natCast_nonneg _
    clear hts TS
    by_cases hlt : k < tn
    · have hi1 : (k : Int) < (tn : Int) := by omega
      have hi2 : (k : Int) ≤ 200 := by have := HT2.out; omega
      obtain ⟨tb, toff, v, rfl, hbb, hc, hv0, hv1⟩ := (HT.out.keep S.out.fr).at_ hlt
      obtain ⟨e1, e2⟩ := u8_rem hv0 hv1
      have c0 : wr.cell? ⟨gX, 0, none⟩ = some (.pointer (some ⟨b0, 0, none⟩)) := S.out.bx.cell' rfl
      have c1 : wr.cell? ⟨gX, 1, none⟩ = some (.pointer (some ⟨gb, 0, none⟩)) := S.out.bx.cell' rfl
      have hv2 : v % 2 = 0 ∨ v % 2 = 1 := by omega
      have HK := hid_ hk
      rcases hv2 with hv2 | hv2
      · rw [hv2] at e1 e2
        clear hv0 hv1 hv2 hk
        go_wp2_with fail
        refine (tws_a S.out TK.out).mono ?_
        rintro e w8 ⟨s8, rfl, hs8⟩
        have S8 := hid_ hs8
        clear hs8 S c0 c1
        go_wp2_with fail
        go_roundw
        case rel => exact ⟨k + 1, _, _, _, _, by omega, by go_num, S8.out⟩
        case measure => simp [intOf]; omega
      · rw [hv2] at e1 e2
        clear hv0 hv1 hv2 hk
        go_wp2_with fail
        refine (tws_b S.out TK.out).mono ?_
        rintro e w8 ⟨s8, rfl, hs8⟩
        have S8 := hid_ hs8
        clear hs8 S c0 c1
        go_wp2_with fail
        go_roundw
        case rel => exact ⟨k + 1, _, _, _, _, by omega, by go_num, S8.out⟩
        case measure => simp [intOf]; omega
    · obtain rfl : k = tn := by omega
      clear hk hlt hi0
      have S0 := S
      clear S
      go_wp2_with fail
      obtain ⟨wx, rfl⟩ : ∃ wx : World, wx = wr := ⟨_, rfl⟩
      go_loopw [54] (fun i wr => ∃ (c p q : Nat) (s t : LdS), c ≤ 2 ∧ i = .int .i64 c ∧ (1 ≤ c → p = js.length + 1) ∧ (2 ≤ c → q = js.length + 1) ∧ TwS w b0 m K y js s0 g0 gX b0 gb wr p q s t) (fun i _ => 2 - (intOf i).toNat)
      case atStart => exact ⟨0, p, q, s, t, by omega, rfl, by omega, by omega, S0.out⟩
      case round =>
        obtain ⟨c, p, q, s, t, hc, rfl, hp1, hq1, hts⟩ := hrel
        have S := hid_ hts
        clear hts S0
        have c0 : wr.cell? ⟨gX, 0, none⟩ = some (.pointer (some ⟨b0, 0, none⟩)) := S.out.bx.cell' rfl
        have c1 : wr.cell? ⟨gX, 1, none⟩ = some (.pointer (some ⟨gb, 0, none⟩)) := S.out.bx.cell' rfl
        obtain rfl | rfl | rfl : c = 0 ∨ c = 1 ∨ c = 2 := by omega
        · have HP : Hid (True) := hid_ (trivial)
          clear hc hp1 hq1
          rw [show (((0 : Nat) : Int)) = 0 from rfl]
          go_wp2_with fail
          obtain ⟨wx, rfl⟩ : ∃ wx : World, wx = wr := ⟨_, rfl⟩
          go_loopw [12] (fun i wr => ∃ (v p' : Nat) (s' : LdS), i = .int .i64 v ∧ v ≤ p' ∧ p' ≤ js.length + 1 ∧ TwS w b0 m K y js s0 g0 gX b0 gb wr p' q s' t) (fun i _ => 400 - (intOf i).toNat)
          case atStart => exact ⟨0, p, s, rfl, Nat.zero_le _, S.out.tw.pa.le, S.out⟩
          case round =>
            obtain ⟨v, p', s', rfl, hv, hp', hts⟩ := hrel
            have S2 := hid_ hts
            have HV := hid_ (And.intro hv hp')
            clear hts hv hp' S c0 c1
            go_wp2_with fail
            refine (tws_a S2.out TK.out).mono ?_
            rintro e w8 ⟨s8, rfl, hs8⟩
            have S8 := hid_ hs8
            clear hs8 S2
            by_cases hj : js.length ≤ p'
            · rw [decide_eq_true hj]
              have HJP := hid_ hj
              clear hj
              go_wp2_with fail
              go_roundw
              case rel =>
                have hmin : min (p' + 1) (js.length + 1) = js.length + 1 := Nat.min_eq_right (by have := HJP.out; omega)
                refine ⟨1, _, _, _, _, by omega, by go_num, ?_, ?_, S8.out⟩
                · intro _; exact hmin
                · intro h; omega
              case measure => simp [intOf]
            · rw [decide_eq_false hj]
              have d3 : decide (300 < (v : Int)) = false := decide_eq_false (by have := HJ.out; have := HV.out.1; omega)
              have hv3 : (v : Int) ≤ 300 := by have := HJ.out; have := HV.out.1; omega
              have HJP := hid_ hj
              clear hj
              go_wp2_with fail
              go_roundw
              case rel => exact ⟨v + 1, _, _, by go_num, by have h1 := HV.out.1; have h2 := HJP.out; rw [Nat.min_eq_left (by omega)]; omega, Nat.min_le_right _ _, S8.out⟩
              case measure => have h1 := HV.out.1; have h2 := HJP.out; have h3 := HJ.out; simp [intOf]; omega
        · have HP : Hid (p = js.length + 1) := hid_ (hp1 (by omega))
          clear hc hp1 hq1
          rw [show (((1 : Nat) : Int)) = 1 from rfl]
          go_wp2_with fail
          obtain ⟨wx, rfl⟩ : ∃ wx : World, wx = wr := ⟨_, rfl⟩
          go_loopw [12] (fun i wr => ∃ (v p' : Nat) (s' : LdS), i = .int .i64 v ∧ v ≤ p' ∧ p' ≤ js.length + 1 ∧ TwS w b0 m K y js s0 g0 gX b0 gb wr p p' s s') (fun i _ => 400 - (intOf i).toNat)
          case atStart => exact ⟨0, q, t, rfl, Nat.zero_le _, S.out.tw.pb.le, S.out⟩
          case round =>
            obtain ⟨v, p', s', rfl, hv, hp', hts⟩ := hrel
            have S2 := hid_ hts
            have HV := hid_ (And.intro hv hp')
            clear hts hv hp' S c0 c1
            go_wp2_with fail
            refine (tws_b S2.out TK.out).mono ?_
            rintro e w8 ⟨s8, rfl, hs8⟩
            have S8 := hid_ hs8
            clear hs8 S2
            by_cases hj : js.length ≤ p'
            · rw [decide_eq_true hj]
              have HJP := hid_ hj
              clear hj
              go_wp2_with fail
              go_roundw
              case rel =>
                have hmin : min (p' + 1) (js.length + 1) = js.length + 1 := Nat.min_eq_right (by have := HJP.out; omega)
                refine ⟨2, _, _, _, _, by omega, by go_num, ?_, ?_, S8.out⟩
                · intro _; exact HP.out
                · intro _; exact hmin
              case measure => simp [intOf]
            · rw [decide_eq_false hj]
              have d3 : decide (300 < (v : Int)) = false := decide_eq_false (by have := HJ.out; have := HV.out.1; omega)
              have hv3 : (v : Int) ≤ 300 := by have := HJ.out; have := HV.out.1; omega
              have HJP := hid_ hj
              clear hj
              go_wp2_with fail
              go_roundw
              case rel => exact ⟨v + 1, _, _, by go_num, by have h1 := HV.out.1; have h2 := HJP.out; rw [Nat.min_eq_left (by omega)]; omega, Nat.min_le_right _ _, S8.out⟩
              case measure => have h1 := HV.out.1; have h2 := HJP.out; have h3 := HJ.out; simp [intOf]; omega
        · obtain rfl : p = js.length + 1 := hp1 (by omega)
          obtain rfl : q = js.length + 1 := hq1 (by omega)
          clear hc hp1 hq1
          rw [show (((2 : Nat) : Int)) = 2 from rfl]
          have HL1 := hid_ S.out.tw.a
          have HL2 := hid_ S.out.tw.b
          have HP1 := hid_ S.out.tw.pa
          have HP2 := hid_ S.out.tw.pb
          have FS := hid_ S.out.fr
          have BX := hid_ S.out.bx
          clear S
          have HRC : Hid (∀ j ∈ js, PRec (recOf y.ss j)) := hid_ TK.out.on_.p.rc
          go_wp2_with fail
          refine (ph_page HL1.out HP1.out HRC.out (by have := HJ.out; omega)).mono ?_
          rintro e w9 ⟨v9, rfl, hmd⟩
          obtain ⟨pv, ev, rfl, hps, hpo⟩ := hmd.shape
          have MD1 := hid_ hmd
          have F9 := hid_ hmd.2
          clear hmd c0 c1
          go_upto_region 21 with (refine wpList_store_mid rfl 83 (.tmp 13) (.tmp 72) rfl w9.heap.size 0 pv rfl rfl (by rw [hps]; exact new_there w9 _ pgZ) (by rw [hps]; exact page_size) hpo ?_; obtain ⟨w10, hw_⟩ : ∃ z, z = (w9.alloc (.cells pgZ 83)).setCells w9.heap.size 0 pv.toList := ⟨_, rfl⟩; change wpList _ _ _ _ _ ((w9.alloc (.cells pgZ 83)).setCells w9.heap.size 0 pv.toList); rw [← hw_]; have Q_w10 : Hid (Blk w10 w9.heap.size 83 pv ∧ Fr none_ w9 w10) := hid_ (by rw [hw_]; have h9 := new_copy w9 83 pgZ pv.toList (by rw [Array.length_toList, hps]; rfl); simpa using h9); clear hw_)
          have BX2 := hid_ ((BX.out.fr F9.out id).fr Q_w10.out.2 id)
          have c1 : w10.cell? ⟨gX, 1, none⟩ = some (.pointer (some ⟨gb, 0, none⟩)) := BX2.out.cell' rfl
          have F10 : Hid (Fr none_ wr w10) := hid_ (F9.out.then_none Q_w10.out.2)
          go_wp2_with fail
          refine (ph_page (HL2.out.keep F10.out) HP2.out HRC.out (by have := HJ.out; omega)).mono ?_
          rintro e w11 ⟨v11, rfl, hmd⟩
          obtain ⟨qv, fv, rfl, hqs, hqo⟩ := hmd.shape
          have MD2 := hid_ hmd
          have F11 := hid_ hmd.2
          clear hmd c1 BX BX2
          go_upto_region 22 with (refine wpList_store_mid rfl 83 (.tmp 15) (.tmp 79) rfl w11.heap.size 0 qv rfl rfl (by rw [hqs]; exact new_there w11 _ pgZ) (by rw [hqs]; exact page_size) hqo ?_; obtain ⟨w12, hw_⟩ : ∃ z, z = (w11.alloc (.cells pgZ 83)).setCells w11.heap.size 0 qv.toList := ⟨_, rfl⟩; change wpList _ _ _ _ _ ((w11.alloc (.cells pgZ 83)).setCells w11.heap.size 0 qv.toList); rw [← hw_]; have Q_w12 : Hid (Blk w12 w11.heap.size 83 qv ∧ Fr none_ w11 w12) := hid_ (by rw [hw_]; have h9 := new_copy w11 83 pgZ qv.toList (by rw [Array.length_toList, hqs]; rfl); simpa using h9); clear hw_)
          have HTP : Hid (∃ (n hs hg : Int) (leaf : Bool) (lv : Lw) (iv : Vw) (refs : List (Int × Int)) (nc : Nat) (C D A B C2 D2 A2 B2 : Option Addr) (x y c d x2 y2 c2 d2 : Nat) (k : Int),
                pv = pgA n hs hg (.slice C nc x) (.slice D refs.length y) leaf lv (.slice A lv.rows.length c) iv (.slice B iv.ents.length d) ∧ ev = errOf k ∧
                qv = pgA n hs hg (.slice C2 nc x2) (.slice D2 refs.length y2) leaf lv (.slice A2 lv.rows.length c2) iv (.slice B2 iv.ents.length d2) ∧ fv = errOf k ∧
                ∃ L L2, TwoPg w12 lv iv refs nc L L2 C C2 D D2) := hid_ (by
            have d1 := HP1.out.done
            have d2 := HP2.out.done
            have l1 := HP1.out.len
            have hj := HJ.out
            obtain ⟨n, hs, hg, leaf, lv, iv, refs, nc, C, D, A, B, C2, D2, A2, B2, x, y, c, d, x2, y2, c2, d2, k, e1, e2, e3⟩ := two_pages MD1.out MD2.out (d1.2.2.2.2.1.trans d2.2.2.2.2.1.symm) (d1.2.2.2.2.2.trans d2.2.2.2.2.2.symm) (HP1.out.nn.trans HP2.out.nn.symm) (d1.2.2.1.trans d2.2.2.1.symm) (d1.2.2.2.1.trans d2.2.2.2.1.symm) (by omega) (by omega) (fun R hR => by
              obtain ⟨C, hC, rfl⟩ := List.mem_map.1 hR
              exact HP1.out.recs HRC.out C hC)
            have z1 := tuple_inj10 e1
            have z2 := tuple_inj10 e2
            exact ⟨n, hs, hg, leaf, lv, iv, refs, nc, C, D, A, B, C2, D2, A2, B2, x, y, c, d, x2, y2, c2, d2, k, z1.1, z1.2, z2.1, z2.2, e3 w12 ((Q_w10.out.2.then_none F11.out).then_none Q_w12.out.2) Q_w12.out.2⟩)
          have F12 : Hid (Fr none_ w w12) := hid_ (((FS.out.then_none F10.out).then_none F11.out).then_none Q_w12.out.2)
          have HL12 : Hid (Laid w12) := hid_ (HL.out.keep0 F12.out)
          obtain ⟨gP, hgP⟩ : ∃ g, g = w9.heap.size := ⟨_, rfl⟩
          obtain ⟨gQ, hgQ⟩ : ∃ g, g = w11.heap.size := ⟨_, rfl⟩
          have BP := hid_ ((Q_w10.out.1.fr F11.out id).fr Q_w12.out.2 id)
          have BQ := hid_ Q_w12.out.1
          rw [← hgP] at BP
          rw [← hgQ] at BQ
          rw [← hgP, ← hgQ]
          obtain ⟨n1, hs, hg, leaf, lv, iv, refs, nc, C, D, A4, B, C2, D2, A2, B2, x1, y1, c, d, x2, y2, c2, d2, k1, rfl, rfl, rfl, rfl, L1, L2, htp⟩ := HTP.out
          have TP := hid_ htp
          clear htp hps hpo hqs hqo HTP MD1 MD2 HL1 HL2 HP1 HP2 F9 F10 F11 Q_w10 Q_w12 hgP hgQ HRC FS TK
          obtain ⟨P, hP⟩ : ∃ P : Pz, P = ⟨n1, hs, hg, C, nc, x1, .slice D refs.length y1, leaf, lv, A4, c, iv, B, d⟩ := ⟨_, rfl⟩
          obtain ⟨Q, hQ⟩ : ∃ P : Pz, P = ⟨n1, hs, hg, C2, nc, x2, .slice D2 refs.length y2, leaf, lv, A2, c2, iv, B2, d2⟩ := ⟨_, rfl⟩
          have HPQ : Hid (Blk w12 gP 83 (pzA P) ∧ Blk w12 gQ 83 (pzA Q) ∧ P.lv = lv ∧ P.iv = iv ∧ Q.size = P.size ∧ Q.lv = lv ∧ Q.iv = iv) := hid_ (by rw [hP, hQ]; exact ⟨BP.out, BQ.out, rfl, rfl, rfl, rfl, rfl⟩)
          clear hP hQ
          go_cut [123] (fun u wq => u = .bool false ∧ Fr none_ w12 wq)
          case first =>
            refine wp_region_q7 (fun w' => Fr none_ w12 w') (by kernel_rfl) (by kernel_rfl) (Fr.refl none_ w12).drew ?_
            refine q_val7 (some 81) (errOf k1) rfl (by kernel_rfl) (fun w' hC => by kernel_rfl) ?_
            refine q_call7 (some 82) (.int .i64 k1) 17 #[errOf k1] rfl (by kernel_rfl) (fun w' hC => by kernel_rfl) (fun w' hC => (code_any k1 w' (HL12.out.keep0 hC)).mono (fun e w2 h => ⟨h.1, hC.then_none h.2⟩)) ?_
            refine q_val7 (some 83) (errOf k1) rfl (by kernel_rfl) (fun w' hC => by kernel_rfl) ?_
            refine q_call7 (some 84) (.int .i64 k1) 17 #[errOf k1] rfl (by kernel_rfl) (fun w' hC => by kernel_rfl) (fun w' hC => (code_any k1 w' (HL12.out.keep0 hC)).mono (fun e w2 h => ⟨h.1, hC.then_none h.2⟩)) ?_
            refine q_bool7 (some 85) ((k1 != k1)) false (by simp) rfl (by kernel_rfl) (fun w' hC => by kernel_rfl) ?_
            refine q_val7 (some 86) (.bool false) rfl (by kernel_rfl) (fun w' hC => by kernel_rfl) ?_
            refine q_val7 (some 87) (.pointer (some ⟨gP, 1, none⟩)) rfl (by kernel_rfl) (fun w' hC => by kernel_rfl) ?_
            refine q_mid7 (some 88) [.int .i64 hs, .int .i64 hg] 25 (.tmp 87) gP 1 _ rfl (by kernel_rfl) rfl (by kernel_rfl) ((fun w' hC => ref_range10 (BP.out.fr hC id))) Tryd.underlying25 rfl (ref_size9) ?_
            refine q_val7 (some 89) (.pointer (some ⟨gQ, 1, none⟩)) rfl (by kernel_rfl) (fun w' hC => by kernel_rfl) ?_
            refine q_mid7 (some 90) [.int .i64 hs, .int .i64 hg] 25 (.tmp 89) gQ 1 _ rfl (by kernel_rfl) rfl (by kernel_rfl) ((fun w' hC => ref_range10 (BQ.out.fr hC id))) Tryd.underlying25 rfl (ref_size9) ?_
            refine q_op7 (some 91) (.bool false) (do eqGuard .neq 25 (.tmp 88) (.tmp 90) (.agg #[.int .i64 hs, .int .i64 hg]) (.agg #[.int .i64 hs, .int .i64 hg]); binOp .neq 25 (.agg #[.int .i64 hs, .int .i64 hg]) (.agg #[.int .i64 hs, .int .i64 hg])) rfl (by kernel_rfl) (by kernel_rfl) (fun w' hC => neq_refG _ _ hs hg w' (by kernel_rfl)) ?_
            refine q_val7 (some 92) (.bool false) rfl (by kernel_rfl) (fun w' hC => by kernel_rfl) ?_
            refine q_val7 (some 93) (.bool false) rfl (by kernel_rfl) (fun w' hC => by kernel_rfl) ?_
            refine q_val7 (some 94) (.pointer (some ⟨gP, 5, none⟩)) rfl (by kernel_rfl) (fun w' hC => by kernel_rfl) ?_
            refine q_cell7 (some 95) (.bool leaf) 4 (.tmp 94) ⟨gP, 5, none⟩ _ rfl (by kernel_rfl) rfl (by kernel_rfl) ((fun w' hC => (BP.out.fr hC id).cell' rfl)) Tryd.underlying4 rfl ?_
            refine q_val7 (some 96) (.pointer (some ⟨gQ, 5, none⟩)) rfl (by kernel_rfl) (fun w' hC => by kernel_rfl) ?_
            refine q_cell7 (some 97) (.bool leaf) 4 (.tmp 96) ⟨gQ, 5, none⟩ _ rfl (by kernel_rfl) rfl (by kernel_rfl) ((fun w' hC => (BQ.out.fr hC id).cell' rfl)) Tryd.underlying4 rfl ?_
            refine q_op7 (some 98) (.bool false) (do eqGuard .neq 4 (.tmp 95) (.tmp 97) (.bool leaf) (.bool leaf); binOp .neq 4 (.bool leaf) (.bool leaf)) rfl (by kernel_rfl) (by kernel_rfl) (fun w' hC => neq_boolG _ _ leaf w' (by kernel_rfl)) ?_
            refine q_val7 (some 99) (.bool false) rfl (by kernel_rfl) (fun w' hC => by kernel_rfl) ?_
            refine q_val7 (some 100) (.bool false) rfl (by kernel_rfl) (fun w' hC => by kernel_rfl) ?_
            refine q_mid7 (some 101) (pzA P).toList 83 (.tmp 13) gP 0 _ rfl (by kernel_rfl) rfl (by kernel_rfl) ((fun w' hC => Blk.range7 (l := (pzA P).toList) (HPQ.out.1.fr hC id))) Tryd.underlying83 rfl (page_size) ?_
            refine q_call7 (some 102) (.int .i64 (P.size : Nat)) 25 #[.agg (pzA P)] rfl (by kernel_rfl) (fun w' hC => by kernel_rfl) (fun w' hC => (psize_ok P w' (by rw [HPQ.out.2.2.1]; exact TP.out.zl) (by rw [HPQ.out.2.2.2.1]; exact TP.out.zi)).mono (fun e w2 h => ⟨h.1, hC.then_none h.2⟩)) ?_
            refine q_mid7 (some 103) (pzA Q).toList 83 (.tmp 15) gQ 0 _ rfl (by kernel_rfl) rfl (by kernel_rfl) ((fun w' hC => Blk.range7 (l := (pzA Q).toList) (HPQ.out.2.1.fr hC id))) Tryd.underlying83 rfl (page_size) ?_
            refine q_call7 (some 104) (.int .i64 (P.size : Nat)) 25 #[.agg (pzA Q)] rfl (by kernel_rfl) (fun w' hC => by kernel_rfl) (fun w' hC => (psize_ok Q w' (by rw [HPQ.out.2.2.2.2.2.1]; exact TP.out.zl) (by rw [HPQ.out.2.2.2.2.2.2]; exact TP.out.zi)).mono (fun e w2 h => ⟨by rw [h.1, HPQ.out.2.2.2.2.1], hC.then_none h.2⟩)) ?_
            refine q_bool7 (some 105) ((((P.size : Nat) : Int) != ((P.size : Nat) : Int))) false (by simp) rfl (by kernel_rfl) (fun w' hC => by kernel_rfl) ?_
            refine q_val7 (some 106) (.bool false) rfl (by kernel_rfl) (fun w' hC => by kernel_rfl) ?_
            refine q_val7 (some 107) (.bool false) rfl (by kernel_rfl) (fun w' hC => by kernel_rfl) ?_
            refine q_val7 (some 108) (.pointer (some ⟨gP, 3, none⟩)) rfl (by kernel_rfl) (fun w' hC => by kernel_rfl) ?_
            refine q_cell7 (some 109) (.slice C nc x1) 61 (.tmp 108) ⟨gP, 3, none⟩ _ rfl (by kernel_rfl) rfl (by kernel_rfl) ((fun w' hC => (BP.out.fr hC id).cell' rfl)) Tryd.underlying61 rfl ?_
            refine q_val7 (some 110) (.int .i64 (nc : Int)) rfl (by kernel_rfl) (fun w' hC => by kernel_rfl) ?_
            refine q_val7 (some 111) (.pointer (some ⟨gQ, 3, none⟩)) rfl (by kernel_rfl) (fun w' hC => by kernel_rfl) ?_
            refine q_cell7 (some 112) (.slice C2 nc x2) 61 (.tmp 111) ⟨gQ, 3, none⟩ _ rfl (by kernel_rfl) rfl (by kernel_rfl) ((fun w' hC => (BQ.out.fr hC id).cell' rfl)) Tryd.underlying61 rfl ?_
            refine q_val7 (some 113) (.int .i64 (nc : Int)) rfl (by kernel_rfl) (fun w' hC => by kernel_rfl) ?_
            refine q_bool7 (some 114) (((nc : Int) != (nc : Int))) false (by simp) rfl (by kernel_rfl) (fun w' hC => by kernel_rfl) ?_
            refine q_val7 (some 115) (.bool false) rfl (by kernel_rfl) (fun w' hC => by kernel_rfl) ?_
            refine q_val7 (some 116) (.bool false) rfl (by kernel_rfl) (fun w' hC => by kernel_rfl) ?_
            refine q_val7 (some 117) (.pointer (some ⟨gP, 4, none⟩)) rfl (by kernel_rfl) (fun w' hC => by kernel_rfl) ?_
            refine q_cell7 (some 118) (.slice D refs.length y1) 62 (.tmp 117) ⟨gP, 4, none⟩ _ rfl (by kernel_rfl) rfl (by kernel_rfl) ((fun w' hC => (BP.out.fr hC id).cell' rfl)) Tryd.underlying62 rfl ?_
            refine q_val7 (some 119) (.pointer (some ⟨gQ, 4, none⟩)) rfl (by kernel_rfl) (fun w' hC => by kernel_rfl) ?_
            refine q_cell7 (some 120) (.slice D2 refs.length y2) 62 (.tmp 119) ⟨gQ, 4, none⟩ _ rfl (by kernel_rfl) rfl (by kernel_rfl) ((fun w' hC => (BQ.out.fr hC id).cell' rfl)) Tryd.underlying62 rfl ?_
            refine q_call7 (some 121) (.bool true) 16 #[.slice D refs.length y1, .slice D2 refs.length y2] rfl (by kernel_rfl) (fun w' hC => by kernel_rfl) (fun w' hC => (sameRefs10_ok refs D D2 y1 y2 w' TP.out.zr (TP.out.r1.none_fr hC) (TP.out.r2.none_fr hC)).mono (fun e w2 h => ⟨h.1, hC.then_none h.2⟩)) ?_
            refine q_val7 (some 122) (.bool false) rfl (by kernel_rfl) (fun w' hC => by kernel_rfl) ?_
            refine q_val7 (some 123) (.bool false) rfl (by kernel_rfl) (fun w' hC => by kernel_rfl) ?_
            refine q_done7 ?_
            intro w13 hf13
            (try simp only [Exit.then])
            (try go_frame)
            (first | (rename_i hKm; refine hKm _ _ ?_) | (rename_i hKm _; refine hKm _ _ ?_) | (rename_i hKm _ _; refine hKm _ _ ?_) | (rename_i hKm _ _ _; refine hKm _ _ ?_))
            go_meet
            case rel => exact ⟨rfl, hf13⟩
          case rest =>
            obtain ⟨rfl, hf13⟩ := hcut
            replace BP := hid_ (BP.out.fr hf13 id)
            replace BQ := hid_ (BQ.out.fr hf13 id)
            replace TP := hid_ (TP.out.keep hf13)
            replace F12 := hid_ (F12.out.then_none hf13)
            clear hf13 HPQ HL12
            have p3 : wc.cell? ⟨gP, 3, none⟩ = some (.slice C nc x1) := BP.out.cell' rfl
            go_wp2_with fail
            obtain ⟨wx, rfl⟩ : ∃ z : World, z = wc := ⟨_, rfl⟩
            go_loopw [127] (fun i wr => ∃ k : Nat, k ≤ nc ∧ i = .int .i64 k ∧ Fr none_ wx wr) (fun i _ => nc - (intOf i).toNat)
            case atStart => exact ⟨0, Nat.zero_le _, rfl, Fr.refl _ _⟩
            case round =>
              obtain ⟨k, hk, rfl, hfr⟩ := hrel
              obtain ⟨wy, rfl⟩ : ∃ z : World, z = wr := ⟨_, rfl⟩
              have FR := hid_ hfr
              have BPr := hid_ (BP.out.fr hfr id)
              have BQr := hid_ (BQ.out.fr hfr id)
              have Hr := hid_ (TP.out.ch.keep hfr)
              have hi0 : (0 : Int) ≤ (k : Int) := Int.natCast_nonneg _
              clear hfr p3
              by_cases hlt : k < nc
              · obtain ⟨R, A5, A6, B5, B6, c5, c6, d5, d6, b1, o1, b2, o2, rfl, rfl, r1, r2, e1, e2, z1, z2⟩ := Hr.out.at_ hlt
                have R1 := hid_ r1
                have R2 := hid_ r2
                have E := hid_ (And.intro e1 (And.intro e2 (And.intro z1 z2)))
                have hi1 : (k : Int) < (nc : Int) := by omega
                have hi2 : (k : Int) ≤ 400 := by have := TP.out.zc; omega
                clear r1 r2 e1 e2 z1 z2
                go_upto_region 27 with fail
                (try go_frame)
                go_cut [141] (fun u wq => u = .bool false ∧ Fr none_ wy wq)
                case first =>
                  refine wp_region_q7 (fun w' => Fr none_ wy w') (by kernel_rfl) (by kernel_rfl) (Fr.refl none_ wy).drew ?_
                  refine q_val7 (some 130) (.pointer (some ⟨gP, 3, none⟩)) rfl (by kernel_rfl) (fun w' hC => by kernel_rfl) ?_
                  refine q_cell7 (some 131) (.slice (some ⟨b1, o1, none⟩) nc x1) 61 (.tmp 130) ⟨gP, 3, none⟩ _ rfl (by kernel_rfl) rfl (by kernel_rfl) (fun w' hC => (BPr.out.fr hC id).cell' rfl) Tryd.underlying61 rfl ?_
                  refine q_val7 (some 132) (.int .i64 k) rfl (by kernel_rfl) (fun w' hC => by kernel_rfl) ?_
                  refine q_val7 (some 133) (.pointer (some ⟨b1, o1 + k * 15, none⟩)) rfl (by kernel_rfl) (fun w' hC => ex_index15 61 41 (.tmp 131) (.tmp 132) b1 o1 k nc x1 rfl (by kernel_rfl) (by kernel_rfl) Tryd.underlying61 rec_sz10 hlt w') ?_
                  refine q_mid7 (some 134) (recL ⟨R, A5, c5, B5, d5⟩) 41 (.tmp 133) b1 (o1 + k * 15) _ rfl (by kernel_rfl) rfl (by kernel_rfl) (fun w' hC j v hv => cellFr (R1.out j v hv) hC) Tryd.underlying41 rfl rec_size8 ?_
                  refine q_val7 (some 135) (.pointer (some ⟨gQ, 3, none⟩)) rfl (by kernel_rfl) (fun w' hC => by kernel_rfl) ?_
                  refine q_cell7 (some 136) (.slice (some ⟨b2, o2, none⟩) nc x2) 61 (.tmp 135) ⟨gQ, 3, none⟩ _ rfl (by kernel_rfl) rfl (by kernel_rfl) (fun w' hC => (BQr.out.fr hC id).cell' rfl) Tryd.underlying61 rfl ?_
                  refine q_val7 (some 137) (.int .i64 k) rfl (by kernel_rfl) (fun w' hC => by kernel_rfl) ?_
                  refine q_val7 (some 138) (.pointer (some ⟨b2, o2 + k * 15, none⟩)) rfl (by kernel_rfl) (fun w' hC => ex_index15 61 41 (.tmp 136) (.tmp 137) b2 o2 k nc x2 rfl (by kernel_rfl) (by kernel_rfl) Tryd.underlying61 rec_sz10 hlt w') ?_
                  refine q_mid7 (some 139) (recL ⟨R, A6, c6, B6, d6⟩) 41 (.tmp 138) b2 (o2 + k * 15) _ rfl (by kernel_rfl) rfl (by kernel_rfl) (fun w' hC j v hv => cellFr (R2.out j v hv) hC) Tryd.underlying41 rfl rec_size8 ?_
                  refine q_call7 (some 140) (.bool true) 26 #[.agg (recL ⟨R, A5, c5, B5, d5⟩).toArray, .agg (recL ⟨R, A6, c6, B6, d6⟩).toArray] rfl (by kernel_rfl) (fun w' hC => by kernel_rfl) (fun w' hC => (same4_ok R A5 c5 B5 d5 A6 c6 B6 d6 w' (E.out.1.keep hC) (E.out.2.1.keep hC) E.out.2.2.1 E.out.2.2.2).mono (fun e w2 h => ⟨h.1, hC.then_none h.2⟩)) ?_
                  refine q_val7 (some 141) (.bool false) rfl (by kernel_rfl) (fun w' hC => by kernel_rfl) ?_
                  refine q_done7 ?_
                  intro w13 hf13
                  (try simp only [Exit.then])
                  (try go_frame)
                  (first | (rename_i hKm; refine hKm _ _ ?_) | (rename_i hKm _; refine hKm _ _ ?_) | (rename_i hKm _ _; refine hKm _ _ ?_) | (rename_i hKm _ _ _; refine hKm _ _ ?_))
                  go_meet
                  case rel => exact ⟨rfl, hf13⟩
                case rest =>
                  obtain ⟨rfl, hf7⟩ := hcut
                  have FQ := hid_ (FR.out.then_none hf7)
                  clear hf7
                  go_wp2_with fail
                  go_roundw
                  case rel => exact ⟨k + 1, by omega, by go_num, FQ.out⟩
                  case measure => simp [intOf]; omega
              · obtain rfl : k = nc := by omega
                go_wp2_with fail
                refine (awake10_ok wy).mono ?_
                rintro e w14 ⟨rfl, hf14⟩
                go_wp2_with fail
                go_ret
                exact ⟨rfl, (F12.out.then_none FR.out).then_none hf14⟩
theorem psame10_walk_i {H : Type} {enc : TypeId × Value → H} (A : Option Addr) (n cap : Nat) (hc : n ≤ cap) (hm : cap ≤ maxLen) (T : Option Addr) (tn tc : Nat) (htc : tn ≤ tc) (htm : tc ≤ maxLen) (w : World) (h : RecordAt enc w A n) (h2 : ∃ N, U8Reads w T tn N) (hL : Laid w) : Calls Tryd.prog 4 #[.slice A n cap, .slice T tn tc] w fun e w' => e = .returned (.bool true) ∧ Fr none_ w w' := by
  obtain ⟨L, hi, hr⟩ := ins_of2 h
  obtain ⟨N, hN⟩ := h2
  exact psame10_law A n cap L T tn tc N w hi hr (Nat.le_trans hc hm) hN (Nat.le_trans htc htm) hL
end Go.Proofs.YtfihfjbakfadkaaDoor

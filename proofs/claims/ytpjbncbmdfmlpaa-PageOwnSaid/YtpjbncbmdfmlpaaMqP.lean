/- Texts of one proof, merged: LdrD10, Aw10, Cwb11. -/
import Derived.Test.YtpjbncbmdfmlpaaMqA
import Derived.Test.YtpjbncbmdfmlpaaMqG
import Derived.Test.YtpjbncbmdfmlpaaMqO
namespace Go.Proofs.Ytpjbncbmdfmlpaa
open Go.RowKit Go.BigFrame
set_option maxRecDepth 100000
set_option linter.unusedVariables false

/-- The two boxes that Page begins with. -/
theorem page_boxes (w : World) (v : Value) : ∃ w0, w0 = (w.alloc (.cells #[v] 30)).alloc (.cells pgZ 45) ∧ Fr none_ w w0 ∧ Blk w0 w.heap.size 30 #[v] ∧ Blk w0 (w.heap.size + 1) 45 pgZ :=
  ⟨_, rfl, ((Fr.refl none_ w).alloc _).alloc _, (Blk.new w _ _).alloc _, Blk.new7 _ _ (by simp)⟩
theorem LdMade.wide {b0 b1 : Nat} {s : LdS} {w w1 w' : World} {v : Value} (h : LdMade b1 s w1 v w') (hf : Fr none_ w w1) (hb : b0 ≤ b1) : LdMade b0 s w v w' := by
  obtain ⟨h, hf0⟩ := h
  refine ⟨?_, hf.then_none hf0⟩
  rcases h with ⟨leaf, lv, iv, A, c, B, d, C, x, D, y, h1, h2, h3⟩ | h
  · exact .inl ⟨leaf, lv, iv, A, c, B, d, C, x, D, y, h1, h2, h3.base hb⟩
  · exact .inr h
set_option maxHeartbeats 4000000 in
theorem ldPage_made {b0 g : Nat} {w : World} {s : LdS} (h : Ldr b0 w g s) (ho : s.over = true) (hv : s.ve = .nilIface) (hs : ∀ C ∈ s.L, RcOk C.R) (hl : s.L.length ≤ 400) (h7 : RwOkL (s.L.map toCh)) (he : ∀ C ∈ s.L.map toCh, C.R.ents.length ≤ 500) (hr : s.refs.length ≤ 5000) :
    Calls Try.prog 15 #[.pointer (some ⟨g, 0, none⟩)] w fun e w' => ∃ v, e = .returned v ∧ LdMade w.heap.size s w v w' := by
  obtain ⟨w0, hw0, f0, bx, bz⟩ := page_boxes w (.pointer (some ⟨g, 0, none⟩))
  have BX := hid_ bx
  have BZ := hid_ bz
  have F0 := hid_ f0
  have H := hid_ (h.keep f0)
  have HS := hid_ (And.intro hs (And.intro hl (And.intro h7 (And.intro he hr))))
  have x0 : w0.cell? ⟨w.heap.size, 0, none⟩ = some (.pointer (some ⟨g, 0, none⟩)) := bx.cell' rfl
  have g2 : w0.cell? ⟨g, 2, none⟩ = some (.bool true) := by rw [← ho]; exact H.out.b.cell' rfl
  have g9 : w0.cell? ⟨g, 9, none⟩ = some .nilIface := by rw [← hv]; exact H.out.b.cell' rfl
  have hsz0 := f0.size
  have hbl := bz.lt
  clear bx bz f0 h ho hv hs hl h7 he hr
  go_enter Try.func15, Try.ntmps15
  go_upto_region 1 with fail
  change Code.wp _ _ _ _ ((w.alloc (.cells #[.pointer (some ⟨g, 0, none⟩)] 30)).alloc (.cells pgZ 45))
  rw [← hw0]
  clear hw0
  go_wp2_with fail
  refine (ldMade_ok H.out BX.out HS.out.1 HS.out.2.1 HS.out.2.2.1 HS.out.2.2.2.1 HS.out.2.2.2.2).mono ?_
  rintro e w5 ⟨v, rfl, hm⟩
  obtain ⟨pv, ev, rfl, hps, hpo⟩ := hm.shape
  have LM := hid_ hm
  have BZ5 := hid_ (BZ.out.fr hm.2 id)
  clear hm x0 g2 g9
  go_wp2_with (refine wpList_store_mid rfl 45 (.tmp 2) (.tmp 32) rfl (w.heap.size + 1) 0 pv rfl rfl (by rw [hps]; exact BZ5.out.there7 rfl) (by rw [hps]; exact page_size) hpo ?_; have ov := BZ5.out.over7 pv.toList (by simp [hps]); obtain ⟨w9, hw9⟩ : ∃ z, z = w5.setCells (w.heap.size + 1) 0 pv.toList := ⟨_, rfl⟩; rw [← hw9] at ov; change wpList _ _ _ _ _ (w5.setCells (w.heap.size + 1) 0 pv.toList); rw [← hw9]; have OV := hid_ ov; clear hw9 ov)
  refine bodyPost_ret (results_cell_tmp7 _ _ rfl (w.heap.size + 1) 0 pv.toList _ rfl (Blk.range7 (l := pv.toList) (by simpa using OV.out.1)) Try.underlying45 rfl (by rw [Array.length_toList, hps]; exact page_size)) rfl ⟨_, rfl, ?_⟩
  have hfin := (LM.out.wide F0.out hsz0).only BZ5.out OV.out.2 (by omega)
  simpa using hfin
end Go.Proofs.Ytpjbncbmdfmlpaa
namespace Go.Proofs.Ytpjbncbmdfmlpaa
open Go.RowKit Go.BigFrame
set_option maxRecDepth 100000
set_option linter.unusedVariables false

theorem memCount_ok {m : Nat} {k : Int} {l : Lm} {x : St} (w : World) (h : Mm w m k l x) : Calls Try.prog 19 #[.pointer (some ⟨m, 0, none⟩)] w fun e w' => e = .returned (.int .i64 k) ∧ w = w' := by
  have c0 : w.cell? ⟨m, 0, none⟩ = some (.int .i64 k) := h.b.cell' rfl
  clear h
  go_enter Try.func19, Try.ntmps19
  go_wp2
  go_ret
  exact ⟨rfl, rfl⟩
theorem Mm.mall_lt {w : World} {m : Nat} {k : Int} {l : Lm} {x : St} (h : Mm w m k l x) : ∀ i, mall m x i → i < w.heap.size := by
  obtain ⟨cs, hG, _⟩ := h.ar.hG
  obtain ⟨cap, cur, hT0, hH, _⟩ := id h.tb
  rintro i (e | e | e | e | e)
  · rw [e]; exact h.b.lt
  · rw [e]; exact hG.lt
  · rw [e]; exact hH.lt
  · rw [e]; exact h.ck.hC.lt
  · obtain ⟨es, clock, hm, r⟩ := h.ck.hM
    rw [e]
    rcases Nat.lt_or_ge x.M w.heap.size with h1 | h1
    · exact h1
    · rw [Array.getElem?_eq_none h1] at hm; cases hm
abbrev lim10 : Lm := ⟨100, 4, 2, 4, 4, 99⟩
theorem lim10_right : lim10.Right := ⟨by decide, by decide, by decide, by decide, by decide, by decide⟩
theorem limits10_ok (w : World) : Calls Try.prog 13 #[] w fun e w' => e = .returned (.agg (lmA lim10)) ∧ Fr none_ w w' := by
  obtain ⟨w0, hw0⟩ : ∃ z, z = w.alloc (.cells #[.int .i64 0, .int .i64 0, .int .i64 0, .int .i64 0, .int .i64 0, .int .i64 0] 28) := ⟨_, rfl⟩
  have f0 : Fr none_ w w0 := by rw [hw0]; exact (Fr.refl none_ w).alloc _
  have BZ : Hid (Blk w0 w.heap.size 28 #[.int .i64 0, .int .i64 0, .int .i64 0, .int .i64 0, .int .i64 0, .int .i64 0]) := hid_ (by rw [hw0]; exact Blk.new w _ _)
  have F0 := hid_ f0
  clear f0
  go_enter Try.func13, Try.ntmps13
  go_upto_region 1 with fail
  change Code.wp _ _ _ _ (w.alloc (.cells #[.int .i64 0, .int .i64 0, .int .i64 0, .int .i64 0, .int .i64 0, .int .i64 0] 28))
  rw [← hw0]
  clear hw0
  go_wp2_with (refine wpList_store_mid rfl 28 (.tmp 0) (.tmp 1) rfl w.heap.size 0 (lmA lim10) rfl rfl (BZ.out.there9 rfl) lim_size9 (by simp [Value.oneCell']) ?_; have ov := BZ.out.over9 (lmA lim10).toList rfl; obtain ⟨w9, hw9⟩ : ∃ z, z = w0.setCells w.heap.size 0 (lmA lim10).toList := ⟨_, rfl⟩; rw [← hw9] at ov; change wpList _ _ _ _ _ (w0.setCells w.heap.size 0 (lmA lim10).toList); rw [← hw9]; have OV := hid_ ov; clear hw9 ov)
  exact bodyPost_ret (results_cell7 _ _ rfl w.heap.size 0 (lmA lim10).toList _ rfl (Blk.range7 (l := (lmA lim10).toList) OV.out.1) Try.underlying28 rfl lim_size9) rfl ⟨rfl, F0.out.then_only OV.out.2 (.inr (Nat.le_refl _))⟩
theorem lt_nil10 (x : ByteArray) : ltS x nilS = false := by
  rcases ltS_total x nilS with h | h | h
  · exfalso
    have h2 : ltL x.data.toList [] = true := h
    cases hx : x.data.toList <;> rw [hx] at h2 <;> simp [ltL] at h2
  · rw [h]; exact ltS_irrefl _
  · exact ltS_asymm h
abbrev lvZ10 : Lw := ⟨nilS, nilS, true, 0, [], false⟩
theorem of_leaf10 : ofM [leafR] = some (true, lvZ10, Vw.zero) := by
  unfold ofM
  rw [if_pos (by rfl), foldL_one leafR rfl ⟨fun _ => rfl, ⟨(fun p hp => by cases hp), (fun i p q hp hq => by simp at hp)⟩, (fun p hp => by cases hp)⟩]
  rfl
theorem leafR_ok : RcOk leafR := ⟨SzOk.nil, SzOk.nil, SzOk.nil, SzOk.nil, ⟨Nat.zero_le _, fun p hp => by cases hp⟩⟩
/-- A new memory's parts. -/
abbrev ss10 (vr ve : Value) : List Sl := ⟨1, true, leafR, vr, ve⟩ :: List.replicate (lim10.s - 1) Sl.zero
abbrev ps10 : List Pg := (true, 1, 1) :: List.replicate (lim10.p - 1) (false, 0, 0)
theorem head10 {s g c : Int} (h : HeadR ps10 0 s g c) : s = 1 ∧ g = 1 ∧ c = 0 := by
  rcases h with ⟨i, hi, hp, hc⟩ | ⟨h, _⟩
  · obtain rfl : i = 0 := by omega
    simp at hp
    exact ⟨hp.1.symm, hp.2.symm, hc⟩
  · exact absurd (pgC_used (i := 0) (ps := ps10) (s := 1) (g := 1) rfl) h
theorem load10 {vr ve : Value} {R : Rc} {c : Int} (h : LoadR (ss10 vr ve) 1 1 R c) : R = leafR ∧ c = 0 := by
  rcases h with ⟨i, s, hi, hs, _, _, hc, hR⟩ | ⟨h, _⟩
  · obtain rfl : i = 0 := by omega
    have hs' : s = ⟨1, true, leafR, vr, ve⟩ := by simpa using hs.symm
    rw [hR, hs']
    exact ⟨rfl, hc⟩
  · exact absurd (show atC (ss10 vr ve) 1 1 = 0 by rfl) h
set_option maxHeartbeats 8000000 in
theorem awake10_ok (w : World) : Calls Try.prog 20 #[] w fun e w' => e = .returned (.bool true) ∧ Fr none_ w w' := by
  go_enter Try.func20, Try.ntmps20
  go_wp2_with fail
  refine (limits10_ok w).mono ?_
  rintro e w0 ⟨rfl, hf0⟩
  have F0 := hid_ hf0
  clear hf0
  go_wp2_with fail
  refine (memNew_ok lim10 _ lim10_right).mono ?_
  rintro e w1 ⟨m, a, G, vr, ve, T, H, C, M, rfl, hM, hf1, hm1, hC1, hM1, hG1, hH1⟩
  obtain ⟨x, hx⟩ : ∃ x : St, x = ⟨a, G, ss10 vr ve, T, H, ps10, C, M, 1, 0, .map []⟩ := ⟨_, rfl⟩
  have HX := hid_ hx
  have M1 : Hid (Mm w1 m 0 lim10 x) := hid_ (by rw [hx]; exact hM)
  have HN : Hid (∀ i, mall m x i → w.heap.size ≤ i) := hid_ (by
    have h0 := F0.out.size
    subst hx
    rintro i (e | e | e | e | e) <;> subst e <;> omega)
  have F1 := hid_ (F0.out.then_none hf1)
  clear hM hf1 hx hm1 hC1 hM1 hG1 hH1
  go_wp2_with fail
  refine (ldBegin_ok 0 w1).mono ?_
  rintro e w2 ⟨rfl, hL, hf2⟩
  have L2 := hid_ hL
  have M2 := hid_ (M1.out.keep hf2)
  have HB := hid_ M1.out.mall_lt
  have F2 := hid_ (F1.out.then_none hf2)
  have HW := hid_ F1.out.size
  clear hL hf2 M1
  have HPS : Hid (x.ps = ps10) := hid_ (by rw [HX.out])
  have HSS : Hid (x.ss = ss10 vr ve) := hid_ (by rw [HX.out])
  clear HX
  go_wp2_with fail
  refine (step_first L2.out M2.out HB.out (by omega) (by omega) rfl rfl).mono ?_
  rintro e w3 ⟨s0, g0, c0, v0, hhd, -, hm3, hf3, hcase⟩
  obtain ⟨rfl, rfl, rfl⟩ := head10 (by rw [← HPS.out]; exact hhd)
  obtain ⟨rfl, hL3⟩ : e = .returned (.bool false) ∧ Ldr w1.heap.size w3 w1.heap.size { LdS.new 0 with begun := true, hs := 1, hg := 1, ns := 1, ng := 1 } := by
    rcases hcase with ⟨h, _⟩ | ⟨_, h, _⟩ | ⟨_, _, h1, h2⟩
    · exact absurd rfl h
    · exact absurd h (by decide)
    · exact ⟨h1, h2⟩
  have L3 := hid_ hL3
  have M3 := hid_ hm3
  have F3 : Hid (Fr none_ w w3) := hid_ (F2.out.trans hf3 (fun _ _ => id) (fun i hi e => by
    rcases e with e | e
    · have := HN.out i e; omega
    · have := HW.out; omega))
  clear hhd hcase hL3 hm3 hf3 L2 M2
  go_wp2_with fail
  refine (step_next L3.out M3.out HB.out (by omega) (by omega) rfl rfl (Nat.zero_le _) (Nat.zero_le _)).mono ?_
  rintro e w4 ⟨R, A, c, B, d, kk, v1, hld, -, hm4, hf4, hcase⟩
  obtain ⟨rfl, rfl⟩ := load10 (vr := vr) (ve := ve) (by rw [← HSS.out]; exact hld)
  obtain ⟨A1, c1, B1, d1, rfl, hL4⟩ : ∃ (A1 : Option Addr) (c1 : Nat) (B1 : Option Addr) (d1 : Nat), e = .returned (.bool true) ∧ Ldr w1.heap.size w4 w1.heap.size ⟨0, true, true, 1, 1, 0, 0, A1, c1, [⟨leafR, A, c, B, d⟩], B1, d1, [(1, 1)], .nilIface⟩ := by
    rcases hcase with ⟨h, _⟩ | ⟨_, A1, c1, B1, d1, ov, ve1, h1, h2, h3⟩
    · exact absurd rfl h
    · rcases h3 with ⟨_, _, rfl, rfl⟩ | ⟨h, _⟩ | ⟨h, _⟩
      · exact ⟨A1, c1, B1, d1, h1, h2⟩
      · exact absurd ⟨rfl, rfl⟩ h
      · exact absurd ⟨rfl, rfl⟩ h
  have L4 := hid_ hL4
  have M4 := hid_ hm4
  have F4 : Hid (Fr none_ w w4) := hid_ (F3.out.trans hf4 (fun _ _ => id) (fun i hi e => by
    rcases e with e | e
    · have := HN.out i e; omega
    · have := HW.out; omega))
  clear hld hcase hL4 hm4 hf4 L3 M3
  go_wp2_with fail
  refine (ldPage_made L4.out rfl rfl (fun D hD => by
    obtain rfl : D = ⟨leafR, A, c, B, d⟩ := by simpa using hD
    exact leafR_ok) (show 1 ≤ 400 by omega) (fun D hD => by
    obtain rfl : D = toCh ⟨leafR, A, c, B, d⟩ := by simpa using hD
    exact ⟨SzOk.nil, ⟨Nat.zero_le _, fun p hp => by cases hp⟩, Nat.zero_le _⟩) (fun D hD => by
    obtain rfl : D = toCh ⟨leafR, A, c, B, d⟩ := by simpa using hD
    exact Nat.zero_le _) (show 1 ≤ 5000 by omega)).mono ?_
  rintro e w5 ⟨v, rfl, hmd⟩
  have F5 := hid_ (F4.out.then_none hmd.2)
  have M5 := hid_ (M4.out.keep hmd.2)
  obtain ⟨P, rfl, hpv, hpl, hpu, hll, hlh⟩ : ∃ P : Pz, v = .tuple #[.agg (pzA P), .nilIface] ∧ (pzA P).all (·.oneCell') = true ∧ P.leaf = true ∧ P.lv.unb = true ∧ P.lv.low = nilS ∧ P.lv.high = nilS := by
    rcases hmd.1 with ⟨leaf, lv, iv, A2, c2, B2, d2, C2, x2, D2, y2, h1, h2, h3⟩ | ⟨k, _, h1, _⟩
    · have h4 : some (true, lvZ10, Vw.zero) = some (leaf, lv, iv) := of_leaf10.symm.trans h1
      simp only [Option.some.injEq, Prod.mk.injEq] at h4
      obtain ⟨rfl, rfl, rfl⟩ := h4
      exact ⟨⟨0, 1, 1, C2, 1, x2, .slice D2 1 y2, true, lvZ10, A2, c2, Vw.zero, B2, d2⟩, h2, by simp [Value.oneCell'], rfl, rfl, rfl, rfl⟩
    · exact absurd (of_leaf10.symm.trans h1) (by simp)
  have HPL := hid_ hpl
  have HIN : Hid (SzOk P.low ∧ SzOk P.high ∧ inS P.low P.high P.unb ⟨#[97]⟩ = true) := hid_ (by
    have e1 : P.low = nilS := by unfold Pz.low; rw [hpl, hll]; rfl
    have e2 : P.high = nilS := by unfold Pz.high; rw [hpl, hlh]; rfl
    have e3 : P.unb = true := by unfold Pz.unb; rw [hpl, hpu]; rfl
    rw [e1, e2, e3]
    exact ⟨SzOk.nil, SzOk.nil, by simp [inS, lt_nil10]⟩)
  have HPU := hid_ hpu
  have HPV := hid_ hpv
  replace M5 : Hid (Mm w5 m 2 lim10 x) := hid_ M5.out
  clear hmd hpv hpl hpu hll hlh M4
  go_upto_region 5 with (refine wpList_store_mid rfl 45 (.tmp 6) (.tmp 23) rfl w5.heap.size 0 (pzA P) rfl rfl (new_there w5 _ pgZ) page_size HPV.out ?_; obtain ⟨w6, hw6⟩ : ∃ z, z = (w5.alloc (.cells pgZ 45)).setCells w5.heap.size 0 (pzA P).toList := ⟨_, rfl⟩; change wpList _ _ _ _ _ ((w5.alloc (.cells pgZ 45)).setCells w5.heap.size 0 (pzA P).toList); rw [← hw6]; have P6 : Hid (Blk w6 w5.heap.size 45 (pzA P) ∧ Fr none_ w5 w6) := hid_ (by rw [hw6]; exact new_copy w5 _ pgZ _ rfl); clear hw6)
  have M6 := hid_ (M5.out.keep P6.out.2)
  have F6 := hid_ (F5.out.then_none P6.out.2)
  have B6 := hid_ P6.out.1
  have p5 : w6.cell? ⟨w5.heap.size, 5, none⟩ = some (.bool true) := by rw [← HPL.out]; exact B6.out.cell' rfl
  have p8 : w6.cell? ⟨w5.heap.size, 8, none⟩ = some (.bool true) := by rw [← HPU.out]; exact B6.out.cell' rfl
  clear P6 M5 F5
  go_wp2_with (first | (refine wpList_load_mid rfl 45 (.tmp 6) rfl w5.heap.size 0 rfl (pzA P).toList _ (Blk.range7 (l := (pzA P).toList) B6.out) Try.underlying45 rfl page_size ?_) | (refine wpList_load_midG (by kernel_rfl) 45 (.tmp 6) rfl w5.heap.size 0 rfl (pzA P).toList _ (Blk.range7 (l := (pzA P).toList) B6.out) Try.underlying45 rfl page_size ?_))
  refine (phas_ok P ⟨#[97]⟩ w6 HIN.out.1 HIN.out.2.1 (by unfold SzOk; decide)).mono ?_
  rintro e w7 ⟨rfl, hf7⟩
  rw [HIN.out.2.2]
  have M7 := hid_ (M6.out.keep hf7)
  have F7 := hid_ (F6.out.then_none hf7)
  clear hf7 p5 p8
  go_wp2_with fail
  refine (memCount_ok w7 M7.out).mono ?_
  rintro e w8 ⟨rfl, rfl⟩
  go_wp2_with fail
  go_ret
  exact ⟨rfl, F7.out⟩
end Go.Proofs.Ytpjbncbmdfmlpaa
namespace Go.Proofs.Ytpjbncbmdfmlpaa
open Go.RowKit Go.BigFrame Go.ChangeShapes Go.WideShapes
set_option maxRecDepth 100000
set_option linter.unusedVariables false

set_option maxHeartbeats 1000000 in
theorem ins_of3 {H : Type} {enc : TypeId × Value → H} {w : World} {A : Option Addr} {n : Nat} (h : RecordAt enc w A n) : ∃ L, InReads w A n L ∧ RwIn L ∧ RwCap L := by
  rcases Nat.eq_zero_or_pos n with h0 | h0
  · subst h0; exact ⟨[], ⟨rfl, fun h => absurd h (by omega)⟩, (fun C hC => by simp at hC), fun C hC => by simp at hC⟩
  · obtain ⟨b, off, hA, hb, hc⟩ := h h0
    obtain ⟨L, hl, hL⟩ := choose_list (α := Ch) (P := fun k C => (w.rangeAt b (off + k * 15) (recL C) ∧ ChIn w C) ∧ ((SzOk C.R.val ∧ ∀ p ∈ C.R.rows, SzOk p.1 ∧ SzOk p.2) ∧ C.R.rows.length ≤ C.c ∧ C.c ≤ maxLen)) n (fun k hk => by
      obtain ⟨x0, x1, x2, x3, x4, x5, x6, x7, x8, x9, x10, x11, x12, x13, x14, w0, w1, w2, w4, w5, w6, w7, w8, w9, w10, w11, w12, w13, w14, h0, h1, h2, h3, h4, h5, h6, h7, h8, h9, h10, h11, h12, h13, h14⟩ := hc k hk
      obtain ⟨A5, n5, c5, L5, rfl, q1, q2, r5⟩ := rows_conf2 w5
      obtain ⟨A6, n6, c6, L6, rfl, p1, p2, -, r6⟩ := ents_conf w6
      have ks : ∀ p ∈ L6, SzOk p.1 := fun p hp => by
        obtain ⟨j, hj⟩ := List.mem_iff_getElem?.1 hp
        obtain ⟨_, _, _, _, hc⟩ := r6.2 (by have := (List.getElem?_eq_some_iff.1 hj).1; have := r6.1; omega)
        exact szOk_of (hc j p hj).1.1
      have kr : ∀ p ∈ L5, SzOk p.1 ∧ SzOk p.2 := fun p hp => by
        obtain ⟨j, hj⟩ := List.mem_iff_getElem?.1 hp
        obtain ⟨_, _, _, _, hc⟩ := r5.2 (by have := (List.getElem?_eq_some_iff.1 hj).1; have := r5.1; omega)
        exact ⟨szOk_of (hc j p hj).1.1, szOk_of (hc j p hj).1.2⟩
      obtain rfl := r5.1
      obtain rfl := r6.1
      refine ⟨⟨⟨x0, x1, x2, x3, x4, L5, L6, x7, x8, x9, x10, x11, x12, x13, x14⟩, A5, c5, A6, c6⟩, ⟨fun j v hv => ?_, ⟨r5.reads, r6.reads⟩, szOk_of w1, szOk_of w2, szOk_of w7, szOk_of w12, ks, p1, p2, by show L5.length ≤ _; omega⟩, ⟨szOk_of w8, kr⟩, (by show L5.length ≤ c5; exact q1), (by show c5 ≤ maxLen; unfold maxLen; omega)⟩
      match j, hv with
      | 0, hv => have e : some (.int .i64 x0) = some v := hv; rw [← Option.some.inj e]; exact h0
      | 1, hv => have e : some (.string x1) = some v := hv; rw [← Option.some.inj e]; exact h1
      | 2, hv => have e : some (.string x2) = some v := hv; rw [← Option.some.inj e]; exact h2
      | 3, hv => have e : some (.bool x3) = some v := hv; rw [← Option.some.inj e]; exact h3
      | 4, hv => have e : some (.int .i64 x4) = some v := hv; rw [← Option.some.inj e]; exact h4
      | 5, hv => have e : some (.slice A5 L5.length c5) = some v := hv; rw [← Option.some.inj e]; exact h5
      | 6, hv => have e : some (.slice A6 L6.length c6) = some v := hv; rw [← Option.some.inj e]; exact h6
      | 7, hv => have e : some (.string x7) = some v := hv; rw [← Option.some.inj e]; exact h7
      | 8, hv => have e : some (.string x8) = some v := hv; rw [← Option.some.inj e]; exact h8
      | 9, hv => have e : some (.int .i64 x9) = some v := hv; rw [← Option.some.inj e]; exact h9
      | 10, hv => have e : some (.int .i64 x10) = some v := hv; rw [← Option.some.inj e]; exact h10
      | 11, hv => have e : some (.int .i64 x11) = some v := hv; rw [← Option.some.inj e]; exact h11
      | 12, hv => have e : some (.string x12) = some v := hv; rw [← Option.some.inj e]; exact h12
      | 13, hv => have e : some (.int .i64 x13) = some v := hv; rw [← Option.some.inj e]; exact h13
      | 14, hv => have e : some (.int .i64 x14) = some v := hv; rw [← Option.some.inj e]; exact h14
      | j + 15, hv => simp at hv)
    exact ⟨L, ⟨hl, fun _ => ⟨b, off, hA, hb, fun k C hC => (hL k C hC).1⟩⟩, fun C hC => by obtain ⟨k, hk⟩ := List.mem_iff_getElem?.1 hC; exact (hL k C hk).2.1, fun C hC => by obtain ⟨k, hk⟩ := List.mem_iff_getElem?.1 hC; exact (hL k C hk).2.2⟩
end Go.Proofs.Ytpjbncbmdfmlpaa

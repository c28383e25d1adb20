/- Layer 12's awake. Written by gen_aw12.py. -/
import Derived.Test.YthcpccddcgbanaaStep12
import Derived.Test.YthcpccddcgbanaaBeg12
namespace Go.Proofs.Ythcpccddcgbanaa
open Go.RowKit
set_option maxRecDepth 100000
set_option linter.unusedVariables false

theorem AllocR.first {last : Int} {ss : List Sl} {R : Rc} {sl gn c : Int} {ss' : List Sl} (h : AllocR last ss R sl gn c ss') {i : Nat} {s : Sl} (hs : ss[i]? = some s) (hu : s.used = false) (hg : s.gen ≠ last) (hno : ∀ (j : Nat) (t : Sl), j < i → ss[j]? = some t → t.used = true ∨ t.gen = last) :
    sl = (i : Int) + 1 ∧ gn = s.gen + 1 ∧ c = 0 ∧ ∃ vr ve, ss' = ss.set i ⟨s.gen + 1, true, R, vr, ve⟩ := by
  rcases h with ⟨k, t, vr, ve, h1, h2, h3, h4, h5, h6, h7⟩ | ⟨h1, _⟩
  · have hki : k = i := by
      rcases Nat.lt_trichotomy k i with hlt | heq | hgt
      · rcases hno k t hlt h1 with e | e
        · rw [h2.1] at e; cases e
        · exact absurd e h2.2
      · exact heq
      · rcases h3 i s hgt hs with e | e
        · rw [hu] at e; cases e
        · exact absurd e hg
    subst hki
    obtain rfl : s = t := Option.some.inj (hs.symm.trans h1)
    exact ⟨h4, h5, h6, vr, ve, h7⟩
  · rcases h1 i s hs with e | e
    · rw [hu] at e; cases e
    · exact absurd e hg
theorem SwapR.used {ps : List Pg} {n a b c d : Int} {ok : Bool} {k : Int} {ps' : List Pg} (h : SwapR ps n a b c d ok k ps') {i : Nat} {s g : Int} (hn : n = (i : Int)) (hi : ps[i]? = some (true, s, g)) : ok = (s == a && g == b) ∧ k = 0 ∧ ps' = swapPs ps i s g a b c d := by
  subst hn
  rcases h with ⟨j, s', g', h1, h2, h3, h4, h5⟩ | ⟨h1, _⟩
  · obtain rfl : i = j := by omega
    rw [hi] at h2
    injection h2 with h2
    injection h2 with _ h2
    injection h2 with e1 e2
    subst e1
    subst e2
    exact ⟨h3, h4, h5⟩
  · exact absurd (pgC_used hi) h1
theorem HeadR.used {ps : List Pg} {n s g c : Int} (h : HeadR ps n s g c) {i : Nat} {s' g' : Int} (hn : n = (i : Int)) (hi : ps[i]? = some (true, s', g')) : s = s' ∧ g = g' ∧ c = 0 := by
  subst hn
  rcases h with ⟨j, h1, h2, h3⟩ | ⟨h1, _⟩
  · obtain rfl : i = j := by omega
    rw [hi] at h2
    injection h2 with h2
    injection h2 with _ h2
    injection h2 with e1 e2
    exact ⟨e1.symm, e2.symm, h3⟩
  · exact absurd (pgC_used hi) h1
theorem Ev.zero {w : World} {v : Value} {p : ByteArray} {s : Int} (h : Ev w v p s 0) : v = .nilIface := by
  rcases h with ⟨_, h⟩ | ⟨h, _⟩
  · exact h
  · exact absurd rfl h
theorem Er.zero {w : World} {v : Value} (h : Er w v 0) : v = .nilIface := by
  rcases h with rfl | ⟨p, s, h⟩
  · rfl
  · exact h.zero
theorem mf_ge {w : World} {m : Nat} {x : St} {B B' i : Nat} {D : Dt} {a : Ia} (hm : B ≤ m ∧ B ≤ x.C ∧ B ≤ x.M ∧ B ≤ x.G ∧ B ≤ x.H) (hI : Inst w B' i D a) (hB : B ≤ B') : ∀ k, mf m x i a k → B ≤ k := by
  rintro k ((rfl | rfl | rfl | rfl | rfl) | hk)
  · exact hm.1
  · exact hm.2.2.2.1
  · exact hm.2.2.2.2
  · exact hm.2.1
  · exact hm.2.2.1
  · exact Nat.le_trans hB (hI.foot_le hk)
theorem mall_ge {m : Nat} {x : St} {B : Nat} (hm : B ≤ m ∧ B ≤ x.C ∧ B ≤ x.M ∧ B ≤ x.G ∧ B ≤ x.H) : ∀ k, mall m x k → B ≤ k := by
  rintro k (rfl | rfl | rfl | rfl | rfl)
  · exact hm.1
  · exact hm.2.2.2.1
  · exact hm.2.2.2.2
  · exact hm.2.1
  · exact hm.2.2.1
theorem Fr.then_ge {S : Nat → Prop} {a b c : World} (h : Fr none_ a b) (k : Fr S b c) (hg : ∀ i, S i → a.heap.size ≤ i) : Fr none_ a c := h.trans k (fun _ _ => id) (fun i hi e => by have := hg i e; omega)
abbrev sA12 : ByteArray := ⟨#[97]⟩
abbrev delR (s g : Int) : Rc := ⟨3, nilS, nilS, false, 0, [], [], sA12, nilS, 0, 0, 0, nilS, s, g⟩
set_option maxHeartbeats 2000000 in
theorem mk_aw {w : World} {bc : Nat} {s g : Int} (u : Value) (h : Blk w bc 34 #[.int .i64 s, .int .i64 g]) : Calls Try.prog 27 #[u, .pointer (some ⟨bc, 0, none⟩)] w fun e w2 => ∃ Ar cr Ae ce, e = .returned (.tuple #[.slice none 0 0, recV (delR s g) (.slice Ar (delR s g).rows.length cr) (.slice Ae (delR s g).ents.length ce)]) ∧ RecOwn w2 0 (delR s g) (.slice Ar (delR s g).rows.length cr) (.slice Ae (delR s g).ents.length ce) ∧ Fr none_ w w2 := by
  have HB := hid_ (h.alloc (.cells recZ 44))
  have BZ := hid_ (Blk.new w 44 recZ)
  clear h
  obtain ⟨w0, hw0⟩ : ∃ z, z = w.alloc (.cells recZ 44) := ⟨_, rfl⟩
  have f0 : Fr none_ w w0 := by rw [hw0]; exact (Fr.refl none_ w).alloc _
  rw [← hw0] at HB BZ
  go_enter Try.func27, Try.ntmps27
  go_upto_region 1 with fail
  change Code.wp _ _ _ _ (w.alloc (.cells recZ 44))
  rw [← hw0]
  clear hw0
  have hS0 : (fun w' : World => Fr (only w.heap.size) w0 w') w0.drew := (Fr.refl _ w0).drew
  have hne : ¬ only w.heap.size bc := only_ne (Blk.ne_ HB.out BZ.out (by decide))
  have x0 : w0.cell? ⟨bc, 0, none⟩ = some (.int .i64 s) := HB.out.cell' rfl
  have x1 : w0.cell? ⟨bc, 1, none⟩ = some (.int .i64 g) := HB.out.cell' rfl
  refine wp_region_U (m := 4) (S := fun w' : World => Fr (only w.heap.size) w0 w') (by kernel_rfl) ?_
  refine wpAnyU_take2 (i := 0) (v := _) rfl (by kernel_rfl) (by kernel_rfl) (by kernel_rfl) (by kernel_rfl) (fun _ _ _ h => h) (.inl ⟨by kernel_rfl, fun w' hS => by have s_0 := cellFrS x0 hS hne; have s_1 := cellFrS x1 hS hne; go_simp; rfl⟩) hS0 ?_
  refine wpAnyU_take2 (i := 1) (v := _) rfl (by kernel_rfl) (by kernel_rfl) (by kernel_rfl) (by kernel_rfl) (fun _ _ _ h => h) (.inl ⟨by kernel_rfl, fun w' hS => by go_simp; rfl⟩) hS0 ?_
  refine wpAnyU_take2 (i := 2) (v := _) rfl (by kernel_rfl) (by kernel_rfl) (by kernel_rfl) (by kernel_rfl) (fun _ _ _ h => h) (.inl ⟨by kernel_rfl, fun w' hS => by go_simp; rfl⟩) hS0 ?_
  clear x0 x1 hne
  refine wpAnyU_oneW (i := 3) rfl (by kernel_rfl) (by kernel_rfl) ?_
  refine wp_store_mid 44 (.tmp 4) (.tmp 6) rfl w.heap.size 0 (recA (delR s g) (.slice none 0 0) (.slice none 0 0)) rfl rfl (BZ.out.drew.there9 rfl) rec_size (by simp [Value.oneCell']) ?_
  obtain ⟨w5, hw5⟩ : ∃ z, z = w0.drew.setCells w.heap.size 0 (recA (delR s g) (.slice none 0 0) (.slice none 0 0)).toList := ⟨_, rfl⟩
  have ov := BZ.out.drew.over9 (recA (delR s g) (.slice none 0 0) (.slice none 0 0)).toList rfl
  rw [← hw5] at ov
  have Q5 := hid_ (show Blk w5 w.heap.size 44 (recA (delR s g) (.slice none 0 0) (.slice none 0 0)) from ov.1)
  have F5 := hid_ (f0.drew.then_only ov.2 (.inr (Nat.le_refl _)))
  refine ⟨.inr (by rw [← hw5]; exact hS0.trans ov.2 (fun _ _ => id) (fun _ _ => id)), ?_⟩
  change wpAnyU _ _ _ _ _ _ _ _ _ (w0.drew.setCells w.heap.size 0 (recA (delR s g) (.slice none 0 0) (.slice none 0 0)).toList)
  rw [← hw5]
  clear hw5 ov
  refine wpAnyU_done (by kernel_rfl) ?_ _
  go_wp2_with fail
  have q0 := Q5.out.cell' (i := 0) rfl
  have q1 := Q5.out.cell' (i := 1) rfl
  have q2 := Q5.out.cell' (i := 2) rfl
  have q3 := Q5.out.cell' (i := 3) rfl
  have q4 := Q5.out.cell' (i := 4) rfl
  have q5 := Q5.out.cell' (i := 5) rfl
  have q6 := Q5.out.cell' (i := 6) rfl
  have q7 := Q5.out.cell' (i := 7) rfl
  have q8 := Q5.out.cell' (i := 8) rfl
  have q9 := Q5.out.cell' (i := 9) rfl
  have q10 := Q5.out.cell' (i := 10) rfl
  have q11 := Q5.out.cell' (i := 11) rfl
  have q12 := Q5.out.cell' (i := 12) rfl
  have q13 := Q5.out.cell' (i := 13) rfl
  have q14 := Q5.out.cell' (i := 14) rfl
  refine bodyPost_ret (v := .tuple #[.slice none 0 0, recV (delR s g) (.slice none 0 0) (.slice none 0 0)]) ?_ rfl ⟨none, 0, none, 0, rfl, ⟨World.ownsRow_nil _ _ _ _, World.ownsRow_nil _ _ _ _⟩, F5.out⟩
  simp [results, Try.results27, go_sem, q0, q1, q2, q3, q4, q5, q6, q7, q8, q9, q10, q11, q12, q13, q14]
abbrev lim12 : Lm := ⟨9, 3, 1, 4, 4, 99⟩
theorem lim12_right : lim12.Right := ⟨by decide, by decide, by decide, by decide, by decide, by decide⟩
set_option maxHeartbeats 16000000 in
theorem awake12 (w : World) : Calls Try.prog 8 #[] w fun e w' => e = .returned (.bool true) ∧ Fr none_ w w' := by
  have hmf : ∀ (fn : Fn) (first cap : Array Value) (w : World), (Instr.makeFunc fn first cap).run Try.prog w = .ok (.func fn first cap) w := fun _ _ _ _ => rfl
  have F := hid_ (Fr.refl none_ w)
  go_enter Try.func8, Try.ntmps8
  go_wp2_with fail
  refine (memNew_ok lim12 _ lim12_right).mono ?_
  rintro e w1 ⟨m, a, G, vr, ve, T, H, C, M, rfl, hM, hf1, hm⟩
  have M1 := hid_ hM
  have HM := hid_ hm
  replace F := hid_ (F.out.then_none hf1)
  clear hM hf1 hm
  go_wp2_with fail
  refine (memHead_any m 0 lim12 _ _ M1.out (by decide) (by decide) 0).mono ?_
  rintro e w2 ⟨s, g, c, v, rfl, hR, hev, hM2, hf2⟩
  obtain ⟨rfl, rfl, rfl⟩ := hR.used (i := 0) rfl rfl
  obtain rfl := hev.zero
  have M2 := hid_ hM2
  have F2 := hid_ hf2
  clear hR hev hM2 hf2
  go_upto_region 3 with fail
  replace F := hid_ (F.out.then_ge F2.out (mall_ge HM.out))
  obtain ⟨w3, hw3⟩ : ∃ z, z = w2.alloc (.cells #[.int .i64 1, .int .i64 1] 34) := ⟨_, rfl⟩
  have fw3 : Fr none_ w2 w3 := by rw [hw3]; exact (Fr.refl none_ w2).alloc _
  have BH : Hid (Blk w3 w2.heap.size 34 (#[.int .i64 1, .int .i64 1])) := hid_ (by rw [hw3]; exact Blk.new w2 _ _)
  replace M2 := hid_ (M2.out.keep fw3)
  replace F := hid_ (F.out.then_none fw3)
  change Code.wp _ _ _ _ (w2.alloc (.cells #[.int .i64 1, .int .i64 1] 34))
  rw [← hw3]
  clear hw3 fw3
  have h0 : w3.cell? ⟨w2.heap.size, 0, none⟩ = some (.int .i64 1) := BH.out.cell' rfl
  have h1 : w3.cell? ⟨w2.heap.size, 1, none⟩ = some (.int .i64 1) := BH.out.cell' rfl
  have HS3 := hid_ F.out.size
  go_wp2_with fail
  refine (begin0 0 1 1 w2.heap.size (delR 1 1) ⟨Nat.zero_le _, Nat.zero_le _⟩ (fun w4 u hf => mk_aw u (BH.out.fr hf id))).mono ?_
  rintro e w4 ⟨i, vr4, ve4, rfl, hI4, hf4⟩
  have I4 := hid_ hI4
  replace M2 := hid_ (M2.out.keep hf4)
  replace F := hid_ (F.out.then_none hf4)
  replace BH := hid_ (BH.out.fr hf4 id)
  have HS4 := hid_ hf4.size
  clear hI4 hf4 h0 h1
  go_wp2_with fail
  refine (step_fwd I4.out (by decide) (by decide) (by decide) (fwd3 I4.out M2.out (by decide) (by decide) rfl (by decide) HS4.out) (fun e w' h => by obtain ⟨_, _, _, _, _, h, _⟩ := h; exact ⟨_, h⟩)).mono ?_
  rintro e w5 ⟨sl, gn, kk, ss', a5, rfl, hA, hM5, hI5, hf5, -, -⟩
  obtain ⟨rfl, rfl, rfl, vr5, ve5, rfl⟩ := hA.first (i := 1) (s := Sl.zero) rfl rfl (by decide) (fun j t hj ht => by
    obtain rfl : j = 0 := by omega
    obtain rfl := Option.some.inj ht
    exact .inl rfl)
  have M5 := hid_ hM5
  have I5 : Hid (Inst w5 w3.heap.size i ⟨0, 1, 1, 0, 4, [], [], delR 1 1, [(2, 1)], 0, false, 0⟩ a5) := hid_ hI5
  have F5 := hid_ (F.out.then_ge hf5 (mf_ge HM.out I4.out HS3.out))
  rw [show ((fwd3D (dt0 0 1 1 0 3 (delR 1 1) 0) 0 ((1 : Nat) + 1 : Int) (Sl.zero.gen + 1)).stage == 7) = false from rfl]
  clear hA hM5 hI5 hf5 M2 F I4
  go_wp2_with fail
  refine (step_fwd I5.out (by decide) (by decide) (by decide) (fwd4 I5.out M5.out (by decide) (by decide) rfl (j := 0) (s := 2) (g := 1) rfl rfl) (fun e w' h => by obtain ⟨_, _, _, _, h, _⟩ := h; exact ⟨_, h⟩)).mono ?_
  rintro e w6 ⟨ok, c, ps', a6, rfl, hR, hM6, hI6, hf6, -, -⟩
  obtain ⟨hok, rfl, rfl⟩ := hR.used (i := 0) rfl rfl
  obtain rfl : ok = true := hok
  have M6 := hid_ hM6
  have I6 : Hid (Inst w6 w3.heap.size i ⟨0, 1, 1, 0, 7, [], [], delR 1 1, [(2, 1)], 0, true, 0⟩ a6) := hid_ hI6
  have F6 := hid_ (F5.out.then_ge hf6 (mf_ge HM.out I5.out HS3.out))
  rw [show ((fwd4D ⟨0, 1, 1, 0, 4, [], [], delR 1 1, [(2, 1)], 0, false, 0⟩ true 0).stage == 7) = true from rfl]
  clear hR hM6 hI6 hf6 M5 F5 I5
  go_wp2_with fail
  refine (done_ok I6.out rfl).mono ?_
  rintro e w7 ⟨rfl, hf7⟩
  rw [show a6.ev = .nilIface from I6.out.e.zero]
  have M7 := hid_ (M6.out.keep hf7)
  have I7 := hid_ (I6.out.keep hf7)
  have F7 := hid_ (F6.out.then_none hf7)
  clear hf7 M6 I6 F6
  go_wp2_with fail
  refine (chain_ok _ M7.out 0 2 1 rfl [1, 0] ⟨rfl, ⟨1, true, delR 1 1, vr5, ve5⟩, rfl, rfl, rfl, rfl, ⟨1, true, leafR, vr, ve⟩, rfl, rfl, rfl, rfl, rfl⟩ (by decide) (by decide)).mono ?_
  rintro e w8 ⟨A, c8, B, d8, Cs, rfl, hCs, hl, hr, -, hf8⟩
  have I8 := hid_ (I7.out.keep hf8)
  have F8 := hid_ (F7.out.then_none hf8)
  clear hCs hl hr hf8 I7 F7 M7
  simp only [List.length_cons, List.length_nil]
  go_wp2_with fail
  refine (ihead_ok I8.out rfl (j := 0) (s := 2) (g := 1) rfl rfl).mono ?_
  rintro e w9 ⟨rfl, hf9⟩
  have F9 := hid_ (F8.out.then_none hf9)
  clear hf9
  go_wp2_with fail
  go_ret
  exact ⟨rfl, F9.out⟩
end Go.Proofs.Ythcpccddcgbanaa

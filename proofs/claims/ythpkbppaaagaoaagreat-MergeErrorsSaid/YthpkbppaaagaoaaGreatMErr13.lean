/- Layer 13: MergeErrors. -/
import Derived.Test.YthpkbppaaagaoaaGreatMiR
import Derived.Test.YthpkbppaaagaoaaGreatEe13
import Derived.Test.YthpkbppaaagaoaaGreatIsF13
namespace Go.Proofs.YthpkbppaaagaoaaGreat
open Go.RowKit Go.BigFrame
set_option maxRecDepth 100000
set_option linter.unusedVariables false
def lE13 : List Rw := [(⟨#[97]⟩, nilS)]
theorem lE_right : RightR lE13 := by
  refine ⟨fun p hp => ?_, fun i p q hp hq => ?_⟩
  · obtain rfl := List.mem_singleton.1 hp
    decide
  · cases i <;> cases hq
theorem pg_bad {x : St} {js : Nat → List Nat} {rs : Nat → List Rc} {M N u : Nat} {gm : Int} (h : Lay x js rs M N u gm) {n : Int} (hn : ¬ (0 ≤ n ∧ n < M)) : pgC x.ps n = 1 ∨ pgC x.ps n = 6 := by
  unfold pgC
  split
  · exact .inl rfl
  · rename_i h1
    right
    obtain ⟨q, hq⟩ : ∃ q, x.ps[n.toNat]? = some q := ⟨_, List.getElem?_eq_getElem (by omega)⟩
    have := h.fr n.toNat (by omega) q hq
    rw [hq]
    simp [this]
theorem root_ok13 : PRec (rootR sA13) ∧ (rootR sA13).kind = 7 ∧ Sound (baseV (rootR sA13)) := by
  refine ⟨root_prec sA_ok (by decide), rfl, ?_⟩
  have h := root_fold sA_ok
  by_cases hs : Sound (baseV (rootR sA13))
  · exact hs
  · exact absurd (h.symm.trans (foldU_one_no _ (fun e => hs e.2))) (by simp)
theorem root_at13 {l : List Rw} {x : St} {js : Nat → List Nat} {M N u : Nat} {gm : Int} (h : Lay x js (rootedR l sA13) M N u gm) (hM : 0 < M) : ∃ s g j, x.ps[0]? = some (true, s, g) ∧ Links x.ss [j] s g ∧ recOf x.ss j = rootR sA13 := by
  obtain ⟨s, g, h1, h2⟩ := h.pg 0 hM
  have h3 : (js 0).map (recOf x.ss) = [rootR sA13] := h.rc 0
  obtain ⟨j, hj⟩ : ∃ j, js 0 = [j] := by
    have := congrArg List.length h3
    rw [List.length_map] at this
    exact List.length_eq_one_iff.1 this
  rw [hj] at h2 h3
  exact ⟨s, g, j, h1, h2, by simpa using h3⟩
set_option maxHeartbeats 8000000 in
theorem merr13_law (n : Int) (w : World) : Calls Tryz.prog 8 #[.int .i64 n] w (RetQ (.bool true) w) := by
  go_enter Tryz.func8, Tryz.ntmps8
  go_wp2_with fail
  obtain ⟨w1, hw1⟩ : ∃ z, z = (w.alloc (.cells #[.string ⟨#[97]⟩, .string ⟨#[]⟩] 25)).alloc (.cells #[.string ⟨#[99]⟩] 9) := ⟨_, rfl⟩
  rw [← hw1]
  have f1 : Fr none_ w w1 := by rw [hw1]; exact ((Fr.refl none_ w).alloc _).alloc _
  have HR : Hid (Reads w1 2 (some ⟨w.heap.size, 0, none⟩) 1 (rwFlat lE13)) := hid_ (by rw [hw1]; exact (reads_blk (Blk.new w _ _) (n := 1) (size := 2) rfl : Reads _ 2 (some ⟨w.heap.size, 0, none⟩) 1 [.string ⟨#[97]⟩, .string ⟨#[]⟩]).alloc _)
  have HT : Hid (TxReads w1 (some ⟨w.heap.size + 1, 0, none⟩) 1 sA13) := hid_ (tx_one (by rw [hw1]; exact Blk.new7 _ _ (by simp)) (kOk_sz (by decide)))
  have F1 := hid_ f1
  clear hw1 f1
  refine (laid13_ok lE13 (some ⟨w.heap.size, 0, none⟩) (some ⟨w.heap.size + 1, 0, none⟩) 1 1 sA13 20 w1 HR.out (lE_right.rows (by decide)) (by decide) HT.out (by decide) (.inl rfl) (by decide)).mono ?_
  rintro e w2 ⟨m, x, js, rfl, hL⟩
  have Q := hid_ hL
  clear HR HT hL
  go_wp2_with fail
  refine (mdone_nil _).mono ?_
  rintro e w3 ⟨rfl, rfl⟩
  go_wp2_with fail
  refine (mgone_nil _).mono ?_
  rintro e w4 ⟨rfl, hf4⟩
  have Q4 := hid_ (Q.out.keep hf4)
  clear hf4 Q
  go_upto_region 7 with fail
  obtain ⟨w5, hw5⟩ : ∃ q, q = w4.alloc (.cells #[.int .i64 0, .int .i64 0] 36) := ⟨_, rfl⟩
  change Code.wp _ _ _ _ (w4.alloc (.cells #[.int .i64 0, .int .i64 0] 36))
  rw [← hw5]
  have Q5 := hid_ (Q4.out.keep (w' := w5) (by rw [hw5]; exact (Fr.refl none_ w4).alloc _))
  clear hw5 Q4
  go_wp2_with fail
  refine (mbegin_ok 0 0 0 0 1 ⟨#[99]⟩ w5).mono ?_
  rintro e w6 ⟨hx, gx, rfl, b1, b2, b3, b4, b5⟩
  have HX := hid_ b2
  have LX := hid_ b3
  have Q6 := hid_ (Q5.out.keep b5)
  have hml := Q5.out.mm.mall_lt
  have hlo : w.heap.size ≤ w5.heap.size := Nat.le_trans F1.out.size Q5.out.f.size
  have hs5 := b5.size
  have hxl := b2.lt
  have hgl := b3.b.lt
  have hgb := b3.lb
  have ML := hid_ hml
  clear b2 b3 b4 b5 Q5 hml
  go_wp2_with fail
  refine (mbegin_ok 0 0 0 n 1 ⟨#[99]⟩ w6).mono ?_
  rintro e w7 ⟨hy, gy, rfl, d1, d2, d3, d4, d5⟩
  have HX7 := hid_ (HX.out.fr d5 id)
  have LX7 := hid_ (LX.out.keep d5)
  have HY := hid_ d2
  have LY := hid_ d3
  have hgy := d3.lb
  have Q7 := hid_ (Q6.out.keep d5)
  clear d2 d3 d4 d5 Q6 HX LX
  obtain ⟨s0, g0, j, p0, li, hrj⟩ := root_at13 Q7.out.lay (by decide)
  have RT := hid_ (And.intro p0 (And.intro li hrj))
  clear p0 li hrj
  obtain ⟨w8, hw8⟩ : ∃ q, q = w7.alloc (.cells #[.pointer (some ⟨hx, 0, none⟩)] 41) := ⟨_, rfl⟩
  have f8 : Fr none_ w7 w8 := by rw [hw8]; exact (Fr.refl none_ w7).alloc _
  have hc8 := (show Blk w8 w7.heap.size 41 #[.pointer (some ⟨hx, 0, none⟩)] by rw [hw8]; exact Blk.new w7 _ _).cell' (i := 0) rfl
  have Q8 := hid_ (Q7.out.keep f8)
  have HY8 := hid_ (HY.out.fr f8 id)
  have LY8 := hid_ (LY.out.keep f8)
  have hrl := hid_ (runs_kind (cap := 1) (HX7.out.fr f8 id) rfl rfl (LX7.out.keep f8) Q8.out.mm (fun i hi => ML.out i hi) (by decide) (by decide) RT.out.1 RT.out.2.1 (by rw [RT.out.2.2]; exact root_ok13) (by decide) hc8)
  clear hc8 f8 Q7 HY LY HX7 LX7
  go_wp2_with fail
  rw [← hw8]
  clear hw8
  refine hrl.out.mono ?_
  rintro e w9 ⟨rfl, r1, r2, r3⟩
  have HX9 := hid_ r1
  have MM9 := hid_ r2
  have F9 := hid_ (Fr.up13 (F1.out.then_none Q8.out.f) r3 (fun i hi => by
    rcases hi with hi | hi | hi
    · exact Nat.le_trans F1.out.size (Q8.out.al i hi)
    · omega
    · omega))
  have HY9 := hid_ (HY8.out.fr r3 (fun hi => by
    rcases hi with hi | hi | hi
    · have := ML.out _ hi
      omega
    · omega
    · omega))
  have LY9 := hid_ (LY8.out.fr r3 (fun i hi => by
    rcases hi with hi | hi | hi
    · have := ML.out _ hi
      omega
    · omega
    · omega))
  clear r1 r2 r3 hrl HY8 LY8
  go_wp2_with fail
  refine (mstep_nil _ _).mono ?_
  rintro e wq ⟨rfl, rfl⟩
  go_wp2_with fail
  refine (mover_nil _).mono ?_
  rintro e wq ⟨rfl, rfl⟩
  go_wp2_with fail
  refine (isF 1 1 _).mono ?_
  rintro e wq ⟨rfl, rfl⟩
  go_wp2_with fail
  refine (mdone_ok HX9.out rfl (.inr ⟨_, _, rfl⟩)).mono ?_
  rintro e wa ⟨rfl, hfa⟩
  have FA := hid_ (F9.out.then_none hfa)
  have HYA := hid_ (HY9.out.fr hfa id)
  have LYA := hid_ (LY9.out.keep hfa)
  have MMA := hid_ (MM9.out.keep hfa)
  clear hfa F9 HY9 LY9 MM9 HX9
  unfold endH
  go_wp2_with fail
  refine (isF 9 9 _).mono ?_
  rintro e wq ⟨rfl, rfl⟩
  by_cases h02 : 0 ≤ n ∧ n ≤ 2
  · obtain ⟨h0, h2⟩ := h02
    go_wp2_with fail
    refine (awake13_ok _).mono ?_
    rintro e wz ⟨rfl, hfz⟩
    have FZ := hid_ (FA.out.then_none hfz)
    clear hfz
    go_wp2_with fail
    go_ret
    exact ⟨rfl, FZ.out⟩
  · have PB := hid_ (pg_bad (n := n) Q8.out.lay (by show ¬ (0 ≤ n ∧ n < (3 : Int)); omega))
    have HN := hid_ h02
    obtain ⟨wb, hwb⟩ : ∃ q, q = wa.alloc (.cells #[.pointer (some ⟨hy, 0, none⟩)] 41) := ⟨_, rfl⟩
    have fb : Fr none_ wa wb := by rw [hwb]; exact (Fr.refl none_ wa).alloc _
    have hcb := (show Blk wb wa.heap.size 41 #[.pointer (some ⟨hy, 0, none⟩)] by rw [hwb]; exact Blk.new wa _ _).cell' (i := 0) rfl
    have hrl := hid_ (runs_bad (cap := 1) (HYA.out.fr fb id) rfl rfl (LYA.out.keep fb) (MMA.out.keep fb) (fun i hi => by have := ML.out i hi; omega) (by decide) (by decide) (by rcases PB.out with e | e <;> rw [e] <;> decide) hcb)
    have FB := hid_ (FA.out.then_none fb)
    clear hcb fb FA HYA LYA MMA h02
    by_cases h0 : 0 ≤ n
    · have h2 : ¬ n ≤ 2 := by have := HN.out; omega
      go_wp2_with fail
      rw [← hwb]
      clear hwb
      refine hrl.out.mono ?_
      rintro e wc ⟨rfl, v, r1, r2, r3⟩
      have FC := hid_ (Fr.up13 FB.out r3 (fun i hi => by
        rcases hi with hi | hi | hi
        · exact Nat.le_trans F1.out.size (Q8.out.al i hi)
        · omega
        · omega))
      have HYC := hid_ r1
      have EVC := hid_ r2
      have IV : Hid (v = .nilIface ∨ ∃ t u, v = .iface t u) := hid_ (by
        rcases r2 with ⟨_, e⟩ | ⟨_, b, e, _⟩
        · exact .inl e
        · exact .inr ⟨_, _, e⟩)
      clear r1 r2 r3 hrl FB
      go_wp2_with fail
      refine (mdone_ok HYC.out rfl IV.out).mono ?_
      rintro e wd ⟨rfl, hfd⟩
      have FD := hid_ (FC.out.then_none hfd)
      have EVD := hid_ (EVC.out.fr hfd (fun _ _ _ => id))
      clear hfd FC EVC HYC IV
      unfold endH
      go_wp2_with fail
      rcases PB.out with e1 | e6
      · have h6 := hid_ (isF_ev 6 (pgC x.ps n) _ _ _ wd EVD.out (by rw [e1]; decide))
        have h1 := hid_ (isF_ev 1 (pgC x.ps n) _ _ _ wd EVD.out (by rw [e1]; decide))
        rw [e1] at h6 h1
        refine h6.out.mono ?_
        rintro e wq ⟨rfl, rfl⟩
        go_wp2_with fail
        refine h1.out.mono ?_
        rintro e wq ⟨rfl, rfl⟩
        go_wp2_with fail
        refine (awake13_ok _).mono ?_
        rintro e wz ⟨rfl, hfz⟩
        have FZ := hid_ (FD.out.then_none hfz)
        clear hfz
        go_wp2_with fail
        go_ret
        exact ⟨rfl, FZ.out⟩
      · have h6 := hid_ (isF_ev 6 (pgC x.ps n) _ _ _ wd EVD.out (by rw [e6]; decide))
        rw [e6] at h6
        refine h6.out.mono ?_
        rintro e wq ⟨rfl, rfl⟩
        go_wp2_with fail
        refine (awake13_ok _).mono ?_
        rintro e wz ⟨rfl, hfz⟩
        have FZ := hid_ (FD.out.then_none hfz)
        clear hfz
        go_wp2_with fail
        go_ret
        exact ⟨rfl, FZ.out⟩
    · go_wp2_with fail
      rw [← hwb]
      clear hwb
      refine hrl.out.mono ?_
      rintro e wc ⟨rfl, v, r1, r2, r3⟩
      have FC := hid_ (Fr.up13 FB.out r3 (fun i hi => by
        rcases hi with hi | hi | hi
        · exact Nat.le_trans F1.out.size (Q8.out.al i hi)
        · omega
        · omega))
      have HYC := hid_ r1
      have EVC := hid_ r2
      have IV : Hid (v = .nilIface ∨ ∃ t u, v = .iface t u) := hid_ (by
        rcases r2 with ⟨_, e⟩ | ⟨_, b, e, _⟩
        · exact .inl e
        · exact .inr ⟨_, _, e⟩)
      clear r1 r2 r3 hrl FB
      go_wp2_with fail
      refine (mdone_ok HYC.out rfl IV.out).mono ?_
      rintro e wd ⟨rfl, hfd⟩
      have FD := hid_ (FC.out.then_none hfd)
      have EVD := hid_ (EVC.out.fr hfd (fun _ _ _ => id))
      clear hfd FC EVC HYC IV
      unfold endH
      go_wp2_with fail
      rcases PB.out with e1 | e6
      · have h6 := hid_ (isF_ev 6 (pgC x.ps n) _ _ _ wd EVD.out (by rw [e1]; decide))
        have h1 := hid_ (isF_ev 1 (pgC x.ps n) _ _ _ wd EVD.out (by rw [e1]; decide))
        rw [e1] at h6 h1
        refine h6.out.mono ?_
        rintro e wq ⟨rfl, rfl⟩
        go_wp2_with fail
        refine h1.out.mono ?_
        rintro e wq ⟨rfl, rfl⟩
        go_wp2_with fail
        refine (awake13_ok _).mono ?_
        rintro e wz ⟨rfl, hfz⟩
        have FZ := hid_ (FD.out.then_none hfz)
        clear hfz
        go_wp2_with fail
        go_ret
        exact ⟨rfl, FZ.out⟩
      · have h6 := hid_ (isF_ev 6 (pgC x.ps n) _ _ _ wd EVD.out (by rw [e6]; decide))
        rw [e6] at h6
        refine h6.out.mono ?_
        rintro e wq ⟨rfl, rfl⟩
        go_wp2_with fail
        refine (awake13_ok _).mono ?_
        rintro e wz ⟨rfl, hfz⟩
        have FZ := hid_ (FD.out.then_none hfz)
        clear hfz
        go_wp2_with fail
        go_ret
        exact ⟨rfl, FZ.out⟩
end Go.Proofs.YthpkbppaaagaoaaGreat

/- An installer's steps back: freeing, giving. Written by gen_ins8.py. -/
import Derived.Test.YthcpccddcgbanaaFwdE12
namespace Go.Proofs.Ythcpccddcgbanaa
open Go.RowKit
set_option maxRecDepth 100000
set_option linter.unusedVariables false

theorem own_prefix12 {w : World} {base size n m c : Nat} {e : TypeId} {A : Option Addr} {xs : List Value} (h : w.ownsRow base e size (.slice A n c) n xs) (hm : m ≤ n) : w.ownsRow base e size (.slice A m c) m (xs.take (m * size)) := by
  have hl := Nat.mul_le_mul_right size hm
  refine ⟨by rw [List.length_take, h.1]; omega, ?_⟩
  rcases h.2 with ⟨hv, h0⟩ | ⟨g, cap, cur, hv, hb, hh, hc, hmx, hs, ht⟩
  · injection hv with h1 _ h3
    subst h1
    subst h3
    have : m = 0 := by omega
    exact .inl ⟨by rw [this], this⟩
  · injection hv with h1 _ h3
    subst h1
    subst h3
    exact .inr ⟨g, c, cur, rfl, hb, hh, by omega, hmx, hs, by rw [← ht, List.take_take, Nat.min_eq_left hl]⟩
theorem snoc_of {α : Type} {l : List α} {a : α} (h : l.getLast? = some a) : l = l.dropLast ++ [a] := by
  have hne : l ≠ [] := by rintro rfl; simp at h
  have e := List.dropLast_concat_getLast hne
  rw [List.getLast?_eq_some_getLast hne] at h
  rw [← Option.some.inj h]
  exact e.symm
theorem last_get {α : Type} {l : List α} {j : Nat} {a : α} (hl : l.length = j + 1) (hj : l[j]? = some a) : l.getLast? = some a := by
  rw [List.getLast?_eq_getElem?, hl]
  exact hj
theorem rf9_len : ∀ l : List (Int × Int), (rf9Flat l).length = l.length * 2
  | [] => rfl
  | p :: l => by
    have := rf9_len l
    unfold rf9Flat at this ⊢
    simp at this ⊢
    omega
theorem Inst.popR {w : World} {B i : Nat} {D : Dt} {a : Ia} (h : Inst w B i D a) {A : Option Addr} {j c : Nat} (hrv : a.rv = .slice A (j + 1) c) (hl : D.refs.length = j + 1) : Inst (w.setCell ⟨i, 23, none⟩ (.slice A j c)) B i { D with refs := D.refs.dropLast } { a with rv := .slice A j c } ∧ Fr (only i) w (w.setCell ⟨i, 23, none⟩ (.slice A j c)) := by
  have f1 := Fr.only1 w ⟨i, 23, none⟩ (.slice A j c)
  have hrec : ∀ R vr ve, RecOwn w 0 R vr ve → RecOwn (w.setCell ⟨i, 23, none⟩ (.slice A j c)) 0 R vr ve := fun R vr ve hR => hR.only f1 h.b (by decide) (by decide)
  obtain ⟨z, hz⟩ : ∃ z, D.refs.getLast? = some z := ⟨_, List.getLast?_eq_some_getLast (by intro e; rw [e] at hl; simp at hl)⟩
  have hs := snoc_of hz
  have hdl : D.refs.dropLast.length = j := by simp; omega
  have hr : w.ownsRow B 34 2 (.slice A j c) D.refs.dropLast.length (rf9Flat D.refs.dropLast) := by
    have h1 := h.r
    rw [hrv, hl] at h1
    have h2 := own_prefix12 h1 (m := j) (by omega)
    rw [hdl]
    have e : (rf9Flat D.refs).take (j * 2) = rf9Flat D.refs.dropLast := by
      have e1 : (rf9Flat D.refs.dropLast).length = j * 2 := by rw [rf9_len, hdl]
      conv => lhs; rw [hs, rf9Flat_snoc]
      rw [← e1, List.take_left']
      rfl
    rw [← e]
    exact h2
  have hb' : ∀ k, (Value.slice A j c).ownBlock = some k → a.rv.ownBlock = some k := fun k hk => by rw [hrv]; cases A <;> exact hk
  exact ⟨⟨h.b.set_ 23 _, own_fr h.p f1 (fun k hk e => own_blk_ne h.p h.b (by decide) (by rw [hk, show k = i from e])), own_fr h.bs f1 (fun k hk e => own_blk_ne h.bs h.b (by decide) (by rw [hk, show k = i from e])), h.cs, fun C hC => hrec _ _ _ (h.bo C hC), own_fr hr f1 (fun k hk e => own_blk_ne hr h.b (by decide) (by rw [hk, show k = i from e])), hrec _ _ _ h.h, h.e.only f1 h.b (by decide), h.le, h.zb, h.zh, ⟨h.zp.1, h.zp.2.1, by have := h.zp.2.2; show D.refs.dropLast.length ≤ 5; omega⟩⟩, f1⟩
theorem Inst.popP {w : World} {B i : Nat} {D : Dt} {a : Ia} (h : Inst w B i D a) {A : Option Addr} {j c : Nat} (hpv : a.pv = .slice A (j + 1) c) (hl : D.pages.length = j + 1) : Inst (w.setCell ⟨i, 6, none⟩ (.slice A j c)) B i { D with pages := D.pages.dropLast } { a with pv := .slice A j c } ∧ Fr (only i) w (w.setCell ⟨i, 6, none⟩ (.slice A j c)) := by
  have f1 := Fr.only1 w ⟨i, 6, none⟩ (.slice A j c)
  have hrec : ∀ R vr ve, RecOwn w 0 R vr ve → RecOwn (w.setCell ⟨i, 6, none⟩ (.slice A j c)) 0 R vr ve := fun R vr ve hR => hR.only f1 h.b (by decide) (by decide)
  obtain ⟨z, hz⟩ : ∃ z, D.pages.getLast? = some z := ⟨_, List.getLast?_eq_some_getLast (by intro e; rw [e] at hl; simp at hl)⟩
  have hs := snoc_of hz
  have hdl : D.pages.dropLast.length = j := by simp; omega
  have hr : w.ownsRow B 3 1 (.slice A j c) D.pages.dropLast.length (intF D.pages.dropLast) := by
    have h1 := h.p
    rw [hpv, hl] at h1
    have h2 := own_prefix12 h1 (m := j) (by omega)
    rw [hdl]
    have e : (intF D.pages).take (j * 1) = intF D.pages.dropLast := by
      have e1 : (intF D.pages.dropLast).length = j * 1 := by simp [intF]; omega
      have e2 : intF D.pages = intF D.pages.dropLast ++ [.int .i64 z] := by conv => lhs; rw [hs]
                                                                            simp [intF]
      rw [e2, ← e1, List.take_left']
      rfl
    rw [← e]
    exact h2
  exact ⟨⟨h.b.set_ 6 _, own_fr hr f1 (fun k hk e => own_blk_ne hr h.b (by decide) (by rw [hk, show k = i from e])), own_fr h.bs f1 (fun k hk e => own_blk_ne h.bs h.b (by decide) (by rw [hk, show k = i from e])), h.cs, fun C hC => hrec _ _ _ (h.bo C hC), own_fr h.r f1 (fun k hk e => own_blk_ne h.r h.b (by decide) (by rw [hk, show k = i from e])), hrec _ _ _ h.h, h.e.only f1 h.b (by decide), h.le, h.zb, h.zh, ⟨by have := h.zp.1; show D.pages.dropLast.length ≤ 4; omega, h.zp.2⟩⟩, f1⟩
theorem FootLe.blk {i : Nat} {a a' : Ia} (w : World) (h1 : a'.pv.ownBlock = a.pv.ownBlock) (h2 : a'.bv.ownBlock = a.bv.ownBlock) (h3 : a'.rv.ownBlock = a.rv.ownBlock) : FootLe i a a' w := fun k h => by
  unfold foot at h ⊢
  rw [h1, h2, h3] at h
  exact .inl h
def StepF (W : World) (m : Nat) (k : Int) (l : Lm) (x : St) (B i : Nat) (D : Dt) (a : Ia) (J : Jd) (q : Jl) (c0 : Int) (w : World) (e : Ending) (w' : World) : Prop :=
  ∃ D' x' a', e = .returned (.bool (D'.stage == 7)) ∧ StepR l.n J D x D' x' ∧ Behind W w m k l x x' B i D' a a' J q c0 w'
set_option maxHeartbeats 8000000 in
theorem stepFree {W w : World} {m : Nat} {k : Int} {l : Lm} {x : St} {B i : Nat} {D : Dt} {a : Ia} {J : Jd} {q : Jl} {c0 : Int} (h : Env W w m k l x B i D a J q c0) (hs : D.stage = 5) :
    Calls Try.prog 13 #[.pointer (some ⟨i, 0, none⟩), .pointer (some ⟨m, 0, none⟩)] w (StepF W m k l x B i D a J q c0 w) := by
  have hex : ∃ j, D.refs.length = j + 1 := ⟨D.refs.length - 1, by have := h.d.s5 hs; omega⟩
  obtain ⟨j, hl⟩ := hex
  obtain ⟨z, hj⟩ : ∃ z, D.refs[j]? = some z := ⟨_, List.getElem?_eq_getElem (by omega)⟩
  have hlast := last_get hl hj
  obtain ⟨gb, cc, hv, hcap, r0, r1⟩ := h.I.ref_at hj
  rw [hl] at hv hcap
  have hl5 : j ≤ 4 := by have := h.d.lr; have := h.d.lp; omega
  have H := hid_ h
  have S5 := hid_ (And.intro hs (And.intro hl hlast))
  have HV := hid_ hv
  have i5 : w.cell? ⟨i, 5, none⟩ = some (.int .i64 5) := by rw [← hs]; exact h.I.b.cell' rfl
  have iv : w.cell? ⟨i, 23, none⟩ = some (.slice (some ⟨gb, 0, none⟩) (j + 1) cc) := by rw [← hv]; exact h.I.b.cell' rfl
  have hwj : IntKind.i64.wrap (j : Int) = (j : Int) := IntWalk.i64_in _ (by omega)
  have hi0 : (0 : Int) ≤ (j : Int) := Int.natCast_nonneg _
  have hi1 : (j : Int) < (j : Int) + 1 := Int.lt_succ _
  have hi2 : (j : Int) ≤ (cc : Int) := by omega
  have d7 : (D.stage == 7) = false := by rw [hs]; rfl
  clear h hs hl hj hlast hv
  go_enter Try.func13, Try.ntmps13
  go_wp2_with fail
  refine (over_ok H.out.I).mono ?_
  rintro e w1 ⟨rfl, rfl⟩
  go_wp2_with fail
  refine (memFree_any m k l x _ H.out.M H.out.k0 H.out.k1 z.1 z.2).mono ?_
  rintro e w1 ⟨c, ss', v, rfl, hR, hev, hM1, hf1⟩
  have RR := hid_ hR
  have M1 := hid_ hM1
  have F1 := hid_ hf1
  have I1 := hid_ (H.out.I.mall H.out.M hf1)
  clear hR hev hM1 hf1 i5 iv r0 r1
  have iv : w1.cell? ⟨i, 23, none⟩ = some (.slice (some ⟨gb, 0, none⟩) (j + 1) cc) := by rw [← HV.out]; exact I1.out.b.cell' rfl
  have yv := I1.out.b.frozen 23
  have I2 := hid_ (I1.out.popR HV.out S5.out.2.1)
  have M2 := hid_ (M1.out.ty I2.out.2 I1.out.only_off)
  have F2 := hid_ (mf_tr (mf_m F1.out) (mf_i (a := a) I2.out.2))
  go_upto_region 9 with fail
  obtain ⟨w2, hw2⟩ : ∃ z, z = w1.setCell ⟨i, 23, none⟩ (.slice (some ⟨gb, 0, none⟩) j cc) := ⟨_, rfl⟩
  rw [← hw2] at I2 M2 F2
  change Code.wp _ _ _ _ (w1.setCell ⟨i, 23, none⟩ (.slice (some ⟨gb, 0, none⟩) j cc))
  rw [← hw2]
  clear hw2 iv yv hwj hi0 hi1 hi2
  have i5 : w2.cell? ⟨i, 5, none⟩ = some (.int .i64 5) := by rw [← S5.out.1]; exact I2.out.1.b.cell' rfl
  have y5 := I2.out.1.b.frozen 5
  have FLb := hid_ (show FootLe i a { a with rv := .slice (some ⟨gb, 0, none⟩) j cc } w from FootLe.blk w rfl rfl (by rw [HV.out]; rfl))
  obtain ⟨Ap, cp, _, _, _, _, e1, _, _⟩ := I2.out.1.shapes
  have i6 : w2.cell? ⟨i, 6, none⟩ = some (.slice Ap D.pages.length cp) := by rw [← e1]; exact I2.out.1.b.cell' rfl
  clear e1
  by_cases hj0 : j = 0
  · subst hj0
    have i5b : (w2.setCell ⟨i, 5, none⟩ (.int .i64 6)).cell? ⟨i, 5, none⟩ = some (.int .i64 6) := World.cell?_setCell_same _ _ _ (by rw [i5])
    clear i5b
    by_cases hp : D.pages.length = 0
    · have hp2 : ((D.pages.length : Int) == 0) = true := by simp [hp]
      have HP := hid_ hp
      clear hp
      go_wp2_with fail
      have I3 := I2.out.1.setStage 6
      have I4a := I3.1.setStage 7
      have f3 : Fr (only i) w2 _ := I3.2.trans I4a.2 (fun _ _ => id) (fun _ _ => id)
      have I4 := hid_ I4a.1
      have M4 := hid_ (M2.out.ty f3 I2.out.1.only_off)
      have F4 := hid_ (mf_tr F2.out (mf_i f3))
      have ef : freeD D = { D with refs := D.refs.dropLast, stage := 7 } := by unfold freeD; rw [if_pos S5.out.2.1, if_pos HP.out]
      clear I3 I4a f3
      refine (over_ok I4.out).mono ?_
      rintro e w6 ⟨rfl, rfl⟩
      go_wp2_with fail
      go_ret
      refine ⟨_, _, { a with rv := .slice (some ⟨gb, 0, none⟩) 0 cc }, ?_, StepR.free S5.out.1 S5.out.2.2 RR.out, H.out.behind (by rw [ef]; exact I4.out) M4.out rfl F4.out FLb.out ⟨rfl, rfl, rfl, rfl, rfl, rfl⟩⟩
      rw [ef]
      first
        | rfl
        | (rw [show (({ D with refs := D.refs.dropLast } : Dt).stage == 7) = false from (by show (D.stage == 7) = false; rw [S5.out.1]; rfl)]; rfl)
    · have hp2 : ((D.pages.length : Int) == 0) = false := by simp [hp]
      have HP := hid_ hp
      clear hp
      go_wp2_with fail
      have I3 := I2.out.1.setStage 6
      have I4 := hid_ I3.1
      have M4 := hid_ (M2.out.ty I3.2 I2.out.1.only_off)
      have F4 := hid_ (mf_tr F2.out (mf_i I3.2))
      have ef : freeD D = { D with refs := D.refs.dropLast, stage := 6 } := by unfold freeD; rw [if_pos S5.out.2.1, if_neg HP.out]
      clear I3
      refine (over_ok I4.out).mono ?_
      rintro e w6 ⟨rfl, rfl⟩
      go_wp2_with fail
      go_ret
      refine ⟨_, _, { a with rv := .slice (some ⟨gb, 0, none⟩) 0 cc }, ?_, StepR.free S5.out.1 S5.out.2.2 RR.out, H.out.behind (by rw [ef]; exact I4.out) M4.out rfl F4.out FLb.out ⟨rfl, rfl, rfl, rfl, rfl, rfl⟩⟩
      rw [ef]
      first
        | rfl
        | (rw [show (({ D with refs := D.refs.dropLast } : Dt).stage == 7) = false from (by show (D.stage == 7) = false; rw [S5.out.1]; rfl)]; rfl)
  · have hj2 : ((j : Int) == 0) = false := by simp [hj0]
    have HJ := hid_ hj0
    clear hj0
    go_wp2_with fail
    have I4 := hid_ I2.out.1
    have M4 := hid_ M2.out
    have F4 := hid_ F2.out
    have ef : freeD D = { D with refs := D.refs.dropLast } := by unfold freeD; rw [if_neg (by have := HJ.out; have := S5.out.2.1; omega), ← S5.out.1]
    refine (over_ok I4.out).mono ?_
    rintro e w6 ⟨rfl, rfl⟩
    go_wp2_with fail
    go_ret
    refine ⟨_, _, { a with rv := .slice (some ⟨gb, 0, none⟩) _ cc }, ?_, StepR.free S5.out.1 S5.out.2.2 RR.out, H.out.behind (by rw [ef]; exact I4.out) M4.out rfl F4.out FLb.out ⟨rfl, rfl, rfl, rfl, rfl, rfl⟩⟩
    rw [ef]
    first
      | rfl
      | (rw [show (({ D with refs := D.refs.dropLast } : Dt).stage == 7) = false from (by show (D.stage == 7) = false; rw [S5.out.1]; rfl)]; rfl)
set_option maxHeartbeats 8000000 in
theorem stepGive {W w : World} {m : Nat} {k : Int} {l : Lm} {x : St} {B i : Nat} {D : Dt} {a : Ia} {J : Jd} {q : Jl} {c0 : Int} (h : Env W w m k l x B i D a J q c0) (hs : D.stage = 6) :
    Calls Try.prog 13 #[.pointer (some ⟨i, 0, none⟩), .pointer (some ⟨m, 0, none⟩)] w (StepF W m k l x B i D a J q c0 w) := by
  have hex : ∃ j, D.pages.length = j + 1 := ⟨D.pages.length - 1, by have := (h.d.s6 hs).2; omega⟩
  obtain ⟨j, hl⟩ := hex
  obtain ⟨z, hj⟩ : ∃ z, D.pages[j]? = some z := ⟨_, List.getElem?_eq_getElem (by omega)⟩
  have hlast := last_get hl hj
  obtain ⟨gb, cc, hv, hcap, r0⟩ := h.I.page_at hj
  rw [hl] at hv hcap
  have hl5 : j ≤ 4 := by have := h.d.lr; have := h.d.lp; omega
  have H := hid_ h
  have S5 := hid_ (And.intro hs (And.intro hl hlast))
  have HV := hid_ hv
  have i5 : w.cell? ⟨i, 5, none⟩ = some (.int .i64 6) := by rw [← hs]; exact h.I.b.cell' rfl
  have iv : w.cell? ⟨i, 6, none⟩ = some (.slice (some ⟨gb, 0, none⟩) (j + 1) cc) := by rw [← hv]; exact h.I.b.cell' rfl
  have hwj : IntKind.i64.wrap (j : Int) = (j : Int) := IntWalk.i64_in _ (by omega)
  have hi0 : (0 : Int) ≤ (j : Int) := Int.natCast_nonneg _
  have hi1 : (j : Int) < (j : Int) + 1 := Int.lt_succ _
  have hi2 : (j : Int) ≤ (cc : Int) := by omega
  have d7 : (D.stage == 7) = false := by rw [hs]; rfl
  clear h hs hl hj hlast hv
  go_enter Try.func13, Try.ntmps13
  go_wp2_with fail
  refine (over_ok H.out.I).mono ?_
  rintro e w1 ⟨rfl, rfl⟩
  go_wp2_with fail
  refine (memGive_any m k l x _ H.out.M H.out.k0 H.out.k1 z).mono ?_
  rintro e w1 ⟨c, ps', v, rfl, hR, hev, hM1, hf1⟩
  have RR := hid_ hR
  have M1 := hid_ hM1
  have F1 := hid_ hf1
  have I1 := hid_ (H.out.I.mall H.out.M hf1)
  clear hR hev hM1 hf1 i5 iv r0
  have iv : w1.cell? ⟨i, 6, none⟩ = some (.slice (some ⟨gb, 0, none⟩) (j + 1) cc) := by rw [← HV.out]; exact I1.out.b.cell' rfl
  have yv := I1.out.b.frozen 6
  have I2 := hid_ (I1.out.popP HV.out S5.out.2.1)
  have M2 := hid_ (M1.out.ty I2.out.2 I1.out.only_off)
  have F2 := hid_ (mf_tr (mf_m F1.out) (mf_i (a := a) I2.out.2))
  go_upto_region 15 with fail
  obtain ⟨w2, hw2⟩ : ∃ z, z = w1.setCell ⟨i, 6, none⟩ (.slice (some ⟨gb, 0, none⟩) j cc) := ⟨_, rfl⟩
  rw [← hw2] at I2 M2 F2
  change Code.wp _ _ _ _ (w1.setCell ⟨i, 6, none⟩ (.slice (some ⟨gb, 0, none⟩) j cc))
  rw [← hw2]
  clear hw2 iv yv hwj hi0 hi1 hi2
  have i5 : w2.cell? ⟨i, 5, none⟩ = some (.int .i64 6) := by rw [← S5.out.1]; exact I2.out.1.b.cell' rfl
  have y5 := I2.out.1.b.frozen 5
  have FLb := hid_ (show FootLe i a { a with pv := .slice (some ⟨gb, 0, none⟩) j cc } w from FootLe.blk w (by rw [HV.out]; rfl) rfl rfl)
  have i6 : w2.cell? ⟨i, 6, none⟩ = some (.slice (some ⟨gb, 0, none⟩) j cc) := I2.out.1.b.cell' rfl
  by_cases hj0 : j = 0
  · subst hj0
    go_wp2_with fail
    have I3 := I2.out.1.setStage 7
    have I4 := hid_ I3.1
    have M4 := hid_ (M2.out.ty I3.2 I2.out.1.only_off)
    have F4 := hid_ (mf_tr F2.out (mf_i I3.2))
    have ef : giveD D = { D with pages := D.pages.dropLast, stage := 7 } := by unfold giveD; rw [if_pos S5.out.2.1]
    clear I3
    refine (over_ok I4.out).mono ?_
    rintro e w6 ⟨rfl, rfl⟩
    go_wp2_with fail
    go_ret
    refine ⟨_, _, { a with pv := .slice (some ⟨gb, 0, none⟩) 0 cc }, ?_, StepR.give S5.out.1 S5.out.2.2 RR.out, H.out.behind (by rw [ef]; exact I4.out) M4.out rfl F4.out FLb.out ⟨rfl, rfl, rfl, rfl, rfl, rfl⟩⟩
    rw [ef]
    first
      | rfl
      | (rw [show (({ D with pages := D.pages.dropLast } : Dt).stage == 7) = false from (by show (D.stage == 7) = false; rw [S5.out.1]; rfl)]; rfl)
  · have hj2 : ((j : Int) == 0) = false := by simp [hj0]
    have HJ := hid_ hj0
    clear hj0
    go_wp2_with fail
    have I4 := hid_ I2.out.1
    have M4 := hid_ M2.out
    have F4 := hid_ F2.out
    have ef : giveD D = { D with pages := D.pages.dropLast } := by unfold giveD; rw [if_neg (by have := HJ.out; have := S5.out.2.1; omega), ← S5.out.1]
    refine (over_ok I4.out).mono ?_
    rintro e w6 ⟨rfl, rfl⟩
    go_wp2_with fail
    go_ret
    refine ⟨_, _, { a with pv := .slice (some ⟨gb, 0, none⟩) _ cc }, ?_, StepR.give S5.out.1 S5.out.2.2 RR.out, H.out.behind (by rw [ef]; exact I4.out) M4.out rfl F4.out FLb.out ⟨rfl, rfl, rfl, rfl, rfl, rfl⟩⟩
    rw [ef]
    first
      | rfl
      | (rw [show (({ D with pages := D.pages.dropLast } : Dt).stage == 7) = false from (by show (D.stage == 7) = false; rw [S5.out.1]; rfl)]; rfl)
end Go.Proofs.Ythcpccddcgbanaa

/- Any step of an installer, and what stays. Written by gen_ins9.py. -/
import Derived.Test.YthcpccddcgbanaaStepF12
namespace Go.Proofs.Ythcpccddcgbanaa
open Go.RowKit
set_option maxRecDepth 100000
set_option linter.unusedVariables false

theorem memCount12 {m : Nat} {k : Int} {l : Lm} {x : St} (w : World) (h : Mm w m k l x) : Calls Try.prog 25 #[.pointer (some ⟨m, 0, none⟩)] w fun e w' => e = .returned (.int .i64 k) ∧ w = w' := by
  have c0 : w.cell? ⟨m, 0, none⟩ = some (.int .i64 k) := h.b.cell' rfl
  clear h
  go_enter Try.func25, Try.ntmps25
  go_wp2
  go_ret
  exact ⟨rfl, rfl⟩
def CallsN (D D' : Dt) (c0 c' : Int) : Prop := c' = if D.stage = 0 ∧ D'.stage = 1 then wrap64 (c0 + 1) else c0
def StepJ (W : World) (m : Nat) (k : Int) (l : Lm) (x : St) (B i : Nat) (D : Dt) (a : Ia) (J : Jd) (q : Jl) (c0 : Int) (w : World) (e : Ending) (w' : World) : Prop :=
  ∃ D' x' a' c', e = .returned (.bool (D'.stage == 7)) ∧ StepR l.n J D x D' x' ∧ CallsN D D' c0 c' ∧ Behind W w m k l x x' B i D' a a' J q c' w'
theorem undoD_stage (D : Dt) (c : Int) : (undoD D c).stage ≠ 1 := by
  unfold undoD
  by_cases hr : D.refs.length = 0
  · by_cases hp : D.pages.length = 0 <;> simp [hr, hp]
  · simp [hr]
theorem take_calls {J : Jd} {D : Dt} (h : DOk D) (hs : D.stage = 0) (p c c0 : Int) : CallsN D (takeD J D p c) c0 (takeC D c c0) := by
  have hn := h.n (by rw [hs]; decide)
  obtain ⟨a1, a2, a3⟩ := h.s0 hs
  unfold CallsN takeC takeD
  by_cases hc : c = 0
  · by_cases hl : (D.pages.length : Int) + 1 = D.news
    · have hz : D.news ≠ 0 := by omega
      simp [hc, hl, hs, madeD, hz]
    · simp [hc, hl, hs]
  · have := undoD_stage D c
    simp [hc, hs, this]
theorem calls_same {D D' : Dt} {c0 : Int} (hs : D.stage ≠ 0) : CallsN D D' c0 c0 := by
  unfold CallsN
  rw [if_neg (fun e => hs e.1)]
theorem step_any {W w : World} {m : Nat} {k : Int} {l : Lm} {x : St} {B i : Nat} {D : Dt} {a : Ia} {J : Jd} {q : Jl} {c0 : Int} (h : Env W w m k l x B i D a J q c0) (h7 : D.stage ≠ 7) :
    Calls Try.prog 13 #[.pointer (some ⟨i, 0, none⟩), .pointer (some ⟨m, 0, none⟩)] w (StepJ W m k l x B i D a J q c0 w) := by
  have hst := h.d.st
  have d : D.stage = 0 ∨ D.stage = 1 ∨ D.stage = 2 ∨ D.stage = 3 ∨ D.stage = 4 ∨ D.stage = 5 ∨ D.stage = 6 := by omega
  have sn : ∀ (b : Bool), ∃ b', (Ending.returned (.bool b)) = .returned (.bool b') := fun b => ⟨b, rfl⟩
  rcases d with hs | hs | hs | hs | hs | hs | hs
  · refine (step_fwd h.I h7 (by rw [hs]; decide) (by rw [hs]; decide) (fwd0 h hs) (fun e w' h => by obtain ⟨_, _, _, _, h, _⟩ := h; exact ⟨_, h⟩)).mono ?_
    rintro e w' ⟨p, c, ps', a', he, hT, hb⟩
    exact ⟨_, _, a', _, he, .take hs hT, take_calls h.d hs p c c0, hb⟩
  · obtain ⟨s1, s2, s3, s4, s5⟩ := h.d.s1 hs
    obtain ⟨j, hj⟩ : ∃ j : Nat, D.at_ = (j : Int) := ⟨D.at_.toNat, by omega⟩
    obtain ⟨R, hR⟩ : ∃ R, D.bases[j]? = some R := ⟨_, List.getElem?_eq_getElem (by omega)⟩
    refine (step_fwd h.I h7 (by rw [hs]; decide) (by rw [hs]; decide) (fwd1 h hs hj hR) (fun e w' h => by obtain ⟨_, _, _, _, _, h, _⟩ := h; exact ⟨_, h⟩)).mono ?_
    rintro e w' ⟨sl, gn, kk, ss', a', he, hA, hb⟩
    exact ⟨_, _, a', c0, he, .put hs (by rw [hj]; exact hR) hA, calls_same (by rw [hs]; decide), hb⟩
  · obtain ⟨s1, s2, s3, s4⟩ := h.d.s2 hs
    obtain ⟨j, hj⟩ : ∃ j : Nat, D.at_ = (j : Int) := ⟨D.at_.toNat, by omega⟩
    obtain ⟨p, hp⟩ : ∃ p, D.pages[j]? = some p := ⟨_, List.getElem?_eq_getElem (by omega)⟩
    obtain ⟨⟨s, g⟩, hr⟩ : ∃ r, D.refs[j]? = some r := ⟨_, List.getElem?_eq_getElem (by omega)⟩
    refine (step_fwd h.I h7 (by rw [hs]; decide) (by rw [hs]; decide) (fwd2 h hs hj hp hr) (fun e w' h => by obtain ⟨_, _, _, _, h, _⟩ := h; exact ⟨_, h⟩)).mono ?_
    rintro e w' ⟨ok, c, ps', a', he, hA, hb⟩
    exact ⟨_, _, a', c0, he, .link hs (by rw [hj]; exact hp) (by rw [hj]; exact hr) hA, calls_same (by rw [hs]; decide), hb⟩
  · obtain ⟨s1, s2⟩ := h.d.s3 hs
    have hn := h.d.n h7
    refine (step_fwd h.I h7 (by rw [hs]; decide) (by rw [hs]; decide) (fwd3 h.I h.M h.k0 h.k1 hs (by omega) h.hB) (fun e w' h => by obtain ⟨_, _, _, _, _, h, _⟩ := h; exact ⟨_, h⟩)).mono ?_
    rintro e w' ⟨sl, gn, kk, ss', a', he, hA, hM, hI, hf, hfl, hsm⟩
    exact ⟨_, _, a', c0, he, .head hs hA, calls_same (by rw [hs]; decide), h.behind hI hM hsm.1 hf hfl ⟨rfl, rfl, rfl, rfl, rfl, rfl⟩⟩
  · obtain ⟨s1, s2⟩ := h.d.s4 hs
    have hn := h.d.n h7
    obtain ⟨j, hl⟩ : ∃ j, D.refs.length = j + 1 := ⟨D.refs.length - 1, by omega⟩
    obtain ⟨⟨s, g⟩, hr⟩ : ∃ r, D.refs[j]? = some r := ⟨_, List.getElem?_eq_getElem (by omega)⟩
    refine (step_fwd h.I h7 (by rw [hs]; decide) (by rw [hs]; decide) (fwd4 h.I h.M h.k0 h.k1 hs hl hr) (fun e w' h => by obtain ⟨_, _, _, _, h, _⟩ := h; exact ⟨_, h⟩)).mono ?_
    rintro e w' ⟨ok, c, ps', a', he, hA, hM, hI, hf, hfl, hsm⟩
    exact ⟨_, _, a', c0, he, .swap hs (last_get hl hr) hA, calls_same (by rw [hs]; decide), h.behind hI hM hsm.1.1 hf hfl ⟨rfl, rfl, rfl, rfl, rfl, rfl⟩⟩
  · refine (stepFree h hs).mono ?_
    rintro e w' ⟨D', x', a', he, hR, hb⟩
    exact ⟨D', x', a', c0, he, hR, calls_same (by rw [hs]; decide), hb⟩
  · refine (stepGive h hs).mono ?_
    rintro e w' ⟨D', x', a', he, hR, hb⟩
    exact ⟨D', x', a', c0, he, hR, calls_same (by rw [hs]; decide), hb⟩
theorem undoD_news (D : Dt) (c : Int) : (undoD D c).news = D.news := rfl
theorem StepR.news {n : Int} {J : Jd} {D D' : Dt} {x x' : St} (h : StepR n J D x D' x') : D'.news = D.news := by
  cases h with
  | take hs h => unfold takeD; split <;> (try split) <;> rfl
  | put hs hR h => unfold putB; split <;> (try split) <;> rfl
  | link hs hp hr h => unfold linkD; split <;> (try split) <;> rfl
  | head hs h => unfold fwd3D; split <;> rfl
  | swap hs hr h => unfold fwd4D; split <;> rfl
  | free hs hr h => rfl
  | give hs hp h => rfl
/-- The blocks that an installer's access may turn, and those of the job's own. -/
theorem Env.keepJob {W w w' : World} {m : Nat} {k : Int} {l : Lm} {x : St} {B i : Nat} {D : Dt} {a : Ia} {J : Jd} {q : Jl} {c0 : Int} (h : Env W w m k l x B i D a J q c0) {J2 : Jd} {q2 : Jl} (hj : JobAt W w J2 q2) (hf : Fr (mfc m x i a q.cab) w w') : JobAt W w' J2 q2 := by
  obtain ⟨cs, hcb⟩ := h.cb
  refine hj.fr hf (fun b hb => ?_) (fun b t cs' hb hbb => ?_)
  · rcases hb with hb | hb | hb
    · exact h.hW b hb
    · exact Nat.le_trans h.hWB (h.I.foot_le hb)
    · rw [show b = q.cab from hb]; exact h.j.ca
  · rcases hb with hb | hb | hb
    · exact ⟨fun e => by subst e; exact h.M.mall_ty hbb (by decide) hb, fun e => by subst e; exact h.M.mall_ty hbb (by decide) hb⟩
    · obtain ⟨t', cs2, hb', ht⟩ := h.I.foot_blk hb
      obtain ⟨rfl, _⟩ := hbb.uniq hb'
      rcases ht with rfl | rfl | rfl | rfl <;> decide
    · have hb2 : b = q.cab := hb
      subst hb2
      obtain ⟨rfl, _⟩ := hbb.uniq hcb
      decide
theorem mall_same {m : Nat} {x x' : St} (h : x'.a = x.a ∧ x'.G = x.G ∧ x'.T = x.T ∧ x'.H = x.H ∧ x'.C = x.C ∧ x'.M = x.M) : mall m x' = mall m x := by
  unfold mall
  rw [h.2.1, h.2.2.2.1, h.2.2.2.2.1, h.2.2.2.2.2]
theorem Env.next {W w w' : World} {m : Nat} {k : Int} {l : Lm} {x x' : St} {B i : Nat} {D D' : Dt} {a a' : Ia} {J : Jd} {q : Jl} {c0 c' : Int} (h : Env W w m k l x B i D a J q c0) (hs : StepR l.n J D x D' x') (hb : Behind W w m k l x x' B i D' a a' J q c' w') (hk : k + 1 ≤ 100000) : Env W w' m (k + 1) l x' B i D' a' J q c' := by
  obtain ⟨cs, hcb⟩ := h.cb
  refine ⟨hb.I, hb.M, by have := h.k0; omega, hk, h.d.step hs, h.keepJob h.j hb.f, hb.mv.trans h.mv, hs.news.trans h.nw, h.zJ, hb.cc, hb.cb, fun e => ?_, by rw [mall_same hb.sm]; exact h.hW, h.hWB, Nat.le_trans h.hB hb.f.size⟩
  rcases hb.fl _ e with e | e
  · exact h.off e
  · have := hcb.lt
    omega
end Go.Proofs.Ythcpccddcgbanaa

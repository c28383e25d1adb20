/- What an installer that is done has put in place; its Pages. -/
import Derived.Test.YthcpccddcgbanaaMany12
import Derived.Test.YthcpccddcgbanaaSame4
namespace Go.Proofs.Ythcpccddcgbanaa
open Go.RowKit
set_option maxRecDepth 100000
set_option linter.unusedVariables false

def rec12 (J : Jd) (D : Dt) (k : Nat) : Rc := if (k : Int) < D.news then jbase J k else jhead J D.pages
def linkN (D : Dt) : Int := if D.stage = 2 then D.at_ else if 3 ≤ D.stage then D.news else 0
structure Hd (J : Jd) (D : Dt) (x : St) : Prop where
  b : 1 ≤ D.stage → D.bases = jbases J D.news.toNat ∧ D.head = jhead J D.pages
  r : ∀ (k : Nat) (s g : Int), D.refs[k]? = some (s, g) → ∃ (i : Nat) (y : Sl), s = (i : Int) + 1 ∧ x.ss[i]? = some y ∧ y.used = true ∧ y.gen = g ∧ y.R = rec12 J D k
  p : ∀ (k : Nat) (p : Int), D.pages[k]? = some p → ∃ (i : Nat) (q : Pg), p = (i : Int) ∧ x.ps[i]? = some q ∧ q.1 = true ∧ i ≠ 0
  np : D.pages.Nodup
  l : ∀ (k : Nat) (p s g : Int), (k : Int) < linkN D → D.pages[k]? = some p → D.refs[k]? = some (s, g) → ∃ i : Nat, p = (i : Int) ∧ x.ps[i]? = some (true, s, g)
  z : ∃ h g, x.ps[0]? = some (true, h, g)
  e : D.done = true → ∃ s g, D.refs.getLast? = some (s, g) ∧ x.ps[0]? = some (true, s, g)
def Fine (D : Dt) : Prop := D.stage ≤ 4 ∨ D.done = true
theorem undo_not_fine {D : Dt} {c : Int} (h : D.done = false) : ¬ Fine (undoD D c) := by
  rintro (h1 | h1)
  · unfold undoD at h1
    by_cases hr : D.refs.length = 0
    · by_cases hp : D.pages.length = 0 <;> simp [hr, hp] at h1
    · simp [hr] at h1
  · have : D.done = true := h1
    rw [h] at this
    cases this
theorem StepR.job {n : Int} {J : Jd} {D D' : Dt} {x x' : St} (h : StepR n J D x D' x') : D'.page = D.page ∧ D'.os = D.os ∧ D'.og = D.og := by
  cases h with
  | take hs h => unfold takeD; split <;> (try split) <;> exact ⟨rfl, rfl, rfl⟩
  | put hs hR h => unfold putB; split <;> (try split) <;> exact ⟨rfl, rfl, rfl⟩
  | link hs hp hr h => unfold linkD; split <;> (try split) <;> exact ⟨rfl, rfl, rfl⟩
  | head hs h => unfold fwd3D; split <;> exact ⟨rfl, rfl, rfl⟩
  | swap hs hr h => unfold fwd4D; split <;> exact ⟨rfl, rfl, rfl⟩
  | free hs hr h => exact ⟨rfl, rfl, rfl⟩
  | give hs hp h => exact ⟨rfl, rfl, rfl⟩
theorem get_snoc {α : Type} {l : List α} {a b : α} {k : Nat} (h : (l ++ [a])[k]? = some b) : (k < l.length ∧ l[k]? = some b) ∨ (k = l.length ∧ b = a) := by
  rcases Nat.lt_or_ge k l.length with h1 | h1
  · rw [List.getElem?_append_left h1] at h
    exact .inl ⟨h1, h⟩
  · rw [List.getElem?_append_right h1] at h
    rcases Nat.eq_zero_or_pos (k - l.length) with h2 | h2
    · rw [h2] at h
      exact .inr ⟨by omega, (by simpa using h.symm)⟩
    · rw [List.getElem?_eq_none (by simp; omega)] at h
      cases h
/-- A record was put. -/
theorem Hd.alloc {J : Jd} {D : Dt} {x : St} {n : Int} {R : Rc} {sl gn : Int} {ss' : List Sl} (h : Hd J D x) (ha : AllocR n x.ss R sl gn 0 ss') : ∀ (k : Nat) (s g : Int), (D.refs ++ [(sl, gn)])[k]? = some (s, g) → ∃ (i : Nat) (y : Sl), s = (i : Int) + 1 ∧ ss'[i]? = some y ∧ y.used = true ∧ y.gen = g ∧ (k < D.refs.length ∧ y.R = rec12 J D k ∨ k = D.refs.length ∧ y.R = R) := by
  rcases ha with ⟨i, y, vr, ve, h1, h2, h3, rfl, rfl, _, rfl⟩ | ⟨_, _, _, h5, _⟩
  · intro k s g hk
    have hil := (List.getElem?_eq_some_iff.1 h1).1
    rcases get_snoc hk with ⟨hl, hk⟩ | ⟨rfl, e⟩
    · obtain ⟨i', y', rfl, g1, g2, g3, g4⟩ := h.r k s g hk
      have hne : i' ≠ i := fun e => by subst e; rw [h1] at g1; obtain rfl := Option.some.inj g1; rw [h2.1] at g2; cases g2
      exact ⟨i', y', rfl, by rw [List.getElem?_set_ne (Ne.symm hne)]; exact g1, g2, g3, .inl ⟨hl, g4⟩⟩
    · have e1 : s = (i : Int) + 1 := congrArg Prod.fst e
      have e2 : g = y.gen + 1 := congrArg Prod.snd e
      exact ⟨i, ⟨y.gen + 1, true, R, vr, ve⟩, e1, by rw [List.getElem?_set_self hil], rfl, e2.symm, .inr ⟨rfl, rfl⟩⟩
  · exact absurd h5.symm (allocErr_pos _)
theorem Hd.step {n : Int} {J : Jd} {D D' : Dt} {x x' : St} (h : Fine D → Hd J D x) (hD : DOk D) (h7 : D.stage ≠ 7) (hpg : D.page = 0) (hs : StepR n J D x D' x') : Fine D' → Hd J D' x' := by
  intro hF
  have hnd := hD.nodone h7
  cases hs with
  | take hst ht =>
    have H := h (.inl (by omega))
    obtain ⟨a1, a2, a3⟩ := hD.s0 hst
    rename_i p c ps'
    by_cases hc : c = 0
    · subst hc
      rcases ht with ⟨i, s, g, h1, h2, rfl, _, rfl⟩ | ⟨_, _, h3, _⟩
      · have hil := (List.getElem?_eq_some_iff.1 h1).1
        obtain ⟨z1, z2, hz⟩ := H.z
        have hi0 : i ≠ 0 := by rintro rfl; rw [h1] at hz; cases hz
        have hp : ∀ (k : Nat) (p : Int), (D.pages ++ [(i : Int)])[k]? = some p → ∃ (i' : Nat) (q : Pg), p = (i' : Int) ∧ (x.ps.set i (true, 0, 0))[i']? = some q ∧ q.1 = true ∧ i' ≠ 0 := fun k p hk => by
          rcases get_snoc hk with ⟨_, hk⟩ | ⟨rfl, rfl⟩
          · obtain ⟨i', q, rfl, g1, g2, g3⟩ := H.p k p hk
            have hne : i' ≠ i := fun e => by subst e; rw [h1] at g1; obtain rfl := Option.some.inj g1; cases g2
            exact ⟨i', q, rfl, by rw [List.getElem?_set_ne (Ne.symm hne)]; exact g1, g2, g3⟩
          · exact ⟨i, (true, 0, 0), rfl, by rw [List.getElem?_set_self hil], rfl, hi0⟩
        have hnp : (D.pages ++ [(i : Int)]).Nodup := by
          refine List.nodup_append.2 ⟨H.np, by simp, fun a ha b hb => ?_⟩
          obtain rfl : b = (i : Int) := by simpa using hb
          rintro rfl
          obtain ⟨k, hk⟩ := List.mem_iff_getElem?.1 ha
          obtain ⟨i', q, e, g1, g2, g3⟩ := H.p k _ hk
          obtain rfl : i' = i := by omega
          rw [h1] at g1
          obtain rfl := Option.some.inj g1
          cases g2
        have hz' : ∃ h g, (x.ps.set i (true, 0, 0))[0]? = some (true, h, g) := ⟨z1, z2, by rw [List.getElem?_set_ne hi0]; exact hz⟩
        unfold takeD
        rw [if_pos rfl]
        by_cases hl : (D.pages.length : Int) + 1 = D.news
        · rw [if_pos hl]
          have hz0 : D.news ≠ 0 := by omega
          refine ⟨fun _ => ⟨rfl, rfl⟩, fun k s g hk => ?_, hp, hnp, fun k p s g hk => ?_, hz', fun e => ?_⟩
          · have hk : D.refs[k]? = some (s, g) := hk
            rw [a1] at hk
            simp at hk
          · have hk : (k : Int) < linkN (madeD J { D with pages := D.pages ++ [(i : Int)] }) := hk
            simp [linkN, madeD, hz0] at hk
            omega
          · have e : D.done = true := e
            rw [hnd] at e
            cases e
        · rw [if_neg hl]
          refine ⟨fun e => ?_, fun k s g hk => ?_, hp, hnp, fun k p s g hk => ?_, hz', fun e => ?_⟩
          · have e : 1 ≤ D.stage := e
            omega
          · have hk : D.refs[k]? = some (s, g) := hk
            rw [a1] at hk
            simp at hk
          · have hk : (k : Int) < linkN { D with pages := D.pages ++ [(i : Int)] } := hk
            simp [linkN, hst] at hk
            omega
          · have e : D.done = true := e
            rw [hnd] at e
            cases e
      · cases h3
    · unfold takeD at hF
      rw [if_neg hc] at hF
      exact absurd hF (undo_not_fine hnd)
  | put hst hR ha =>
    rename_i R sl gn kk ss'
    have H := h (.inl (by omega))
    obtain ⟨a1, a2, a3, a4, a5⟩ := hD.s1 hst
    by_cases hc : kk = 0
    · subst hc
      obtain ⟨b1, b2⟩ := H.b (by omega)
      have hRk : R = jbase J D.refs.length := by
        rw [b1] at hR
        have e : D.at_.toNat = D.refs.length := by omega
        rw [e] at hR
        have hlt : D.refs.length < D.news.toNat := by omega
        simp [jbases, hlt] at hR
        exact hR.symm
      have hr : ∀ (k : Nat) (s g : Int), (D.refs ++ [(sl, gn)])[k]? = some (s, g) → ∃ (i : Nat) (y : Sl), s = (i : Int) + 1 ∧ ss'[i]? = some y ∧ y.used = true ∧ y.gen = g ∧ y.R = rec12 J D k := fun k s g hk => by
        obtain ⟨i, y, e1, e2, e3, e4, e5⟩ := H.alloc ha k s g hk
        refine ⟨i, y, e1, e2, e3, e4, ?_⟩
        rcases e5 with ⟨_, e5⟩ | ⟨rfl, e5⟩
        · exact e5
        · rw [e5, hRk, rec12, if_pos (by omega)]
      unfold putB
      rw [if_pos rfl]
      by_cases hl : D.at_ + 1 = (D.bases.length : Int)
      · rw [if_pos hl]
        refine ⟨fun _ => ⟨b1, b2⟩, hr, H.p, H.np, fun k p s g hk => ?_, H.z, fun e => ?_⟩
        · simp [linkN] at hk
          omega
        · have e : D.done = true := e
          rw [hnd] at e
          cases e
      · rw [if_neg hl]
        refine ⟨fun _ => ⟨b1, b2⟩, hr, H.p, H.np, fun k p s g hk => ?_, H.z, fun e => ?_⟩
        · simp [linkN, hst] at hk
          omega
        · have e : D.done = true := e
          rw [hnd] at e
          cases e
    · unfold putB at hF
      rw [if_neg hc] at hF
      exact absurd hF (undo_not_fine hnd)
  | link hst hp hr hw =>
    rename_i p s g ok c ps'
    have H := h (.inl (by omega))
    obtain ⟨a1, a2, a3, a4⟩ := hD.s2 hst
    cases ok with
    | false =>
      unfold linkD at hF
      rw [if_neg (by decide)] at hF
      exact absurd hF (undo_not_fine hnd)
    | true =>
      obtain ⟨i, q, rfl, g1, g2, g3⟩ := H.p _ p hp
      have hil := (List.getElem?_eq_some_iff.1 g1).1
      obtain ⟨u, s0, g0⟩ := q
      obtain rfl : u = true := g2
      obtain ⟨e1, e2, e3⟩ := hw.used rfl g1
      have e4 : s0 = 0 ∧ g0 = 0 := by simpa using e1.symm
      have hps : ps' = x.ps.set i (true, s, g) := by rw [e3, swapPs, if_pos e4]
      subst hps
      have hpp : ∀ (k : Nat) (p : Int), D.pages[k]? = some p → ∃ (i' : Nat) (q : Pg), p = (i' : Int) ∧ (x.ps.set i (true, s, g))[i']? = some q ∧ q.1 = true ∧ i' ≠ 0 := fun k p hk => by
        obtain ⟨i', q, rfl, k1, k2, k3⟩ := H.p k p hk
        rcases Nat.decEq i' i with hne | rfl
        · exact ⟨i', q, rfl, by rw [List.getElem?_set_ne (Ne.symm hne)]; exact k1, k2, k3⟩
        · exact ⟨i', (true, s, g), rfl, by rw [List.getElem?_set_self hil], rfl, k3⟩
      obtain ⟨z1, z2, hz⟩ := H.z
      have hz' : ∃ h g', (x.ps.set i (true, s, g))[0]? = some (true, h, g') := ⟨z1, z2, by rw [List.getElem?_set_ne g3]; exact hz⟩
      obtain ⟨b1, b2⟩ := H.b (by omega)
      have hat : (D.at_.toNat : Int) = D.at_ := by omega
      have hl : ∀ (k : Nat) (p' s' g' : Int), (k : Int) < D.at_ + 1 → D.pages[k]? = some p' → D.refs[k]? = some (s', g') → ∃ i' : Nat, p' = (i' : Int) ∧ (x.ps.set i (true, s, g))[i']? = some (true, s', g') := fun k p' s' g' hk hp' hr' => by
        rcases Int.lt_or_le (k : Int) D.at_ with h1 | h1
        · obtain ⟨i', e5, e6⟩ := H.l k p' s' g' (by unfold linkN; rw [if_pos hst]; exact h1) hp' hr'
          have hne : i' ≠ i := fun e => by
            subst e
            have hk2 : k = D.at_.toNat := (List.getElem?_inj (List.getElem?_eq_some_iff.1 hp').1 H.np).1 (by rw [hp', hp, e5])
            omega
          exact ⟨i', e5, by rw [List.getElem?_set_ne (Ne.symm hne)]; exact e6⟩
        · obtain rfl : k = D.at_.toNat := by omega
          rw [hp] at hp'
          rw [hr] at hr'
          obtain rfl := Option.some.inj hp'
          injection Option.some.inj hr' with f1 f2
          subst f1
          subst f2
          exact ⟨i, rfl, by rw [List.getElem?_set_self hil]⟩
      unfold linkD
      rw [if_pos rfl]
      by_cases hlq : D.at_ + 1 = (D.pages.length : Int)
      · rw [if_pos hlq]
        refine ⟨fun _ => ⟨b1, b2⟩, H.r, hpp, H.np, fun k p' s' g' hk => hl k p' s' g' ?_, hz', fun e => ?_⟩
        · simp [linkN] at hk
          omega
        · have e : D.done = true := e
          rw [hnd] at e
          cases e
      · rw [if_neg hlq]
        refine ⟨fun _ => ⟨b1, b2⟩, H.r, hpp, H.np, fun k p' s' g' hk => hl k p' s' g' ?_, hz', fun e => ?_⟩
        · simp [linkN, hst] at hk
          omega
        · have e : D.done = true := e
          rw [hnd] at e
          cases e
  | head hst ha =>
    rename_i sl gn kk ss'
    have H := h (.inl (by omega))
    obtain ⟨a1, a2⟩ := hD.s3 hst
    by_cases hc : kk = 0
    · subst hc
      obtain ⟨b1, b2⟩ := H.b (by omega)
      unfold fwd3D
      rw [if_pos rfl]
      refine ⟨fun _ => ⟨b1, b2⟩, fun k s g hk => ?_, H.p, H.np, fun k p s g hk hp hr => ?_, H.z, fun e => ?_⟩
      · obtain ⟨i, y, e1, e2, e3, e4, e5⟩ := H.alloc ha k s g hk
        refine ⟨i, y, e1, e2, e3, e4, ?_⟩
        rcases e5 with ⟨_, e5⟩ | ⟨rfl, e5⟩
        · exact e5
        · rw [e5, b2]
          show _ = rec12 J D D.refs.length
          rw [rec12, if_neg (by omega)]
      · have hk : (k : Int) < D.news := by simpa [linkN] using hk
        refine H.l k p s g (by unfold linkN; rw [if_neg (by omega), if_pos (by omega)]; exact hk) hp ?_
        rcases get_snoc hr with ⟨_, hr⟩ | ⟨rfl, _⟩
        · exact hr
        · omega
      · have e : D.done = true := e
        rw [hnd] at e
        cases e
    · unfold fwd3D at hF
      rw [if_neg hc] at hF
      exact absurd hF (undo_not_fine hnd)
  | swap hst hr hw =>
    rename_i s g ok c ps'
    have H := h (.inl (by omega))
    obtain ⟨a1, a2⟩ := hD.s4 hst
    cases ok with
    | false =>
      unfold fwd4D at hF
      rw [if_neg (by decide)] at hF
      exact absurd hF (undo_not_fine hnd)
    | true =>
      obtain ⟨z1, z2, hz⟩ := H.z
      have hil := (List.getElem?_eq_some_iff.1 hz).1
      rw [hpg] at hw
      obtain ⟨e1, e2, e3⟩ := hw.used (i := 0) rfl hz
      have e4 : z1 = D.os ∧ z2 = D.og := by simpa using e1.symm
      have hps : ps' = x.ps.set 0 (true, s, g) := by rw [e3, swapPs, if_pos e4]
      subst hps
      obtain ⟨b1, b2⟩ := H.b (by omega)
      unfold fwd4D
      rw [if_pos rfl]
      refine ⟨fun _ => ⟨b1, b2⟩, H.r, fun k p hk => ?_, H.np, fun k p' s' g' hk hp hr => ?_, ⟨s, g, by simp [hil]⟩, fun _ => ⟨s, g, hr, by simp [hil]⟩⟩
      · obtain ⟨i', q, rfl, k1, k2, k3⟩ := H.p k p hk
        exact ⟨i', q, rfl, by show (x.ps.set 0 _)[i']? = _; rw [List.getElem?_set_ne (Ne.symm k3)]; exact k1, k2, k3⟩
      · have hk : (k : Int) < D.news := by simpa [linkN] using hk
        obtain ⟨i', e5, e6⟩ := H.l k p' s' g' (by unfold linkN; rw [if_neg (by omega), if_pos (by omega)]; exact hk) hp hr
        obtain ⟨i2, q, e7, k1, k2, k3⟩ := H.p k p' hp
        have hne : i' ≠ 0 := by omega
        exact ⟨i', e5, by show (x.ps.set 0 _)[i']? = _; rw [List.getElem?_set_ne (Ne.symm hne)]; exact e6⟩
  | free hst hr hf =>
    exfalso
    rcases hF with e | e
    · unfold freeD at e
      have e : (if D.refs.length = 1 then (if D.pages.length = 0 then (7 : Int) else 6) else 5) ≤ 4 := e
      split at e <;> (try split at e) <;> omega
    · have e : D.done = true := e
      rw [hnd] at e
      cases e
  | give hst hp hg =>
    exfalso
    rcases hF with e | e
    · unfold giveD at e
      have e : (if D.pages.length = 1 then (7 : Int) else 6) ≤ 4 := e
      split at e <;> omega
    · have e : D.done = true := e
      rw [hnd] at e
      cases e
theorem Hd.steps {n : Int} {J : Jd} {z : Nat} {D D' : Dt} {x x' : St} (hs : Steps n J z D x D' x') : (Fine D → Hd J D x) ∧ DOk D ∧ D.page = 0 → (Fine D' → Hd J D' x') ∧ DOk D' ∧ D'.page = 0 := by
  induction hs with
  | none D x => exact id
  | one hs h7 h1 ih =>
    intro h
    obtain ⟨i1, i2, i3⟩ := ih h
    exact ⟨Hd.step i1 i2 h7 i3 h1, i2.step h1, h1.job.1.trans i3⟩
theorem Hd.start {J : Jd} {x : St} (hp : J.page = 0) (hx : ∃ h g, x.ps[0]? = some (true, h, g)) : (Fine (begD J) → Hd J (begD J) x) ∧ DOk (begD J) ∧ (begD J).page = 0 := by
  obtain ⟨h1, h2, h3, h4, h5, h6, h7, h8, h9⟩ := begD_ok J
  refine ⟨fun hF => ⟨fun hb => ?_, fun k s g hk => (by rw [h4] at hk; simp at hk), fun k p hk => (by rw [h5] at hk; simp at hk), by rw [h5]; exact List.nodup_nil, fun k p s g _ hk => (by rw [h5] at hk; simp at hk), hx, fun e => (by rw [h9] at e; cases e)⟩, h1, h6.trans hp⟩
  unfold begD at hb ⊢
  split
  · rename_i hn
    split
    · rename_i h0
      exact ⟨rfl, rfl⟩
    · rename_i h0
      rw [if_pos hn, if_neg h0] at hb
      have hb : (1 : Int) ≤ 0 := hb
      omega
  · rename_i hn
    exfalso
    unfold begD at hF
    rw [if_neg hn] at hF
    rcases hF with e | e
    · have e : (7 : Int) ≤ 4 := e
      omega
    · cases e
theorem atC_live12 {ss : List Sl} {i : Nat} {y : Sl} (h : ss[i]? = some y) (hu : y.used = true) : atC ss ((i : Int) + 1) y.gen = 0 := by
  rcases atC_cases ss ((i : Int) + 1) y.gen with ⟨h1, h2⟩ | ⟨j, z, h1, h2, h3⟩
  · have hil := (List.getElem?_eq_some_iff.1 h).1
    exfalso
    omega
  · obtain rfl : j = i := by omega
    obtain rfl := Option.some.inj (h.symm.trans h2)
    rcases h3 with ⟨h3, h4⟩ | ⟨h3, _⟩
    · exact absurd ⟨hu, rfl⟩ h4
    · exact h3
theorem LoadR.live {ss : List Sl} {sl gn c : Int} {R : Rc} (h : LoadR ss sl gn R c) {i : Nat} {y : Sl} (hs : sl = (i : Int) + 1) (hi : ss[i]? = some y) (hu : y.used = true) (hg : y.gen = gn) : R = y.R ∧ c = 0 := by
  subst hs
  subst hg
  rcases h with ⟨j, z, e1, e2, e3, e4, e5, e6⟩ | ⟨h1, _⟩
  · obtain rfl : j = i := by omega
    obtain rfl := Option.some.inj (hi.symm.trans e2)
    exact ⟨e6, e5⟩
  · exact absurd (atC_live12 hi hu) h1
theorem ipages_ok {w : World} {B i : Nat} {D : Dt} {a : Ia} (h : Inst w B i D a) (hd : D.done = true) (hp4 : D.pages.length ≤ 4) : Calls Try.prog 18 #[.pointer (some ⟨i, 0, none⟩)] w fun e w' => ∃ A c, e = .returned (.slice A D.pages.length c) ∧ w'.ownsRow w.heap.size 3 1 (.slice A D.pages.length c) D.pages.length (intF D.pages) ∧ Fr none_ w w' := by
  obtain ⟨j0, hj0, hy0, ht0, hc0⟩ := info_parts (show (Try.prog.info? 3).map (fun i => (i.zero, i.size, i.bytes)) = some (some (.int .i64 0), 1, 8) by kernel_rfl)
  obtain ⟨Ap, cp, _, _, _, _, e1, _, _⟩ := h.shapes
  have i25 : w.cell? ⟨i, 25, none⟩ = some (.bool true) := by rw [← hd]; exact h.b.cell' rfl
  have i6 : w.cell? ⟨i, 6, none⟩ = some (.slice Ap D.pages.length cp) := by rw [← e1]; exact h.b.cell' rfl
  have hil := h.b.lt
  have RP : Reads w 1 Ap D.pages.length (intF D.pages) := Reads.of_own (by have := h.p; rw [e1] at this; exact this)
  have Hj := hid_ (And.intro hj0 (And.intro hy0 (And.intro ht0 hc0)))
  have HR := hid_ RP
  clear h hd e1 hj0 hy0 ht0 hc0 RP
  go_enter Try.func18, Try.ntmps18
  go_wp2_with (at_builtin; refine wpList_append_any _ rfl (.tmp 12) (.tmp 16) 62 rfl w.heap.size 3 j0 _ 1 8 Try.underlying62 Hj.out.1 Hj.out.2.1 Hj.out.2.2.1 Hj.out.2.2.2 rfl (by omega) (.slice (some ⟨w.heap.size, 0, none⟩) 0 0) 0 [] rfl (own_empty w _ _ _ (Nat.le_refl _)) Ap D.pages.length cp (intF D.pages) rfl (HR.out.alloc _) (by intro u hu; obtain ⟨n, _, rfl⟩ := List.mem_map.1 hu; rfl) (by simp only [maxLen]; omega) (by omega) (by simp) ?_; intro A9 c9 w9 hown hgr)
  simp only [Nat.zero_add, List.nil_append] at hown
  have F9 : Fr none_ w w9 := ((Fr.refl none_ w).alloc _).grown hgr (fun k hk => .inr (by
    have : w.heap.size = k := by simpa [Value.ownBlock] using hk
    omega))
  go_ret
  exact ⟨A9, c9, rfl, hown, F9⟩
end Go.Proofs.Ythcpccddcgbanaa

/- An installer's step by itself: its relation, what always holds, how many steps are left; and that of several installers of one head one is done at most. -/
import Derived.Test.YthcpccddcgbanaaAw12
namespace Go.Proofs.Ythcpccddcgbanaa
open Go.RowKit
set_option linter.unusedVariables false

/-- A job: what Make tells. -/
structure Jd where
  page : Int
  os : Int
  og : Int
  news : Int
  bases : List Rc
  head : Rc
  fresh : Int
def noNext (R : Rc) : Rc := { R with nslot := 0, ngen := 0 }
def jbase (J : Jd) (k : Nat) : Rc := noNext ((J.bases[k]?).getD Rc.zero)
def jbases (J : Jd) (n : Nat) : List Rc := (List.range n).map (jbase J)
def jhead (J : Jd) (ps : List Int) : Rc := if 1 ≤ J.fresh ∧ J.fresh ≤ (ps.length : Int) then { J.head with page := (ps[J.fresh.toNat - 1]?).getD 0 } else J.head
def madeD (J : Jd) (D : Dt) : Dt := { D with bases := jbases J D.news.toNat, head := jhead J D.pages, stage := if D.news = 0 then 3 else 1, at_ := 0 }
def takeD (J : Jd) (D : Dt) (p c : Int) : Dt := if c = 0 then (if (D.pages.length : Int) + 1 = D.news then madeD J { D with pages := D.pages ++ [p] } else { D with pages := D.pages ++ [p] }) else undoD D c
def putB (D : Dt) (kk sl gn : Int) : Dt := if kk = 0 then (if D.at_ + 1 = (D.bases.length : Int) then { D with refs := D.refs ++ [(sl, gn)], stage := 2, at_ := 0 } else { D with refs := D.refs ++ [(sl, gn)], at_ := D.at_ + 1 }) else undoD D kk
def linkD (D : Dt) (ok : Bool) (c : Int) : Dt := if ok = true then (if D.at_ + 1 = (D.pages.length : Int) then { D with at_ := D.at_ + 1, stage := 3 } else { D with at_ := D.at_ + 1 }) else undoD D c
def freeD (D : Dt) : Dt := { D with refs := D.refs.dropLast, stage := if D.refs.length = 1 then (if D.pages.length = 0 then 7 else 6) else 5 }
def giveD (D : Dt) : Dt := { D with pages := D.pages.dropLast, stage := if D.pages.length = 1 then 7 else 6 }
inductive StepR (n : Int) (J : Jd) (D : Dt) (x : St) : Dt → St → Prop
  | take {p c : Int} {ps' : List Pg} (hs : D.stage = 0) (h : TakeR x.ps p c ps') : StepR n J D x (takeD J D p c) { x with ps := ps' }
  | put {R : Rc} {sl gn kk : Int} {ss' : List Sl} (hs : D.stage = 1) (hR : D.bases[D.at_.toNat]? = some R) (h : AllocR n x.ss R sl gn kk ss') : StepR n J D x (putB D kk sl gn) { x with ss := ss' }
  | link {p s g : Int} {ok : Bool} {c : Int} {ps' : List Pg} (hs : D.stage = 2) (hp : D.pages[D.at_.toNat]? = some p) (hr : D.refs[D.at_.toNat]? = some (s, g)) (h : SwapR x.ps p 0 0 s g ok c ps') : StepR n J D x (linkD D ok c) { x with ps := ps' }
  | head {sl gn kk : Int} {ss' : List Sl} (hs : D.stage = 3) (h : AllocR n x.ss D.head sl gn kk ss') : StepR n J D x (fwd3D D kk sl gn) { x with ss := ss' }
  | swap {s g : Int} {ok : Bool} {c : Int} {ps' : List Pg} (hs : D.stage = 4) (hr : D.refs.getLast? = some (s, g)) (h : SwapR x.ps D.page D.os D.og s g ok c ps') : StepR n J D x (fwd4D D ok c) { x with ps := ps' }
  | free {s g c : Int} {ss' : List Sl} (hs : D.stage = 5) (hr : D.refs.getLast? = some (s, g)) (h : FreeR x.ss s g c ss') : StepR n J D x (freeD D) { x with ss := ss' }
  | give {p c : Int} {ps' : List Pg} (hs : D.stage = 6) (hp : D.pages.getLast? = some p) (h : GiveR x.ps p c ps') : StepR n J D x (giveD D) { x with ps := ps' }

/-- What always holds of an installer's data. -/
structure DOk (D : Dt) : Prop where
  n : D.stage ≠ 7 → 0 ≤ D.news ∧ D.news ≤ 4
  st : 0 ≤ D.stage ∧ D.stage ≤ 7
  s0 : D.stage = 0 → D.refs = [] ∧ D.bases = [] ∧ (D.pages.length : Int) < D.news
  s1 : D.stage = 1 → (D.bases.length : Int) = D.news ∧ (D.pages.length : Int) = D.news ∧ 0 ≤ D.at_ ∧ D.at_ < D.news ∧ (D.refs.length : Int) = D.at_
  s2 : D.stage = 2 → (D.pages.length : Int) = D.news ∧ (D.refs.length : Int) = D.news ∧ 0 ≤ D.at_ ∧ D.at_ < D.news
  s3 : D.stage = 3 → (D.refs.length : Int) = D.news ∧ (D.pages.length : Int) = D.news
  s4 : D.stage = 4 → (D.refs.length : Int) = D.news + 1 ∧ (D.pages.length : Int) = D.news
  s5 : D.stage = 5 → 1 ≤ D.refs.length
  s6 : D.stage = 6 → D.refs = [] ∧ 1 ≤ D.pages.length
  s7 : D.done = true → (D.refs.length : Int) = D.news + 1 ∧ (D.pages.length : Int) = D.news
  nd : D.done = true → D.stage = 7
  lr : D.refs.length ≤ 5
  lp : D.pages.length ≤ 4
theorem DOk.nodone {D : Dt} (h : DOk D) (hs : D.stage ≠ 7) : D.done = false := by
  cases e : D.done with
  | false => rfl
  | true => exact absurd (h.nd e) hs
theorem DOk.undo {D : Dt} (h : DOk D) (hs : D.stage ≠ 7) (c : Int) : DOk (undoD D c) := by
  have hnd := h.nodone hs
  have h1 := h.lr
  have h2 := h.lp
  have hn := h.n hs
  unfold undoD
  by_cases hr : D.refs.length = 0
  · have hr' : D.refs = [] := List.eq_nil_of_length_eq_zero hr
    by_cases hp : D.pages.length = 0
    · simp only [hr, hp, if_true]
      exact ⟨fun _ => hn, by simp, fun e => by simp at e, fun e => by simp at e, fun e => by simp at e, fun e => by simp at e, fun e => by simp at e, fun e => by simp at e, fun e => by simp at e, fun e => by simp [hnd] at e, fun e => rfl, h1, h2⟩
    · simp only [hr, hp, if_true, if_false]
      exact ⟨fun _ => hn, by simp, fun e => by simp at e, fun e => by simp at e, fun e => by simp at e, fun e => by simp at e, fun e => by simp at e, fun e => by simp at e, fun e => ⟨hr', by show 1 ≤ D.pages.length; omega⟩, fun e => by simp [hnd] at e, fun e => by simp [hnd] at e, h1, h2⟩
  · simp only [hr, if_false]
    exact ⟨fun _ => hn, by simp, fun e => by simp at e, fun e => by simp at e, fun e => by simp at e, fun e => by simp at e, fun e => by simp at e, fun e => by show 1 ≤ D.refs.length; omega, fun e => by simp at e, fun e => by simp [hnd] at e, fun e => by simp [hnd] at e, h1, h2⟩
theorem jbases_len (J : Jd) (n : Nat) : (jbases J n).length = n := by simp [jbases]
theorem DOk.step {n : Int} {J : Jd} {D D' : Dt} {x x' : St} (hD : DOk D) (h : StepR n J D x D' x') : DOk D' := by
  have h1 := hD.lr
  have h2 := hD.lp
  cases h with
  | take hs h =>
    have hn := hD.n (by rw [hs]; decide)
    obtain ⟨a1, a2, a3⟩ := hD.s0 hs
    have hnd := hD.nodone (by rw [hs]; decide)
    unfold takeD
    split
    · split
      · rename_i hc hl
        unfold madeD
        have hz : D.news ≠ 0 := by omega
        simp only [hz, if_false]
        refine ⟨fun _ => hn, by simp, fun e => by simp at e, fun e => ⟨?_, ?_, ?_, ?_, ?_⟩, fun e => by simp at e, fun e => by simp at e, fun e => by simp at e, fun e => by simp at e, fun e => by simp at e, fun e => by simp [hnd] at e, fun e => by simp [hnd] at e, h1, ?_⟩
        · show ((jbases J D.news.toNat).length : Int) = D.news
          rw [jbases_len]; omega
        · show ((D.pages ++ [_]).length : Int) = D.news
          simp; omega
        · exact Int.le_refl 0
        · show 0 < D.news
          omega
        · show ((D.refs).length : Int) = 0
          rw [a1]; rfl
        · show (D.pages ++ [_]).length ≤ 4
          simp; omega
      · refine ⟨fun _ => hn, by show 0 ≤ D.stage ∧ D.stage ≤ 7; omega, fun e => ⟨a1, a2, ?_⟩, fun e => ?_, fun e => ?_, fun e => ?_, fun e => ?_, fun e => ?_, fun e => ?_, fun e => by simp [hnd] at e, fun e => by simp [hnd] at e, h1, ?_⟩
        · show ((D.pages ++ [_]).length : Int) < D.news
          simp; omega
        iterate 6 · have e : D.stage = _ := e
                    omega
        · show (D.pages ++ [_]).length ≤ 4
          simp; omega
    · exact hD.undo (by omega) _
  | put hs hR h =>
    have hn := hD.n (by rw [hs]; decide)
    obtain ⟨a1, a2, a3, a4, a5⟩ := hD.s1 hs
    have hnd := hD.nodone (by rw [hs]; decide)
    unfold putB
    split
    · split
      · refine ⟨fun _ => hn, by show (0 : Int) ≤ 2 ∧ (2 : Int) ≤ 7; decide, fun e => by simp at e, fun e => by simp at e, fun e => ⟨a2, ?_, Int.le_refl 0, ?_⟩, fun e => by simp at e, fun e => by simp at e, fun e => by simp at e, fun e => by simp at e, fun e => by simp [hnd] at e, fun e => by simp [hnd] at e, ?_, h2⟩
        · show ((D.refs ++ [_]).length : Int) = D.news
          simp; omega
        · show 0 < D.news
          omega
        · show (D.refs ++ [_]).length ≤ 5
          simp; omega
      · refine ⟨fun _ => hn, by show 0 ≤ D.stage ∧ D.stage ≤ 7; omega, fun e => ?_, fun e => ⟨a1, a2, by show 0 ≤ D.at_ + 1; omega, by show D.at_ + 1 < D.news; omega, ?_⟩, fun e => ?_, fun e => ?_, fun e => ?_, fun e => ?_, fun e => ?_, fun e => by simp [hnd] at e, fun e => by simp [hnd] at e, ?_, h2⟩
        · have e : D.stage = _ := e
          omega
        · show ((D.refs ++ [_]).length : Int) = D.at_ + 1
          simp; omega
        iterate 5 · have e : D.stage = _ := e
                    omega
        · show (D.refs ++ [_]).length ≤ 5
          simp; omega
    · exact hD.undo (by omega) _
  | link hs hp hr h =>
    have hn := hD.n (by rw [hs]; decide)
    obtain ⟨a1, a2, a3, a4⟩ := hD.s2 hs
    have hnd := hD.nodone (by rw [hs]; decide)
    unfold linkD
    split
    · split
      · exact ⟨fun _ => hn, by show (0 : Int) ≤ 3 ∧ (3 : Int) ≤ 7; decide, fun e => by simp at e, fun e => by simp at e, fun e => by simp at e, fun e => ⟨a2, a1⟩, fun e => by simp at e, fun e => by simp at e, fun e => by simp at e, fun e => by simp [hnd] at e, fun e => by simp [hnd] at e, h1, h2⟩
      · refine ⟨fun _ => hn, by show 0 ≤ D.stage ∧ D.stage ≤ 7; omega, fun e => ?_, fun e => ?_, fun e => ⟨a1, a2, by show 0 ≤ D.at_ + 1; omega, by show D.at_ + 1 < D.news; omega⟩, fun e => ?_, fun e => ?_, fun e => ?_, fun e => ?_, fun e => by simp [hnd] at e, fun e => by simp [hnd] at e, h1, h2⟩
        iterate 6 · have e : D.stage = _ := e
                    omega
    · exact hD.undo (by omega) _
  | head hs h =>
    have hn := hD.n (by rw [hs]; decide)
    obtain ⟨a1, a2⟩ := hD.s3 hs
    have hnd := hD.nodone (by rw [hs]; decide)
    unfold fwd3D
    split
    · refine ⟨fun _ => hn, by show (0 : Int) ≤ 4 ∧ (4 : Int) ≤ 7; decide, fun e => by simp at e, fun e => by simp at e, fun e => by simp at e, fun e => by simp at e, fun e => ⟨?_, a2⟩, fun e => by simp at e, fun e => by simp at e, fun e => by simp [hnd] at e, fun e => by simp [hnd] at e, ?_, h2⟩
      · show ((D.refs ++ [_]).length : Int) = D.news + 1
        simp; omega
      · show (D.refs ++ [_]).length ≤ 5
        simp; omega
    · exact hD.undo (by omega) _
  | swap hs hr h =>
    have hn := hD.n (by rw [hs]; decide)
    obtain ⟨a1, a2⟩ := hD.s4 hs
    unfold fwd4D
    split
    · exact ⟨fun _ => hn, by show (0 : Int) ≤ 7 ∧ (7 : Int) ≤ 7; decide, fun e => by simp at e, fun e => by simp at e, fun e => by simp at e, fun e => by simp at e, fun e => by simp at e, fun e => by simp at e, fun e => by simp at e, fun e => ⟨a1, a2⟩, fun e => rfl, h1, h2⟩
    · exact hD.undo (by omega) _
  | free hs hr h =>
    have hn := hD.n (by rw [hs]; decide)
    have a1 := hD.s5 hs
    have hnd := hD.nodone (by rw [hs]; decide)
    have hl : D.refs.dropLast.length ≤ 5 := by simp; omega
    unfold freeD
    split
    · rename_i hl1
      have hnil : D.refs.dropLast = [] := List.eq_nil_of_length_eq_zero (by simp; omega)
      split
      · exact ⟨fun _ => hn, by show (0 : Int) ≤ 7 ∧ (7 : Int) ≤ 7; decide, fun e => by simp at e, fun e => by simp at e, fun e => by simp at e, fun e => by simp at e, fun e => by simp at e, fun e => by simp at e, fun e => by simp at e, fun e => by simp [hnd] at e, fun e => rfl, hl, h2⟩
      · exact ⟨fun _ => hn, by show (0 : Int) ≤ 6 ∧ (6 : Int) ≤ 7; decide, fun e => by simp at e, fun e => by simp at e, fun e => by simp at e, fun e => by simp at e, fun e => by simp at e, fun e => by simp at e, fun e => ⟨hnil, by show 1 ≤ D.pages.length; omega⟩, fun e => by simp [hnd] at e, fun e => by simp [hnd] at e, hl, h2⟩
    · exact ⟨fun _ => hn, by show (0 : Int) ≤ 5 ∧ (5 : Int) ≤ 7; decide, fun e => by simp at e, fun e => by simp at e, fun e => by simp at e, fun e => by simp at e, fun e => by simp at e, fun e => by show 1 ≤ D.refs.dropLast.length; simp; omega, fun e => by simp at e, fun e => by simp [hnd] at e, fun e => by simp [hnd] at e, hl, h2⟩
  | give hs hp h =>
    have hn := hD.n (by rw [hs]; decide)
    obtain ⟨a1, a2⟩ := hD.s6 hs
    have hnd := hD.nodone (by rw [hs]; decide)
    have hl : D.pages.dropLast.length ≤ 4 := by simp; omega
    unfold giveD
    split
    · exact ⟨fun _ => hn, by show (0 : Int) ≤ 7 ∧ (7 : Int) ≤ 7; decide, fun e => by simp at e, fun e => by simp at e, fun e => by simp at e, fun e => by simp at e, fun e => by simp at e, fun e => by simp at e, fun e => by simp at e, fun e => by simp [hnd] at e, fun e => rfl, h1, hl⟩
    · exact ⟨fun _ => hn, by show (0 : Int) ≤ 6 ∧ (6 : Int) ≤ 7; decide, fun e => by simp at e, fun e => by simp at e, fun e => by simp at e, fun e => by simp at e, fun e => by simp at e, fun e => by simp at e, fun e => ⟨a1, by show 1 ≤ D.pages.dropLast.length; simp; omega⟩, fun e => by simp [hnd] at e, fun e => by simp [hnd] at e, h1, hl⟩

/-- How many steps are left, at most. -/
def left12 (D : Dt) : Int :=
  if D.stage = 0 then 24 - D.pages.length else if D.stage = 1 then 20 - D.at_ else if D.stage = 2 then 16 - D.at_ else if D.stage = 3 then 12 else if D.stage = 4 then 11 else
  if D.stage = 5 then (D.refs.length : Int) + D.pages.length else if D.stage = 6 then D.pages.length else 0
theorem left12_ge (D : Dt) (h : DOk D) : 0 ≤ left12 D ∧ left12 D ≤ 24 := by
  have h1 := h.lr
  have h2 := h.lp
  unfold left12
  split
  · omega
  split
  · rename_i hs; have := h.s1 hs; have := h.n (by rw [hs]; decide); omega
  split
  · rename_i hs; have := h.s2 hs; have := h.n (by rw [hs]; decide); omega
  repeat (split; · omega)
  omega
theorem left12_undo (D : Dt) (h : DOk D) (c : Int) : left12 (undoD D c) ≤ 9 := by
  have h1 := h.lr
  have h2 := h.lp
  unfold left12 undoD
  by_cases hr : D.refs.length = 0
  · by_cases hp : D.pages.length = 0
    · simp [hr, hp]
    · simp [hr, hp]; omega
  · simp [hr]; omega
theorem left12_step {n : Int} {J : Jd} {D D' : Dt} {x x' : St} (hD : DOk D) (h : StepR n J D x D' x') : left12 D' + 1 ≤ left12 D := by
  have h1 := hD.lr
  have h2 := hD.lp
  have hu := left12_undo D hD
  cases h with
  | take hs h =>
    have hn := hD.n (by rw [hs]; decide)
    obtain ⟨a1, a2, a3⟩ := hD.s0 hs
    have e : left12 D = 24 - D.pages.length := by simp [left12, hs]
    unfold takeD
    split
    · split
      · have hz : D.news ≠ 0 := by omega
        simp [left12, madeD, hz, hs]
        omega
      · simp [left12, hs]; omega
    · exact Int.le_trans (Int.add_le_add_right (hu _) 1) (by omega)
  | put hs hR h =>
    have hn := hD.n (by rw [hs]; decide)
    obtain ⟨a1, a2, a3, a4, a5⟩ := hD.s1 hs
    have e : left12 D = 20 - D.at_ := by simp [left12, hs]
    unfold putB
    split
    · split
      · simp [left12, hs]; omega
      · simp [left12, hs]; omega
    · exact Int.le_trans (Int.add_le_add_right (hu _) 1) (by omega)
  | link hs hp hr h =>
    have hn := hD.n (by rw [hs]; decide)
    obtain ⟨a1, a2, a3, a4⟩ := hD.s2 hs
    have e : left12 D = 16 - D.at_ := by simp [left12, hs]
    unfold linkD
    split
    · split
      · simp [left12, hs]; omega
      · simp [left12, hs]; omega
    · exact Int.le_trans (Int.add_le_add_right (hu _) 1) (by omega)
  | head hs h =>
    have hn := hD.n (by rw [hs]; decide)
    have e : left12 D = 12 := by simp [left12, hs]
    unfold fwd3D
    split
    · simp [left12, hs]
    · exact Int.le_trans (Int.add_le_add_right (hu _) 1) (by omega)
  | swap hs hr h =>
    have hn := hD.n (by rw [hs]; decide)
    have e : left12 D = 11 := by simp [left12, hs]
    unfold fwd4D
    split
    · simp [left12, hs]
    · exact Int.le_trans (Int.add_le_add_right (hu _) 1) (by omega)
  | free hs hr h =>
    have hn := hD.n (by rw [hs]; decide)
    have a1 := hD.s5 hs
    have e : left12 D = (D.refs.length : Int) + D.pages.length := by simp [left12, hs]
    unfold freeD
    split
    · split
      · simp [left12]; omega
      · simp [left12]; omega
    · simp [left12]; omega
  | give hs hp h =>
    have hn := hD.n (by rw [hs]; decide)
    obtain ⟨a1, a2⟩ := hD.s6 hs
    have e : left12 D = D.pages.length := by simp [left12, hs]
    unfold giveD
    split
    · simp [left12]; omega
    · simp [left12]; omega
theorem left12_zero {D : Dt} (h : DOk D) (h0 : left12 D ≤ 0) : D.stage = 7 := by
  have h1 := h.lr
  have h2 := h.lp
  have hst := h.st
  have d0 : D.stage = 0 ∨ D.stage = 1 ∨ D.stage = 2 ∨ D.stage = 3 ∨ D.stage = 4 ∨ D.stage = 5 ∨ D.stage = 6 ∨ D.stage = 7 := by omega
  rcases d0 with e | e | e | e | e | e | e | e
  · have e2 : left12 D = 24 - D.pages.length := by simp [left12, e]
    omega
  · have := h.s1 e
    have := h.n (by rw [e]; decide)
    have e2 : left12 D = 20 - D.at_ := by simp [left12, e]
    omega
  · have := h.s2 e
    have := h.n (by rw [e]; decide)
    have e2 : left12 D = 16 - D.at_ := by simp [left12, e]
    omega
  · have e2 : left12 D = 12 := by simp [left12, e]
    omega
  · have e2 : left12 D = 11 := by simp [left12, e]
    omega
  · have := h.s5 e
    have e2 : left12 D = (D.refs.length : Int) + D.pages.length := by simp [left12, e]
    omega
  · have := h.s6 e
    have e2 : left12 D = D.pages.length := by simp [left12, e]
    omega
  · exact e

/-! ### Of several installers of page 0 from its first head one is done at most -/
structure NotFirst (D : Dt) : Prop where
  r : ∀ p ∈ D.refs, p.1 ≠ 1
  p : ∀ p ∈ D.pages, p ≠ 0
  j : D.page = 0 ∧ D.os = 1 ∧ D.og = 1
def X0 (x : St) (h g : Int) : Prop := (∃ s, x.ss[0]? = some s ∧ s.used = true) ∧ x.ps[0]? = some (true, h, g)
theorem NotFirst.undo {D : Dt} (h : NotFirst D) (c : Int) : NotFirst (undoD D c) := ⟨h.r, h.p, h.j⟩
theorem mem_snoc_ne {α : Type} {l : List α} {a : α} {q : α → Prop} (h : ∀ p ∈ l, q p) (ha : q a) : ∀ p ∈ l ++ [a], q p := by
  intro p hp
  rcases List.mem_append.1 hp with hp | hp
  · exact h p hp
  · obtain rfl : p = a := by simpa using hp
    exact ha
theorem getLast_mem {α : Type} {l : List α} {a : α} (h : l.getLast? = some a) : a ∈ l := List.mem_of_getLast? h
theorem TakeR.first {ps ps' : List Pg} {n c h g : Int} (ht : TakeR ps n c ps') (h0 : ps[0]? = some (true, h, g)) : (c = 0 → n ≠ 0) ∧ ps'[0]? = some (true, h, g) := by
  rcases ht with ⟨i, s, g', h1, h2, rfl, rfl, rfl⟩ | ⟨_, rfl, rfl, rfl⟩
  · have hi : i ≠ 0 := by rintro rfl; rw [h1] at h0; cases h0
    exact ⟨fun _ => by omega, by rw [List.getElem?_set_ne hi]; exact h0⟩
  · exact ⟨fun e => absurd e (by decide), h0⟩
theorem AllocR.first0 {last : Int} {ss ss' : List Sl} {R : Rc} {sl gn c : Int} (ha : AllocR last ss R sl gn c ss') (h0 : ∃ s, ss[0]? = some s ∧ s.used = true) : (c = 0 → sl ≠ 1) ∧ ∃ s, ss'[0]? = some s ∧ s.used = true := by
  obtain ⟨s0, e0, u0⟩ := h0
  rcases ha with ⟨i, s, vr, ve, h1, h2, h3, rfl, rfl, rfl, rfl⟩ | ⟨_, rfl, rfl, rfl, rfl⟩
  · have hi : i ≠ 0 := by
      rintro rfl
      rw [h1] at e0
      obtain rfl := Option.some.inj e0
      rw [h2.1] at u0; cases u0
    exact ⟨fun _ => by omega, s0, by rw [List.getElem?_set_ne hi]; exact e0, u0⟩
  · exact ⟨fun e => absurd e (allocErr_pos _), s0, e0, u0⟩
theorem FreeR.first {ss ss' : List Sl} {sl gn c : Int} (hf : FreeR ss sl gn c ss') (hn : sl ≠ 1) (h0 : ∃ s, ss[0]? = some s ∧ s.used = true) : ∃ s, ss'[0]? = some s ∧ s.used = true := by
  obtain ⟨s0, e0, u0⟩ := h0
  rcases hf with ⟨i, s, rfl, h1, h2, h3, rfl, rfl⟩ | ⟨_, rfl, rfl⟩
  · have hi : i ≠ 0 := by omega
    exact ⟨s0, by rw [List.getElem?_set_ne hi]; exact e0, u0⟩
  · exact ⟨s0, e0, u0⟩
theorem GiveR.first {ps ps' : List Pg} {n c h g : Int} (hg : GiveR ps n c ps') (hn : n ≠ 0) (h0 : ps[0]? = some (true, h, g)) : ps'[0]? = some (true, h, g) := by
  rcases hg with ⟨i, s, g', rfl, h1, rfl, rfl⟩ | ⟨_, rfl, rfl⟩
  · have hi : i ≠ 0 := by omega
    rw [List.getElem?_set_ne hi]; exact h0
  · exact h0
theorem SwapR.first {ps ps' : List Pg} {n a b c d k h g : Int} {ok : Bool} (hs : SwapR ps n a b c d ok k ps') (hn : n ≠ 0) (h0 : ps[0]? = some (true, h, g)) : ps'[0]? = some (true, h, g) := by
  rcases hs with ⟨i, s, g', rfl, h1, h2, h3, rfl⟩ | ⟨_, rfl, rfl, rfl⟩
  · have hi : i ≠ 0 := by omega
    unfold swapPs
    split
    · rw [List.getElem?_set_ne hi]; exact h0
    · exact h0
  · exact h0
theorem first_step {n : Int} {J : Jd} {D D' : Dt} {x x' : St} {h g : Int} (hD : DOk D) (hN : NotFirst D) (hX : X0 x h g) (hs : StepR n J D x D' x') :
    NotFirst D' ∧ ∃ h' g', X0 x' h' g' ∧ ((h' = h ∧ g' = g ∧ D'.done = D.done) ∨ (h = 1 ∧ g = 1 ∧ h' ≠ 1)) := by
  obtain ⟨h0, hp⟩ := hX
  cases hs with
  | take hst ht =>
    obtain ⟨t1, t2⟩ := ht.first hp
    have hd : ∀ (p c : Int), (takeD J D p c).done = D.done := fun p c => by unfold takeD; split <;> (try split) <;> rfl
    refine ⟨?_, h, g, ⟨h0, t2⟩, .inl ⟨rfl, rfl, hd _ _⟩⟩
    unfold takeD
    split
    · rename_i hc
      split
      · exact ⟨hN.r, mem_snoc_ne hN.p (t1 hc), hN.j⟩
      · exact ⟨hN.r, mem_snoc_ne hN.p (t1 hc), hN.j⟩
    · exact hN.undo _
  | put hst hR ha =>
    obtain ⟨t1, t2⟩ := ha.first0 h0
    have hd : ∀ (kk sl gn : Int), (putB D kk sl gn).done = D.done := fun kk sl gn => by unfold putB; split <;> (try split) <;> rfl
    refine ⟨?_, h, g, ⟨t2, hp⟩, .inl ⟨rfl, rfl, hd _ _ _⟩⟩
    unfold putB
    split
    · rename_i hc
      split
      · exact ⟨mem_snoc_ne hN.r (t1 hc), hN.p, hN.j⟩
      · exact ⟨mem_snoc_ne hN.r (t1 hc), hN.p, hN.j⟩
    · exact hN.undo _
  | link hst hpg hr hw =>
    have t2 := hw.first (hN.p _ (List.mem_of_getElem? hpg)) hp
    have hd : ∀ (ok : Bool) (c : Int), (linkD D ok c).done = D.done := fun ok c => by unfold linkD; split <;> (try split) <;> rfl
    refine ⟨?_, h, g, ⟨h0, t2⟩, .inl ⟨rfl, rfl, hd _ _⟩⟩
    unfold linkD
    split
    · split
      · exact ⟨hN.r, hN.p, hN.j⟩
      · exact ⟨hN.r, hN.p, hN.j⟩
    · exact hN.undo _
  | head hst ha =>
    obtain ⟨t1, t2⟩ := ha.first0 h0
    have hd : ∀ (kk sl gn : Int), (fwd3D D kk sl gn).done = D.done := fun kk sl gn => by unfold fwd3D; split <;> rfl
    refine ⟨?_, h, g, ⟨t2, hp⟩, .inl ⟨rfl, rfl, hd _ _ _⟩⟩
    unfold fwd3D
    split
    · rename_i hc
      exact ⟨mem_snoc_ne hN.r (t1 hc), hN.p, hN.j⟩
    · exact hN.undo _
  | swap hst hr hw =>
    rename_i s g' ok c ps'
    obtain ⟨j1, j2, j3⟩ := hN.j
    rw [j1, j2, j3] at hw
    have hne : s ≠ 1 := hN.r _ (getLast_mem hr)
    obtain ⟨e1, e2, e3⟩ := hw.used (i := 0) rfl hp
    cases ok with
    | true =>
      obtain ⟨rfl, rfl⟩ : h = 1 ∧ g = 1 := by simpa using e1.symm
      have hlt : 0 < x.ps.length := (List.getElem?_eq_some_iff.1 hp).1
      refine ⟨by unfold fwd4D; exact ⟨hN.r, hN.p, hN.j⟩, s, g', ⟨h0, ?_⟩, .inr ⟨rfl, rfl, hne⟩⟩
      show ps'[0]? = _
      rw [e3]
      simp [swapPs, hlt]
    | false =>
      have hd : (fwd4D D false c).done = D.done := by simp [fwd4D, undoD]
      have hne2 : ¬ (h = 1 ∧ g = 1) := by
        intro e
        simp [e.1, e.2] at e1
      refine ⟨by unfold fwd4D; exact hN.undo _, h, g, ⟨h0, ?_⟩, .inl ⟨rfl, rfl, hd⟩⟩
      show ps'[0]? = _
      rw [e3, swapPs, if_neg hne2]
      exact hp
  | free hst hr hf =>
    refine ⟨⟨fun p hq => hN.r p (List.dropLast_subset _ hq), hN.p, hN.j⟩, h, g, ⟨hf.first (hN.r _ (getLast_mem hr)) h0, hp⟩, .inl ⟨rfl, rfl, rfl⟩⟩
  | give hst hpg hg =>
    refine ⟨⟨hN.r, fun p hq => hN.p p (List.dropLast_subset _ hq), hN.j⟩, h, g, ⟨h0, hg.first (hN.p _ (getLast_mem hpg)) hp⟩, .inl ⟨rfl, rfl, rfl⟩⟩
end Go.Proofs.Ythcpccddcgbanaa

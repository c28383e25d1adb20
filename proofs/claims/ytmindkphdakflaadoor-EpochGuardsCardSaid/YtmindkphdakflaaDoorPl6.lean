/- Layer 6: what a play holds: the clock, the document's, and its box. -/
import Derived.Test.YtmindkphdakflaaDoorSame6
import Derived.Test.YtmindkphdakflaaDoorTypes6
namespace Go.Proofs.YtmindkphdakflaaDoor
open Go.RowKit
set_option maxRecDepth 100000
set_option linter.unusedVariables false

/-- The steps that came in, as a list. -/
abbrev St6 := Int × Int × Int
def StReads (w : World) (A : Option Addr) (n : Nat) (L : List St6) : Prop :=
  L.length = n ∧ (0 < n → ∃ b off, A = some ⟨b, off, none⟩ ∧ b < w.heap.size ∧ ∀ k p, L[k]? = some p →
    (Lit.int .i64 p.2.2).wf = true ∧ w.cell? ⟨b, off + k * 3, none⟩ = some (.int .i64 p.1) ∧ w.cell? ⟨b, off + k * 3 + 1, none⟩ = some (.int .i64 p.2.1) ∧ w.cell? ⟨b, off + k * 3 + 1 + 1, none⟩ = some (.int .i64 p.2.2))
theorem steps_of {w : World} {A : Option Addr} {n : Nat} (h : Do6At w A n) : ∃ L, StReads w A n L := by
  rcases Nat.eq_zero_or_pos n with h0 | h0
  · subst h0; exact ⟨[], rfl, fun h => absurd h (by omega)⟩
  · obtain ⟨b, off, hA, hb, hc⟩ := h h0
    obtain ⟨L, hl, hL⟩ := choose_list (α := St6) (P := fun k p => (Lit.int .i64 p.2.2).wf = true ∧ w.cell? ⟨b, off + k * 3, none⟩ = some (.int .i64 p.1) ∧ w.cell? ⟨b, off + k * 3 + 1, none⟩ = some (.int .i64 p.2.1) ∧ w.cell? ⟨b, off + k * 3 + 1 + 1, none⟩ = some (.int .i64 p.2.2)) n (fun k hk => by
      obtain ⟨x0, x1, x2, _, _, w2, h0, h1, h2⟩ := hc k hk
      exact ⟨(x0, x1, x2), w2, h0, h1, h2⟩)
    exact ⟨L, hl, fun _ => ⟨b, off, hA, hb, hL⟩⟩
theorem StReads.at {w wr : World} {A : Option Addr} {n : Nat} {L : List St6} (h : StReads w A n L) (hf : Fr none_ w wr) {k : Nat} (hk : k < n) : ∃ b off v t a, A = some ⟨b, off, none⟩ ∧ b < wr.heap.size ∧ L[k]? = some (v, t, a) ∧ (Lit.int .i64 a).wf = true ∧
    wr.cell? ⟨b, off + k * 3, none⟩ = some (.int .i64 v) ∧ wr.cell? ⟨b, off + k * 3 + 1, none⟩ = some (.int .i64 t) ∧ wr.cell? ⟨b, off + k * 3 + 1 + 1, none⟩ = some (.int .i64 a) := by
  obtain ⟨b, off, hA, hb, hc⟩ := h.2 (by omega)
  have hl := h.1
  obtain ⟨⟨v, t, a⟩, hp⟩ : ∃ p, L[k]? = some p := ⟨_, List.getElem?_eq_getElem (by omega)⟩
  obtain ⟨c0, c1, c2, c3⟩ := hc k _ hp
  have := hf.size
  exact ⟨b, off, v, t, a, hA, by omega, hp, c0, cellFr c1 hf, cellFr c2 hf, cellFr c3 hf⟩
/-- .. and of a part of them. -/
theorem StReads.cell {w wr : World} {b off n : Nat} {L : List St6} (h : StReads w (some ⟨b, off, none⟩) n L) (hf : Fr none_ w wr) {k : Nat} (hk : k < n) : ∃ v t a, L[k]? = some (v, t, a) ∧ (Lit.int .i64 a).wf = true ∧
    wr.cell? ⟨b, off + k * 3, none⟩ = some (.int .i64 v) ∧ wr.cell? ⟨b, off + k * 3 + 1, none⟩ = some (.int .i64 t) ∧ wr.cell? ⟨b, off + k * 3 + 1 + 1, none⟩ = some (.int .i64 a) := by
  obtain ⟨b', off', v, t, a, hA, _, hp, hw, c0, c1, c2⟩ := h.at hf hk
  cases hA
  exact ⟨v, t, a, hp, hw, c0, c1, c2⟩

structure Pl6 (w w' : World) (C M R : Nat) (now last : Int) (v : Value) (S : List Int) (k : Nat) : Prop where
  b : Blk w' R 28 #[.int .i64 now, .int .i64 last, v]
  ck : Ck w' C M now last S k
  own : SOwn w' v S
  la : Laid w'
  fr : Fr none_ w w'
  hR : w.heap.size ≤ R
  hC : w.heap.size ≤ C
  hM : w.heap.size ≤ M
  h0 : 0 < w.heap.size
section
variable {w w' w2 : World} {C M R k : Nat} {now last now2 : Int} {v v2 : Value} {S S2 : List Int}
theorem Pl6.cne (h : Pl6 w w' C M R now last v S k) : 0 ≠ C ∧ 0 ≠ M := by have := h.hC; have := h.hM; have := h.h0; omega
theorem Pl6.ne (h : Pl6 w w' C M R now last v S k) : R ≠ C ∧ R ≠ M := by
  constructor
  · rintro rfl
    obtain ⟨cs, hc⟩ := h.ck.blkC
    exact absurd (Blk.uniq h.b hc).1 (by decide)
  · rintro rfl
    obtain ⟨es, cl, hm⟩ := h.ck.objM
    have := h.b
    unfold Blk at this
    rw [this] at hm
    cases hm
theorem Pl6.keep (h : Pl6 w w' C M R now last v S k) (hf : Fr none_ w' w2) : Pl6 w w2 C M R now last v S k :=
  ⟨h.b.fr hf id, h.ck.keep hf, own_none h.own hf, h.la.fr hf id, h.fr.then_none hf, h.hR, h.hC, h.hM, h.h0⟩
/-- A step of both was done, the document's told clock is not yet in its box. -/
structure Did6 (w w' w2 : World) (C M R : Nat) (now last : Int) (v : Value) (now2 : Int) (v2 : Value) (S2 : List Int) (k : Nat) : Prop where
  b : Blk w2 R 28 #[.int .i64 now, .int .i64 last, v]
  ck : Ck w2 C M now2 last S2 k
  own : SOwn w2 v2 S2
  la : Laid w2
  fr : Fr none_ w w2
  hR : w.heap.size ≤ R
  hC : w.heap.size ≤ C
  hM : w.heap.size ≤ M
  h0 : 0 < w.heap.size
  ne : R ≠ C ∧ R ≠ M
  step : Fr (either C M) w' w2
theorem Did6.keep {w3 : World} (h : Did6 w w' w2 C M R now last v now2 v2 S2 k) (hf : Fr none_ w2 w3) : Did6 w w' w3 C M R now last v now2 v2 S2 k :=
  ⟨h.b.fr hf id, h.ck.keep hf, own_none h.own hf, h.la.fr hf id, h.fr.then_none hf, h.hR, h.hC, h.hM, h.h0, h.ne, h.step.then_none hf⟩
theorem Did6.put {w9 : World} (h : Did6 w w' w2 C M R now last v now2 v2 S2 k) (hw : w9 = ((w2.setCell ⟨R, 0, none⟩ (.int .i64 now2)).setCell ⟨R, 1, none⟩ (.int .i64 last)).setCell ⟨R, 2, none⟩ v2) : Pl6 w w9 C M R now2 last v2 S2 k := by
  subst hw
  obtain ⟨qb, qf⟩ := box3 h.b (.int .i64 now2) (.int .i64 last) v2
  have hR := h.hR
  have h0 := h.h0
  exact ⟨qb, h.ck.fr qf (only_ne h.ne.1.symm) (only_ne h.ne.2.symm), own_fr h.own qf (fun j hj e => own_blk_ne h.own h.b (by decide) (by rw [hj, show j = R from e])), h.la.fr qf (only_ne (by omega)), h.fr.then_only qf (.inr hR), hR, h.hC, h.hM, h0⟩
theorem Did6.frPut {w9 : World} (h : Did6 w w' w2 C M R now last v now2 v2 S2 k) (hw : w9 = ((w2.setCell ⟨R, 0, none⟩ (.int .i64 now2)).setCell ⟨R, 1, none⟩ (.int .i64 last)).setCell ⟨R, 2, none⟩ v2) : Fr (fun b => b = C ∨ b = M ∨ b = R) w' w9 := by
  subst hw
  obtain ⟨qb, qf⟩ := box3 h.b (.int .i64 now2) (.int .i64 last) v2
  exact h.step.trans qf (fun i _ e => e.elim .inl (fun e => .inr (.inl e))) (fun i _ e => .inr (.inr e))
def DidPost6 (w w' : World) (C M R : Nat) (now last : Int) (v : Value) (now2 : Int) (S2 : List Int) (k : Nat) (e : Ending) (w2 : World) : Prop :=
  ∃ A c, e = .returned (.tuple #[rclk now2 last (.slice A S2.length c), .bool true]) ∧ Did6 w w' w2 C M R now last v now2 (.slice A S2.length c) S2 k
theorem does_pl6 {A : Option Addr} {c : Nat} (h : Pl6 w w' C M R now last (.slice A S.length c) S k) (hk : k ≤ 1000) (verb t a : Int) (hwa : (Lit.int .i64 a).wf = true) :
    Calls Tryd.prog 13 #[.pointer (some ⟨C, 0, none⟩), rclk now last (.slice A S.length c), .agg #[.int .i64 verb, .int .i64 t, .int .i64 a]] w' (DidPost6 w w' C M R now last (.slice A S.length c) (stN now last verb) (stS now S verb t a) (k + 1)) := by
  refine (does6_any C M k now last A c S verb t a w' h.ck hk hwa h.own h.la h.cne).mono ?_
  rintro e w2 ⟨A', c', he, hck, hown, hf, hla⟩
  exact ⟨A', c', he, h.b.fr hf (either_ne h.ne.1 h.ne.2), hck, hown, hla, h.fr.trans hf (fun _ _ e => e) (fun i hi e => by
    have := h.hC
    have := h.hM
    rcases e with e | e <;> omega), h.hR, h.hC, h.hM, h.h0, h.ne, hf⟩
theorem same_pl6 {A : Option Addr} {c : Nat} (h : Pl6 w w' C M R now last (.slice A S.length c) S k) :
    Calls Tryd.prog 21 #[.pointer (some ⟨C, 0, none⟩), rclk now last (.slice A S.length c)] w' fun e w2 => e = .returned (.bool true) ∧ Fr none_ w' w2 :=
  same6_ok C M k now last A c S w' h.ck h.own
end
end Go.Proofs.YtmindkphdakflaaDoor

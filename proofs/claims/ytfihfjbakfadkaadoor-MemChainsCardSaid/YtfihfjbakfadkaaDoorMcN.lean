/- Texts of one proof, merged: Pg7. -/
import Derived.Test.YtfihfjbakfadkaaDoorMcK
import Derived.Test.YtfihfjbakfadkaaDoorMcM
namespace Go.Proofs.YtfihfjbakfadkaaDoor
open Go.RowKit Go.BigFrame
set_option maxRecDepth 100000
set_option linter.unusedVariables false

abbrev pgA (n hs hg : Int) (vc vr : Value) (leaf : Bool) (lv : Lw) (sl : Value) (iv : Vw) (si : Value) : Array Value := #[.int .i64 n, .int .i64 hs, .int .i64 hg, vc, vr, .bool leaf, .string lv.low, .string lv.high, .bool lv.unb, .int .i64 lv.right, sl, .bool lv.gone, .string iv.low, .string iv.high, .bool iv.unb, .int .i64 iv.right, si, .bool iv.held, .int .i64 iv.hp, .int .i64 iv.hl, .string iv.hk]
abbrev pgZ : Array Value := #[.int .i64 0, .int .i64 0, .int .i64 0, .slice none 0 0, .slice none 0 0, .bool false, .string ⟨#[]⟩, .string ⟨#[]⟩, .bool false, .int .i64 0, .slice none 0 0, .bool false, .string ⟨#[]⟩, .string ⟨#[]⟩, .bool false, .int .i64 0, .slice none 0 0, .bool false, .int .i64 0, .int .i64 0, .string ⟨#[]⟩]
/-- A row of refs, flat. -/
def rpFlat (L : List (Int × Int)) : List Value := (L.map fun p => [.int .i64 p.1, .int .i64 p.2]).flatten
theorem LwIn.base {b0 b : Nat} {w : World} {V : Lw} {A : Option Addr} {c : Nat} (h : LwIn b w V A c) (hb : b0 ≤ b) : LwIn b0 w V A c := ⟨own_base h.own hb, h.ok⟩
/-- A page that Of told. -/
structure PgIn (b0 : Nat) (w : World) (L : List Rc) (refs : List (Int × Int)) (lv : Lw) (iv : Vw) (A : Option Addr) (c : Nat) (B : Option Addr) (d : Nat) (C : Option Addr) (x : Nat) (D : Option Addr) (y : Nat) : Prop where
  lv : LwIn b0 w lv A c
  iv : VwIn w iv B d
  ch : ∃ Cs : List Ch, Cs.map (·.R) = L ∧ w.ownsRow b0 41 15 (.slice C L.length x) L.length (recFlat Cs) ∧ ∀ E ∈ Cs, ChOwn w E
  rf : w.ownsRow b0 25 2 (.slice D refs.length y) refs.length (rpFlat refs)
theorem ChOwn.only {w w' : World} {C : Ch} {g : Nat} {t : TypeId} {cs : Array Value} (h : ChOwn w C) (hf : Fr (only g) w w') (hg : Blk w g t cs) (h1 : 137 ≠ t) (h2 : 139 ≠ t) : ChOwn w' C := ⟨h.own.only hf hg h1 h2, h.low, h.high, h.key, h.hkey, h.ents⟩
/-- A page's box is none of its entries' rows: no text stands ahead of a number in it. -/
theorem VwIn.farP {w w' : World} {V : Vw} {A : Option Addr} {c X : Nat} {n hs hg : Int} {vc vr sl si : Value} {leaf : Bool} {lv : Lw} {iv : Vw} (h : VwIn w V A c) (hX : Blk w X 83 (pgA n hs hg vc vr leaf lv sl iv si)) (hsl : ∃ A n c, sl = .slice A n c) (hsi : ∃ A n c, si = .slice A n c) (hvr : ∃ A n c, vr = .slice A n c) (hf : Fr (only X) w w') : VwIn w' V A c := by
  refine ⟨?_, h.cap, h.capm, h.ok⟩
  rcases Nat.eq_zero_or_pos V.ents.length with h0 | h0
  · exact ⟨h.rd.1, fun hn => absurd hn (by omega)⟩
  · obtain ⟨p, hp⟩ : ∃ p, V.ents[0]? = some p := ⟨_, List.getElem?_eq_getElem h0⟩
    obtain ⟨b, off, rfl, hb, c0, c1⟩ := et_at h.rd hp
    refine h.rd.fr hf (fun ad e => ?_)
    cases e
    intro e
    have e' : b = X := e
    subst e'
    rw [hX.cell] at c0 c1
    simp only [Nat.zero_mul, Nat.add_zero] at c0 c1
    obtain ⟨_, _, _, rfl⟩ := hsl
    obtain ⟨_, _, _, rfl⟩ := hsi
    obtain ⟨_, _, _, rfl⟩ := hvr
    match off, c0, c1 with
    | 0, c0, c1 => simp at c0
    | 1, c0, c1 => simp at c0
    | 2, c0, c1 => simp at c0
    | 3, c0, c1 => simp at c1
    | 4, c0, c1 => simp at c0
    | 5, c0, c1 => simp at c0
    | 6, c0, c1 => simp at c1
    | 7, c0, c1 => simp at c1
    | 8, c0, c1 => simp at c0
    | 9, c0, c1 => simp at c0
    | 10, c0, c1 => simp at c0
    | 11, c0, c1 => simp at c0
    | 12, c0, c1 => simp at c1
    | 13, c0, c1 => simp at c1
    | 14, c0, c1 => simp at c0
    | 15, c0, c1 => simp at c0
    | 16, c0, c1 => simp at c0
    | 17, c0, c1 => simp at c0
    | 18, c0, c1 => simp at c0
    | 19, c0, c1 => simp at c0
    | 20, c0, c1 => simp at c1
    | k + 21, c0, c1 => simp at c0
/-- .. kept where a page's box was turned. -/
theorem PgIn.far {b0 : Nat} {w w' : World} {L : List Rc} {refs : List (Int × Int)} {lv : Lw} {iv : Vw} {A : Option Addr} {c : Nat} {B : Option Addr} {d : Nat} {C : Option Addr} {x : Nat} {D : Option Addr} {y X : Nat} {n hs hg : Int} {vc vr sl si : Value} {leaf : Bool} {lv' : Lw} {iv' : Vw} (h : PgIn b0 w L refs lv iv A c B d C x D y) (hX : Blk w X 83 (pgA n hs hg vc vr leaf lv' sl iv' si)) (hsl : ∃ A n c, sl = .slice A n c) (hsi : ∃ A n c, si = .slice A n c) (hvr : ∃ A n c, vr = .slice A n c) (hf : Fr (only X) w w') : PgIn b0 w' L refs lv iv A c B d C x D y := by
  obtain ⟨Cs, h1, h2, h3⟩ := h.ch
  refine ⟨h.lv.far hX (by decide) hf, h.iv.farP hX hsl hsi hvr hf, ⟨Cs, h1, own_fr h2 hf (fun k hk e => own_blk_ne h2 hX (by decide) (by rw [hk, show k = X from e])), fun E hE => (h3 E hE).only hf hX (by decide) (by decide)⟩, own_fr h.rf hf (fun k hk e => own_blk_ne h.rf hX (by decide) (by rw [hk, show k = X from e]))⟩
theorem LwIn.zero (b0 : Nat) (w : World) : LwIn b0 w Lw.zero none 0 := ⟨World.ownsRow_nil _ _ _ _, ⟨SzOk.nil, SzOk.nil, by show (0:Nat) ≤ 300000; omega, fun p hp => by simp [Lw.zero] at hp⟩⟩
theorem VwIn.zero (w : World) : VwIn w Vw.zero none 0 := ⟨Reads.nil_, Nat.le_refl _, by simp, ⟨SzOk.nil, SzOk.nil, SzOk.nil, ⟨by show (0:Nat) ≤ 1000; omega, fun p hp => by simp [Vw.zero] at hp⟩⟩⟩
/-- The page in its box, with the chain up to k. -/
structure OfSt (n hs hg : Int) (L : List Ch) (refs : List (Int × Int)) (w : World) (X k : Nat) (wr : World) : Prop where
  st : ∃ (vc vr : Value) (Cs : List Ch), Cs.length = k ∧ Cs.map (·.R) = (L.take k).map (·.R) ∧ Blk wr X 83 (pgA n hs hg vc vr false Lw.zero (.slice none 0 0) Vw.zero (.slice none 0 0)) ∧ wr.ownsRow w.heap.size 41 15 vc k (recFlat Cs) ∧ (∀ C ∈ Cs, ChOwn wr C) ∧ wr.ownsRow w.heap.size 25 2 vr refs.length (rpFlat refs)
  bo : Blk wr (w.heap.size + 1) 83 pgZ
  fr : Fr none_ w wr
theorem OfSt.keep {n hs hg : Int} {L : List Ch} {refs : List (Int × Int)} {w w1 w2 : World} {X k : Nat} (h : OfSt n hs hg L refs w X k w1) (hf : Fr none_ w1 w2) : OfSt n hs hg L refs w X k w2 := by
  obtain ⟨vc, vr, Cs, h1, h2, h3, h4, h5, h6⟩ := h.st
  exact ⟨⟨vc, vr, Cs, h1, h2, h3.fr hf id, own_none h4 hf, fun C hC => (h5 C hC).keep hf, own_none h6 hf⟩, h.bo.fr hf id, h.fr.then_none hf⟩
end Go.Proofs.YtfihfjbakfadkaaDoor

/- What made of layer 11 tells. Written by gen_made11.py. -/
import Derived.Test.YtpjbncbmdfmlpaaCs11
namespace Go.Proofs.Ytpjbncbmdfmlpaa
open Go.RowKit Go.BigFrame
set_option maxRecDepth 100000
set_option linter.unusedVariables false

abbrev azZ : Array Value := #[.bool false, .int .i64 0, .int .i64 0, .int .i64 0, .string ⟨#[]⟩, .string ⟨#[]⟩, .bool false, .int .i64 0, .slice none 0 0, .bool false, .int .i64 0, .int .i64 0, .string ⟨#[]⟩]
theorem ite_intro7 {c A B : Prop} [Decidable c] (h : c) (ha : A) : if c then A else B := by rw [if_pos h]; exact ha
section
variable {P : Program} {md : Region.Mode} {ops : Array Oper} {Q : Exit → Act → World → Prop} {S : World → Prop}
/-- The act, named. -/
theorem wpAnyU_name7 {m : Nat} {fuel : Nat} {listed : Array Bool} {a0 : Act} {w : World} (h : ∀ a, a = a0 → wpAnyU P md ops Q S m fuel listed a w) : wpAnyU P md ops Q S m fuel listed a0 w := h a0 rfl
/-- The one operation that is ready, named by its place. -/
theorem wpAnyU_one8 {m i : Nat} {fuel : Nat} {listed : Array Bool} {a : Act} {w : World} (hi : i < ops.size) (hw : Region.wanted ops[i] (yielded ops a.tmps) = true) (hr : Region.ready md ops listed = [i])
    (h : Oper.wp P ops[i] a w (fun a' w' => (m ≤ i ∨ S w') ∧ wpAnyU P md ops Q S m fuel (listed.setIfInBounds i true) a' w') Q) : wpAnyU P md ops Q S m (fuel + 1) listed a w :=
  wpAnyU_one7 (Array.getElem?_eq_getElem hi) hw hr h
end
/-- An Above's box is none of its entries' rows.. -/
theorem VwIn.farA {w w' : World} {V : Vw} {A : Option Addr} {c X : Nat} (h : VwIn w V A c) (hX : Blk w X 77 azZ) (hf : Fr (only X) w w') : VwIn w' V A c := by
  refine ⟨?_, h.cap, h.capm, h.ok⟩
  rcases Nat.eq_zero_or_pos V.ents.length with h0 | h0
  · exact ⟨h.rd.1, fun hn => absurd hn (by omega)⟩
  · obtain ⟨p, hp⟩ : ∃ p, V.ents[0]? = some p := ⟨_, List.getElem?_eq_getElem h0⟩
    obtain ⟨b, off, rfl, hb, c0, c1⟩ := et_at h.rd hp
    refine h.rd.fr hf (fun ad e => ?_)
    cases e
    intro e
    have e' : b = X := e
    subst e'
    rw [hX.cell] at c0 c1
    simp only [Nat.zero_mul, Nat.add_zero] at c0 c1
    match off, c0, c1 with
    | 0, c0, c1 => simp at c0
    | 1, c0, c1 => simp at c0
    | 2, c0, c1 => simp at c0
    | 3, c0, c1 => simp at c0
    | 4, c0, c1 => simp at c1
    | 5, c0, c1 => simp at c1
    | 6, c0, c1 => simp at c0
    | 7, c0, c1 => simp at c0
    | 8, c0, c1 => simp at c0
    | 9, c0, c1 => simp at c0
    | 10, c0, c1 => simp at c0
    | 11, c0, c1 => simp at c0
    | 12, c0, c1 => simp at c1
    | k + 13, c0, c1 => simp at c0
theorem VwIn.farZ {w w' : World} {V : Vw} {A : Option Addr} {c X : Nat} (h : VwIn w V A c) (hX : Blk w X 45 pgZ) (hf : Fr (only X) w w') : VwIn w' V A c :=
  h.farP (n := 0) (hs := 0) (hg := 0) (vc := .slice none 0 0) (vr := .slice none 0 0) (leaf := false) (lv := Lw.zero) (sl := .slice none 0 0) (iv := Vw.zero) (si := .slice none 0 0) hX ⟨_, _, _, rfl⟩ ⟨_, _, _, rfl⟩ ⟨_, _, _, rfl⟩ hf
/-- What made tells. -/
def MadePost11 (c : Cz) (L1 L2 : List Ch) (w : World) (e : Ending) (w' : World) : Prop :=
  ∃ (pv : Array Value) (a : Az) (ok : Bool), e = .returned (.tuple #[.agg pv, .agg (azA a), .bool ok]) ∧ pv.size = 21 ∧ pv.all (·.oneCell') = true ∧ VwIn w' a.V a.B a.d ∧ (a.some_ = true → foldU (L2.map (·.R)) = some a.V) ∧ Fr none_ w w' ∧
    (ok = true → ∃ P : Pz, pv = pzA P ∧ PzOk w' P ∧ P.n = c.n ∧ P.nc = L1.length ∧ ofM (L1.map (·.R)) = some (P.leaf, P.lv, P.iv))
theorem few_ents {L : List Ch} (h : FewOk8 L) : ∀ C ∈ L, C.R.ents.length ≤ 100 := fun C hC => by obtain ⟨k, hk⟩ := List.mem_iff_getElem?.1 hC; exact h.2 k C hk
theorem few_rows {L : List Ch} (h : FewOk7 L) (hw : RwIn L) : RwOkL L := fun C hC => by
  obtain ⟨k, hk⟩ := List.mem_iff_getElem?.1 hC
  have := h.2 k C hk
  exact ⟨(hw C hC).1, ⟨by omega, (hw C hC).2⟩, by omega⟩
end Go.Proofs.Ytpjbncbmdfmlpaa

/- Texts of one proof, merged: Ch. -/
import Derived.Test.YtfihfjbakfadkaaDoorMcA
import Derived.Test.YtfihfjbakfadkaaDoorMcI
namespace Go.Proofs.YtfihfjbakfadkaaDoor
open Go.RowKit
set_option maxRecDepth 100000
set_option linter.unusedVariables false

/-- A record in a list: what its slices are. -/
structure Ch where
  R : Rc
  A : Option Addr
  c : Nat
  B : Option Addr
  d : Nat
abbrev recL (C : Ch) : List Value := [.int .i64 C.R.kind, .string C.R.low, .string C.R.high, .bool C.R.unb, .int .i64 C.R.right, .slice C.A C.R.rows.length C.c, .slice C.B C.R.ents.length C.d, .string C.R.key, .string C.R.val, .int .i64 C.R.page, .int .i64 C.R.hpage, .int .i64 C.R.hleft, .string C.R.hkey, .int .i64 C.R.nslot, .int .i64 C.R.ngen]
structure ChOk (w : World) (C : Ch) : Prop where
  rd : RecReads w C.R C.A C.B
  low : SzOk C.R.low
  high : SzOk C.R.high
  key : SzOk C.R.key
  hkey : SzOk C.R.hkey
  ents : EtsOk C.R.ents
  cap : C.R.ents.length ≤ C.d
  capm : C.d ≤ maxLen
theorem ChOk.keep {w w' : World} {C : Ch} (h : ChOk w C) (hf : Fr none_ w w') : ChOk w' C := ⟨h.rd.keep hf, h.low, h.high, h.key, h.hkey, h.ents, h.cap, h.capm⟩
def ChReads (w : World) (A : Option Addr) (n : Nat) (L : List Ch) : Prop :=
  L.length = n ∧ (0 < n → ∃ b off, A = some ⟨b, off, none⟩ ∧ b < w.heap.size ∧ ∀ (k : Nat) (C : Ch), L[k]? = some C → w.rangeAt b (off + k * 15) (recL C) ∧ ChOk w C)
theorem ChReads.keep {w w' : World} {A : Option Addr} {n : Nat} {L : List Ch} (h : ChReads w A n L) (hf : Fr none_ w w') : ChReads w' A n L :=
  ⟨h.1, fun hn => by
    obtain ⟨b, off, hA, hb, hc⟩ := h.2 hn
    exact ⟨b, off, hA, by have := hf.size; omega, fun k C hC => ⟨fun j v hv => cellFr ((hc k C hC).1 j v hv) hf, (hc k C hC).2.keep hf⟩⟩⟩
theorem ChReads.at_ {w : World} {A : Option Addr} {n : Nat} {L : List Ch} (h : ChReads w A n L) {k : Nat} {C : Ch} (hC : L[k]? = some C) : ∃ b off, A = some ⟨b, off, none⟩ ∧ b < w.heap.size ∧ w.rangeAt b (off + k * 15) (recL C) ∧ ChOk w C := by
  obtain ⟨b, off, hA, hb, hc⟩ := h.2 (by have := (List.getElem?_eq_some_iff.1 hC).1; have := h.1; omega)
  exact ⟨b, off, hA, hb, hc k C hC⟩
abbrev recZ8 : Array Value := #[.int .i64 0, .string ⟨#[]⟩, .string ⟨#[]⟩, .bool false, .int .i64 0, .slice none 0 0, .slice none 0 0, .string ⟨#[]⟩, .string ⟨#[]⟩, .int .i64 0, .int .i64 0, .int .i64 0, .string ⟨#[]⟩, .int .i64 0, .int .i64 0]
theorem rec_one (C : Ch) : (recL C).toArray.all (·.oneCell') = true := by simp [Value.oneCell']
theorem rec_size8 : (Tryd.prog.info? 41).map (·.size) = some 15 := by kernel_rfl

/-- A view's box is none of its entries' rows. -/
theorem VwIn.far {w w' : World} {V V0 : Vw} {A : Option Addr} {c X : Nat} {ve : Value} (h : VwIn w V A c) (hX : Blk w X 81 (vwA V0 ve)) (hf : Fr (only X) w w') : VwIn w' V A c := by
  refine ⟨?_, h.cap, h.capm, h.ok⟩
  rcases Nat.eq_zero_or_pos V.ents.length with h0 | h0
  · exact ⟨h.rd.1, fun hn => absurd hn (by omega)⟩
  · obtain ⟨p, hp⟩ : ∃ p, V.ents[0]? = some p := ⟨_, List.getElem?_eq_getElem h0⟩
    obtain ⟨b, off, rfl, hb, c0, c1⟩ := et_at h.rd hp
    refine h.rd.fr hf (fun ad e => ?_)
    cases e
    intro e
    have e' : b = X := e
    subst e'
    rw [hX.cell] at c0 c1
    simp only [Nat.zero_mul, Nat.add_zero] at c0 c1
    match off, c0, c1 with
    | 0, c0, c1 => simp at c1
    | 1, c0, c1 => simp at c1
    | 2, c0, c1 => simp at c0
    | 3, c0, c1 => simp at c0
    | 4, c0, c1 =>
      have e : ve = .string p.1 := by simpa using c0
      simp at c1
    | 5, c0, c1 => simp at c0
    | 6, c0, c1 => simp at c0
    | 7, c0, c1 => simp at c0
    | 8, c0, c1 => simp at c1
    | k + 9, c0, c1 => simp at c0
end Go.Proofs.YtfihfjbakfadkaaDoor

/- ArenaCopies: a step of one arena, beside another one. -/
import Derived.Test.YtfoljojacakkeaaDoorPlaysA4
import Derived.Test.YtfoljojacakkeaaDoorCpyB4
namespace Go.Proofs.YtfoljojacakkeaaDoor
open Go.RowKit Go.ChangeShapes Go.WideShapes
set_option maxRecDepth 100000
set_option linter.unusedVariables false
/-- A pair of arenas that agree, the document's in box B; its row is none of the blocks in off. -/
structure P4 (w wr : World) (off : Nat → Prop) (a G : Nat) (slots last : Int) (B : Nat) (ss : List Sl) (LL : List RaP) (A : Option Addr) (c k : Nat) : Prop where
  b : Blk wr B 29 (raA slots last LL A c)
  pl : PlA wr a G slots last ss LL A c
  hl : LL.length ≤ k
  low : ∀ p ∈ LL, (∀ ad, p.A = some ad → 0 < p.R.rows.length → ad.block < w.heap.size) ∧ (∀ ad, p.B = some ad → 0 < p.R.ents.length → ad.block < w.heap.size)
  keys : KeysL4 LL
  offA : ∀ ad, A = some ad → 0 < LL.length → ¬ off ad.block
  fr : Fr none_ w wr
section
variable {w wr w2 w5 w6 : World} {off off' : Nat → Prop} {a G : Nat} {slots last : Int} {B : Nat} {ss : List Sl} {LL : List RaP} {A : Option Addr} {c k : Nat}
theorem P4.keep (h : P4 w wr off a G slots last B ss LL A c k) (hf : Fr none_ wr w2) : P4 w w2 off a G slots last B ss LL A c k :=
  ⟨h.b.fr hf id, h.pl.keep hf, h.hl, h.low, h.keys, h.offA, h.fr.then_none hf⟩
theorem P4.offs (h : P4 w wr off a G slots last B ss LL A c k) (ho : ∀ b, b < wr.heap.size → off' b → off b) : P4 w wr off' a G slots last B ss LL A c k :=
  ⟨h.b, h.pl, h.hl, h.low, h.keys, fun ad e hn hb => h.offA ad e hn (ho _ (h.pl.ra.rd.blk4 (by decide) hn e) hb), h.fr⟩
theorem P4.lowR (h : P4 w wr off a G slots last B ss LL A c k) {g : Nat} (hg : w.heap.size ≤ g) : ∀ p ∈ LL, OffR g p.R p.A p.B := fun p hp =>
  ⟨fun ad e hn => by have := (h.low p hp).1 ad e hn; omega, fun ad e hn => by have := (h.low p hp).2 ad e hn; omega⟩
/-- Beside a write into another one's box. -/
theorem P4.box (h : P4 w wr off a G slots last B ss LL A c k) {g : Nat} {t : TypeId} {cs : Array Value} (hf : Fr (only g) wr w2) (hg : Blk wr g t cs) (h1 : 141 ≠ t) (h2 : 60 ≠ t) (h3 : 138 ≠ t) (h4 : 147 ≠ t) (hw : w.heap.size ≤ g) (ho : off g) (hB : B ≠ g) : P4 w w2 off a G slots last B ss LL A c k :=
  ⟨h.b.fr hf (only_ne hB), h.pl.far2 hf hg h1 h2 h3 h4 (fun ad e hn e2 => h.offA ad e hn (by rw [e2]; exact ho)) (h.lowR hw), h.hl, h.low, h.keys, h.offA, h.fr.then_only hf (.inr hw)⟩
/-- Beside a write into another one's slots. -/
theorem P4.besideG (h : P4 w wr off a G slots last B ss LL A c k) {g : Nat} {cs : Array Value} (hf : Fr (only g) wr w2) (hg : Blk wr g 147 cs) (hw : w.heap.size ≤ g) (ho : off g) (hG : G ≠ g) : P4 w w2 off a G slots last B ss LL A c k := by
  refine ⟨h.b.fr hf (only_ne (Blk.ne_ h.b hg (by decide))), ?_, h.hl, h.low, h.keys, h.offA, h.fr.then_only hf (.inr hw)⟩
  exact ⟨h.pl.ar.beside hf hg (by decide) (by decide) (Blk.ne_ h.pl.ar.hA hg (by decide)) hG, h.pl.ra.off hf (fun ad e hn e2 => h.offA ad e hn (by rw [e2]; exact ho)) (h.lowR hw), h.pl.sim, h.pl.ns, h.pl.xg, h.pl.offA, h.pl.offR⟩
theorem P4.blkG (h : P4 w wr off a G slots last B ss LL A c k) : ∃ cs, Blk wr G 147 cs := by obtain ⟨cs, hB, _⟩ := h.pl.ar.hG; exact ⟨cs, hB⟩
/-- A step of does, and what it told stored in the box. -/
theorem P4.step (h : P4 w w5 off a G slots last B ss LL A c k) {D : Dn} (hD : KeyOk4 D.R) (hDl : (∀ ad, D.A = some ad → 0 < D.R.rows.length → ad.block < w.heap.size) ∧ (∀ ad, D.B = some ad → 0 < D.R.ents.length → ad.block < w.heap.size)) (hoff : ∀ b, off b → b < w5.heap.size) (hB : w.heap.size ≤ B) (hoB : off B) (hG : w.heap.size ≤ G)
    {ss' : List Sl} {LL' : List RaP} {A3 : Option Addr} {c3 : Nat} (hpl : PlA w6 a G slots last ss' LL' A3 c3) (hll : LL'.length ≤ LL.length + 1) (hfl : FromL LL' LL D.R D.A D.B) (hfa : (A3 = A ∧ LL'.length = LL.length) ∨ ∀ ad, A3 = some ad → w5.heap.size ≤ ad.block) (hf : Fr (only G) w5 w6) :
    P4 w (w6.setCells B 0 (raA slots last LL' A3 c3).toList) off a G slots last B ss' LL' A3 c3 (k + 1) ∧ Fr (only B) w6 (w6.setCells B 0 (raA slots last LL' A3 c3).toList) ∧ w6.there B 0 3 := by
  obtain ⟨cs, hGb⟩ := h.blkG
  have hb6 := h.b.fr hf (only_ne (Blk.ne_ h.b hGb (by decide)))
  have ov := Blk.over4 hb6 (raA slots last LL' A3 c3).toList rfl
  have ho3 : ∀ ad, A3 = some ad → 0 < LL'.length → ¬ off ad.block := fun ad e hn hb => by
    rcases hfa with ⟨rfl, h2⟩ | hfa
    · exact h.offA ad e (by omega) hb
    · have := hoff _ hb
      have := hfa ad e
      omega
  have hlow : ∀ p ∈ LL', (∀ ad, p.A = some ad → 0 < p.R.rows.length → ad.block < w.heap.size) ∧ (∀ ad, p.B = some ad → 0 < p.R.ents.length → ad.block < w.heap.size) := fun p hp => by
    rcases hfl p hp with ⟨q, hq, e1, e2, e3⟩ | ⟨e1, e2, e3⟩
    · rw [e1, e2, e3]; exact h.low q hq
    · rw [e1, e2, e3]; exact hDl
  refine ⟨⟨ov.1, ?_, by have := h.hl; omega, hlow, fun p hp => ?_, ho3, (h.fr.then_only hf (.inr hG)).then_only ov.2 (.inr hB)⟩, ov.2, hb6.there4 rfl⟩
  · exact hpl.far2 ov.2 hb6 (by decide) (by decide) (by decide) (by decide) (fun ad e hn e2 => ho3 ad e hn (by rw [e2]; exact hoB)) (fun p hp => ⟨fun ad e hn => by have := (hlow p hp).1 ad e hn; omega, fun ad e hn => by have := (hlow p hp).2 ad e hn; omega⟩)
  · rcases hfl p hp with ⟨q, hq, e1, -, -⟩ | ⟨e1, -, -⟩
    · rw [e1]; exact h.keys q hq
    · rw [e1]; exact hD
end
/-- Two pairs in one memory. -/
structure Two4 (w wr : World) (off : Nat → Prop) (slots last : Int) (a G B : Nat) (ss : List Sl) (LL : List RaP) (A : Option Addr) (c : Nat) (a2 G2 B2 : Nat) (ss2 : List Sl) (LL2 : List RaP) (A2 : Option Addr) (c2 k : Nat) : Prop where
  p : P4 w wr off a G slots last B ss LL A c k
  q : P4 w wr off a2 G2 slots last B2 ss2 LL2 A2 c2 k
  g : G ≠ G2
  b : B ≠ B2
  hoff : ∀ x, off x → x < wr.heap.size ∧ w.heap.size ≤ x
  oG : off G
  oG2 : off G2
  oB : off B
  oB2 : off B2
section
variable {w w5 w6 : World} {off : Nat → Prop} {slots last : Int} {a G B : Nat} {ss : List Sl} {LL : List RaP} {A : Option Addr} {c : Nat} {a2 G2 B2 : Nat} {ss2 : List Sl} {LL2 : List RaP} {A2 : Option Addr} {c2 k : Nat}
theorem Two4.keep (h : Two4 w w5 off slots last a G B ss LL A c a2 G2 B2 ss2 LL2 A2 c2 k) (hf : Fr none_ w5 w6) : Two4 w w6 off slots last a G B ss LL A c a2 G2 B2 ss2 LL2 A2 c2 k :=
  ⟨h.p.keep hf, h.q.keep hf, h.g, h.b, fun x hx => ⟨Nat.lt_of_lt_of_le (h.hoff x hx).1 hf.size, (h.hoff x hx).2⟩, h.oG, h.oG2, h.oB, h.oB2⟩
theorem Two4.swap (h : Two4 w w5 off slots last a G B ss LL A c a2 G2 B2 ss2 LL2 A2 c2 k) : Two4 w w5 off slots last a2 G2 B2 ss2 LL2 A2 c2 a G B ss LL A c k :=
  ⟨h.q, h.p, h.g.symm, h.b.symm, h.hoff, h.oG2, h.oG, h.oB2, h.oB⟩
/-- A step of the first: the second is as it was. -/
theorem Two4.step (h : Two4 w w5 off slots last a G B ss LL A c a2 G2 B2 ss2 LL2 A2 c2 k) {D : Dn} (hD : KeyOk4 D.R) (hDl : (∀ ad, D.A = some ad → 0 < D.R.rows.length → ad.block < w.heap.size) ∧ (∀ ad, D.B = some ad → 0 < D.R.ents.length → ad.block < w.heap.size))
    {ss' : List Sl} {LL' : List RaP} {A3 : Option Addr} {c3 : Nat} (hpl : PlA w6 a G slots last ss' LL' A3 c3) (hll : LL'.length ≤ LL.length + 1) (hfl : FromL LL' LL D.R D.A D.B) (hfa : (A3 = A ∧ LL'.length = LL.length) ∨ ∀ ad, A3 = some ad → w5.heap.size ≤ ad.block) (hf : Fr (only G) w5 w6) :
    Two4 w (w6.setCells B 0 (raA slots last LL' A3 c3).toList) off slots last a G B ss' LL' A3 c3 a2 G2 B2 ss2 LL2 A2 c2 (k + 1) ∧ w6.there B 0 3 := by
  obtain ⟨h1, h2, h3⟩ := h.p.step hD hDl (fun b hb => (h.hoff b hb).1) (h.hoff B h.oB).2 h.oB (h.hoff G h.oG).2 hpl hll hfl hfa hf
  obtain ⟨cs, hGb⟩ := h.p.blkG
  have hb6 := h.p.b.fr hf (only_ne (Blk.ne_ h.p.b hGb (by decide)))
  have q6 := h.q.besideG hf hGb (h.hoff G h.oG).2 h.oG h.g.symm
  have q7 := q6.box h2 hb6 (by decide) (by decide) (by decide) (by decide) (h.hoff B h.oB).2 h.oB h.b.symm
  refine ⟨⟨h1, ⟨q7.b, q7.pl, by have := q7.hl; omega, q7.low, q7.keys, q7.offA, q7.fr⟩, h.g, h.b, fun x hx => ⟨?_, (h.hoff x hx).2⟩, h.oG, h.oG2, h.oB, h.oB2⟩, h3⟩
  have := (h.hoff x hx).1
  have := hf.size
  have := h2.size
  omega
end
end Go.Proofs.YtfoljojacakkeaaDoor

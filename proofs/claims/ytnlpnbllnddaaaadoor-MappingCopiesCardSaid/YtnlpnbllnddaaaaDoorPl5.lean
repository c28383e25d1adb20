/- Layer 5: what a play holds: the table, the document's, and its box. -/
import Derived.Test.YtnlpnbllnddaaaaDoorSame5
import Derived.Test.YtnlpnbllnddaaaaDoorMapAwake
import Derived.Test.YtnlpnbllnddaaaaDoorTypes5
namespace Go.Proofs.YtnlpnbllnddaaaaDoor
open Go.RowKit
set_option linter.unusedVariables false

structure Pl (w w' : World) (T G R p : Nat) (ps : List Pg) (v : Value) (L : List Rp) : Prop where
  b : Blk w' R 28 #[.int .i64 p, v]
  tb : Tbl w' T G ps
  own : ROwn w' v L
  sim : Sim ps L
  la : Laid w'
  fr : Fr none_ w w'
  hR : w.heap.size ≤ R
  hG : w.heap.size ≤ G
  h0 : 0 < w.heap.size
  len : ps.length = p
section
variable {w w' w2 w3 : World} {T G R p : Nat} {ps ps' : List Pg} {v v' : Value} {L L' : List Rp}
theorem Pl.gne (h : Pl w w' T G R p ps v L) : 0 ≠ G := by have := h.hG; have := h.h0; omega
theorem Pl.keep (h : Pl w w' T G R p ps v L) (hf : Fr none_ w' w2) : Pl w w2 T G R p ps v L :=
  ⟨h.b.fr hf id, h.tb.fr hf id id, own_none h.own hf, h.sim, h.la.fr hf id, h.fr.then_none hf, h.hR, h.hG, h.h0, h.len⟩
/-- A step of both, the document's told table not yet in its box. -/
theorem Pl.did (h : Pl w w' T G R p ps v L) (ht : Tbl w2 T G ps') (hf : Fr (only G) w' w2) : Blk w2 R 28 #[.int .i64 p, v] ∧ Fr none_ w w2 ∧ Laid w2 := by
  have hGR : R ≠ G := by obtain ⟨cs, hg⟩ := h.tb.blkG; exact fun e => absurd (Blk.uniq h.b (e ▸ hg)).1 (by decide)
  exact ⟨h.b.fr hf (only_ne hGR), h.fr.then_only hf (.inr h.hG), h.la.fr hf (only_ne h.gne)⟩
theorem Pl.put_fr (R : Nat) (x y : Value) (w2 : World) : Fr (only R) w2 ((w2.setCell ⟨R, 0, none⟩ x).setCell ⟨R, 1, none⟩ y) :=
  ((Fr.refl (only R) w2).setCell (p := ⟨R, 0, none⟩) (.inl (Eq.refl _)) _).setCell (p := ⟨R, 1, none⟩) (.inl (Eq.refl _)) _
/-- The told table is laid into the box. -/
theorem Pl.put (hb : Blk w2 R 28 #[.int .i64 p, v]) (ht : Tbl w2 T G ps') (ho : ROwn w2 v' L') (hs : Sim ps' L') (hl : Laid w2) (hf : Fr none_ w w2) (hR : w.heap.size ≤ R) (hG : w.heap.size ≤ G) (h0 : 0 < w.heap.size) (hlen : ps'.length = p) :
    Pl w ((w2.setCell ⟨R, 0, none⟩ (.int .i64 p)).setCell ⟨R, 1, none⟩ v') T G R p ps' v' L' := by
  have F := Pl.put_fr R (.int .i64 p) v' w2
  have hTR : T ≠ R := by obtain ⟨cap, cur, h⟩ := ht; exact fun e => absurd (Blk.uniq h.hT (e ▸ hb)).1 (by decide)
  have hGR : G ≠ R := by obtain ⟨cs, hg⟩ := ht.blkG; exact fun e => absurd (Blk.uniq hg (e ▸ hb)).1 (by decide)
  exact ⟨(hb.set_ 0 _).set_ 1 _, ht.fr F (only_ne hTR) (only_ne hGR), own_fr ho F (fun k hk e => own_blk_ne ho hb (by decide) (by rw [hk, show k = R from e])), hs, hl.fr F (only_ne (by omega)), hf.then_only F (.inr hR), hR, hG, h0, hlen⟩
end

def DidPost (w w' : World) (T G R p : Nat) (v : Value) (ps' : List Pg) (e : Ending) (w2 : World) : Prop :=
  ∃ A c L', e = .returned (.tuple #[rtab p (.slice A L'.length c), .bool true]) ∧ Tbl w2 T G ps' ∧ ROwn w2 (.slice A L'.length c) L' ∧ Sim ps' L' ∧ ps'.length = p ∧ Blk w2 R 28 #[.int .i64 p, v] ∧ Fr none_ w w2 ∧ Laid w2 ∧ Fr (only G) w' w2
theorem does_pl {w w' : World} {T G R p : Nat} {ps : List Pg} {B : Option Addr} {c : Nat} {L : List Rp} (h : Pl w w' T G R p ps (.slice B L.length c) L) (verb n : Int) (r : Bool) (x y z u : Int) :
    Calls Tryd.prog 10 #[.pointer (some ⟨T, 0, none⟩), rtab p (.slice B L.length c), .agg #[.int .i64 verb, .int .i64 n, .bool r, .int .i64 x, .int .i64 y, .int .i64 z, .int .i64 u]] w' (DidPost w w' T G R p (.slice B L.length c) (doesP ps verb n r x y z u)) := by
  have e := h.len
  subst e
  refine (does_any T G ps B c L verb n r x y z u w' h.tb h.own h.sim h.la h.gne).mono ?_
  rintro e w2 ⟨A', c', L', he, ht, ho, hs, hf⟩
  obtain ⟨k1, k2, k3⟩ := h.did ht hf
  exact ⟨A', c', L', he, ht, ho, hs, doesP_len _ _ _ _ _ _ _ _, k1, k2, k3, hf⟩
theorem same_pl {w w' : World} {T G R p : Nat} {ps : List Pg} {B : Option Addr} {c : Nat} {L : List Rp} (h : Pl w w' T G R p ps (.slice B L.length c) L) :
    Calls Tryd.prog 11 #[.pointer (some ⟨T, 0, none⟩), rtab p (.slice B L.length c)] w' fun e w2 => e = .returned (.bool true) ∧ Fr none_ w' w2 := by
  have e := h.len
  subst e
  exact same_ok T G ps B c L w' h.tb h.own h.sim h.la h.gne

theorem rpages_pl {w w' : World} {T G R p : Nat} {ps : List Pg} {B : Option Addr} {c : Nat} {L : List Rp} (h : Pl w w' T G R p ps (.slice B L.length c) L) :
    Calls Tryd.prog 14 #[rtab p (.slice B L.length c)] w' (PagesPost ps w') := by
  have e := h.len
  subst e
  exact rpages_any ps B c L w' h.own h.sim

/-- The k-th step of a list. -/
theorem Do5At.at {w wr : World} {A : Option Addr} {n : Nat} (h : Do5At w A n) (hf : Fr none_ w wr) {k : Nat} (hk : k < n) :
    ∃ b off, A = some ⟨b, off, none⟩ ∧ b < w.heap.size ∧ ∃ (x0 : Int) (x1 : Int) (x2 : Bool) (x3 : Int) (x4 : Int) (x5 : Int) (x6 : Int),
      wr.cell? ⟨b, off + k * 7, none⟩ = some (.int .i64 x0) ∧ wr.cell? ⟨b, off + k * 7 + 1, none⟩ = some (.int .i64 x1) ∧ wr.cell? ⟨b, off + k * 7 + 1 + 1, none⟩ = some (.bool x2) ∧ wr.cell? ⟨b, off + k * 7 + 1 + 1 + 1, none⟩ = some (.int .i64 x3) ∧ wr.cell? ⟨b, off + k * 7 + 1 + 1 + 1 + 1, none⟩ = some (.int .i64 x4) ∧ wr.cell? ⟨b, off + k * 7 + 1 + 1 + 1 + 1 + 1, none⟩ = some (.int .i64 x5) ∧ wr.cell? ⟨b, off + k * 7 + 1 + 1 + 1 + 1 + 1 + 1, none⟩ = some (.int .i64 x6) := by
  obtain ⟨b, off, hA, hb, hc⟩ := h (by omega)
  obtain ⟨x0, x1, x2, x3, x4, x5, x6, _, _, _, _, _, _, h0, h1, h2, h3, h4, h5, h6⟩ := hc k hk
  exact ⟨b, off, hA, hb, x0, x1, x2, x3, x4, x5, x6, cell_fr h0 hf, cell_fr h1 hf, cell_fr h2 hf, cell_fr h3 hf, cell_fr h4 hf, cell_fr h5 hf, cell_fr h6 hf⟩
end Go.Proofs.YtnlpnbllnddaaaaDoor

/- Layer 4's does: Load by contract; the rows that a step writes into. -/
import Derived.Test.YtfoljojacakkeaaDoorDoF4
import Derived.Test.YtfoljojacakkeaaDoorSame4
import Derived.Laws.OwnMore
namespace Go.Proofs.YtfoljojacakkeaaDoor
open Go.RowKit Go.ChangeShapes Go.WideShapes
set_option maxRecDepth 100000
set_option linter.unusedVariables false
theorem rec_size4 : (Tryd.prog.info? 40).map (·.size) = some 15 := by kernel_rfl
def LoadX (w : World) (ss : List Sl) (x y : Int) (e : Ending) (w' : World) : Prop :=
  ∃ R A c B d, e = .returned (.tuple #[recV R (.slice A R.rows.length c) (.slice B R.ents.length d), errOf (atC ss x y)]) ∧ RecOwn w' w.heap.size R (.slice A R.rows.length c) (.slice B R.ents.length d) ∧ Fr none_ w w' ∧
    ((atC ss x y = 0 ∧ ∃ (i : Nat) (s : Sl), x = (i : Int) + 1 ∧ ss[i]? = some s ∧ s.used = true ∧ s.gen = y ∧ R = s.R) ∨ (atC ss x y ≠ 0 ∧ R = Rc.zero))
theorem load_x {w : World} {a G : Nat} {last : Int} {ss : List Sl} (h : Ar w a G last ss) (x y : Int) : Calls Tryd.prog 61 #[.pointer (some ⟨a, 0, none⟩), .agg #[.int .i64 x, .int .i64 y]] w (LoadX w ss x y) := by
  have bad : atC ss x y ≠ 0 → Calls Tryd.prog 61 #[.pointer (some ⟨a, 0, none⟩), .agg #[.int .i64 x, .int .i64 y]] w (LoadX w ss x y) := fun hb => by
    refine (load_bad _ _ h hb).mono ?_
    rintro e w' ⟨rfl, hf⟩
    exact ⟨Rc.zero, none, 0, none, 0, by rw [errOf_pos hb]; rfl, RecOwn.zero _ _, hf, .inr ⟨hb, rfl⟩⟩
  rcases atC_cases ss x y with ⟨e, hx⟩ | ⟨i, s, hx, hs, hh⟩
  · exact bad (by rw [e]; decide)
  · rcases hh with ⟨e, hn⟩ | ⟨e, hu, hg⟩
    · exact bad (by rw [e]; decide)
    · refine (load_ok _ _ h hs hx hu hg).mono ?_
      rintro e2 w' ⟨A, c, B, d, rfl, hO, hf⟩
      exact ⟨s.R, A, c, B, d, by rw [e]; rfl, hO, hf, .inl ⟨e, i, s, hx, hs, hu, hg, rfl⟩⟩
theorem rwFlat_set0 : ∀ (L : List Rw) (k : Nat) (p : Rw) (t : ByteArray), L[k]? = some p → rwFlat (L.set k (t, p.2)) = (rwFlat L).set (k * 2) (.string t)
  | [], k, p, t, h => by simp at h
  | q :: L, 0, p, t, h => by
    obtain rfl : q = p := by simpa using h
    simp [rwFlat, rwCells]
  | q :: L, k + 1, p, t, h => by
    have := rwFlat_set0 L k p t (by simpa using h)
    rw [show (k + 1) * 2 = (k * 2) + 1 + 1 by omega]
    simpa [rwFlat, rwCells] using this
/-- The rows of a record of one's own, written into, in a loop of does. -/
structure DL4 (w wr : World) (lo T : Nat) (R : Rc) (va vb : Value) (Lr : List Rw) (slots last : Int) (L : List RaP) (A : Option Addr) (c : Nat) (dl : List Value) (X2 : Nat) (cs2 : Array Value) (S : Nat → Prop) : Prop where
  r : wr.ownsRow lo 141 2 va Lr.length (rwFlat Lr)
  bt : Blk wr T 40 (recA R va vb)
  bv : Blk wr w.heap.size 29 (raA slots last L A c)
  bd : Blk wr (w.heap.size + 1) 42 dl.toArray
  ba : Blk wr (w.heap.size + 1 + 1) 29 #[.int .i64 0, .int .i64 0, .slice none 0 0]
  bx : Blk wr (w.heap.size + 1 + 1 + 1) 38 #[.int .i64 0, .int .i64 0]
  ex : Blk wr X2 38 cs2
  fr : Fr S w wr
section
variable {w wr w2 : World} {lo T : Nat} {R : Rc} {va vb : Value} {Lr : List Rw} {slots last : Int} {L : List RaP} {A : Option Addr} {c : Nat} {dl : List Value} {X2 : Nat} {cs2 : Array Value} {S : Nat → Prop}
theorem DL4.keep (h : DL4 w wr lo T R va vb Lr slots last L A c dl X2 cs2 S) (hf : Fr none_ wr w2) : DL4 w w2 lo T R va vb Lr slots last L A c dl X2 cs2 S :=
  ⟨own_none h.r hf, h.bt.fr hf id, h.bv.fr hf id, h.bd.fr hf id, h.ba.fr hf id, h.bx.fr hf id, h.ex.fr hf id, h.fr.then_none hf⟩
theorem DL4.put {g n c2 : Nat} {k : Nat} {p : Rw} (h : DL4 w wr lo T R (.slice (some ⟨g, 0, none⟩) n c2) vb Lr slots last L A c dl X2 cs2 S) (hlo : w.heap.size ≤ lo) (hn : Lr.length = n) (hp : Lr[k]? = some p) (t : ByteArray) :
    DL4 w (wr.setCell ⟨g, k * 2, none⟩ (.string t)) lo T R (.slice (some ⟨g, 0, none⟩) n c2) vb (Lr.set k (t, p.2)) slots last L A c dl X2 cs2 S := by
  subst hn
  have hf := Fr.only1 wr ⟨g, k * 2, none⟩ (.string t)
  have hg := h.r.lt g rfl
  have hr := (h.r.stored (k * 2) (.string t)).1
  rw [← rwFlat_set0 Lr k p t hp] at hr
  have hb : ∀ {b : Nat} {t : TypeId} {cs : Array Value}, Blk wr b t cs → 141 ≠ t → b ≠ g := fun hB ht e => own_blk_ne h.r hB ht (by rw [e]; rfl)
  exact ⟨by rw [List.length_set]; exact hr, h.bt.fr hf (only_ne (hb h.bt (by decide))), h.bv.fr hf (only_ne (hb h.bv (by decide))), h.bd.fr hf (only_ne (hb h.bd (by decide))), h.ba.fr hf (only_ne (hb h.ba (by decide))), h.bx.fr hf (only_ne (hb h.bx (by decide))), h.ex.fr hf (only_ne (hb h.ex (by decide))), h.fr.then_only hf (.inr (Nat.le_trans hlo hg.1))⟩
end
theorem own_rw0 {wr : World} {base n c : Nat} {A : Option Addr} {L : List Rw} (h : wr.ownsRow base 141 2 (.slice A n c) L.length (rwFlat L)) (hn : L.length = n) {k : Nat} {p : Rw} (hp : L[k]? = some p) : ∃ g, A = some ⟨g, 0, none⟩ ∧ wr.cell? ⟨g, k * 2, none⟩ = some (.string p.1) ∧ wr.frozen? ⟨g, k * 2, none⟩ = false := by
  subst hn
  obtain ⟨A', c', hv, _, _, hp'⟩ := own_parts h
  obtain ⟨g, hA, _, hc⟩ := hp' (by have := (List.getElem?_eq_some_iff.1 hp).1; omega)
  have hA' : A = some ⟨g, 0, none⟩ := by injection hv with h1; rw [h1, hA]
  subst hA'
  exact ⟨g, rfl, hc _ _ (rwFlat_get L k p hp).1, h.frozenAt _⟩
end Go.Proofs.YtfoljojacakkeaaDoor

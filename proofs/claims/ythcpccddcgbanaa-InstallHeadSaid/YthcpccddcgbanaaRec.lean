/- Records in memory: fifteen cells, two slices. -/
import Derived.Test.YthcpccddcgbanaaMore
import Derived.Test.YthcpccddcgbanaaTypesR
namespace Go.Proofs.Ythcpccddcgbanaa
open Go.ChangeShapes Go.WideShapes Go.RowKit
set_option maxRecDepth 100000
set_option linter.unusedVariables false

abbrev Rw := ByteArray × ByteArray
abbrev Et := ByteArray × Int
structure Rc where
  kind : Int
  low : ByteArray
  high : ByteArray
  unb : Bool
  right : Int
  rows : List Rw
  ents : List Et
  key : ByteArray
  val : ByteArray
  page : Int
  hpage : Int
  hleft : Int
  hkey : ByteArray
  nslot : Int
  ngen : Int
abbrev nilS : ByteArray := ⟨#[]⟩
def Rc.zero : Rc := ⟨0, nilS, nilS, false, 0, [], [], nilS, nilS, 0, 0, 0, nilS, 0, 0⟩
abbrev recA (R : Rc) (vr ve : Value) : Array Value := #[.int .i64 R.kind, .string R.low, .string R.high, .bool R.unb, .int .i64 R.right, vr, ve, .string R.key, .string R.val, .int .i64 R.page, .int .i64 R.hpage, .int .i64 R.hleft, .string R.hkey, .int .i64 R.nslot, .int .i64 R.ngen]
abbrev recV (R : Rc) (vr ve : Value) : Value := .agg (recA R vr ve)
abbrev recB (R : Rc) (vr ve : Value) : Obj := .cells (recA R vr ve) 44

def rwCells (p : Rw) : List Value := [.string p.1, .string p.2]
def etCells (p : Et) : List Value := [.string p.1, .int .i64 p.2]
def rwFlat (L : List Rw) : List Value := (L.map rwCells).flatten
def etFlat (L : List Et) : List Value := (L.map etCells).flatten
theorem rwFlat_len (L : List Rw) : (rwFlat L).length = L.length * 2 := by
  unfold rwFlat
  induction L with
  | nil => rfl
  | cons p t ih => simp [rwCells] at ih ⊢; omega
theorem etFlat_len (L : List Et) : (etFlat L).length = L.length * 2 := by
  unfold etFlat
  induction L with
  | nil => rfl
  | cons p t ih => simp [etCells] at ih ⊢; omega
theorem rwFlat_one (L : List Rw) : ∀ u ∈ rwFlat L, u.oneCell' = true := by
  intro u hu
  simp only [rwFlat, List.mem_flatten, List.mem_map] at hu
  obtain ⟨l, ⟨p, _, rfl⟩, hu⟩ := hu
  simp only [rwCells, List.mem_cons, List.not_mem_nil, or_false] at hu
  rcases hu with rfl | rfl <;> rfl
theorem etFlat_one (L : List Et) : ∀ u ∈ etFlat L, u.oneCell' = true := by
  intro u hu
  simp only [etFlat, List.mem_flatten, List.mem_map] at hu
  obtain ⟨l, ⟨p, _, rfl⟩, hu⟩ := hu
  simp only [etCells, List.mem_cons, List.not_mem_nil, or_false] at hu
  rcases hu with rfl | rfl <;> rfl
theorem rwFlat_get : ∀ (L : List Rw) (i : Nat) (p : Rw), L[i]? = some p → (rwFlat L)[i * 2]? = some (.string p.1) ∧ (rwFlat L)[i * 2 + 1]? = some (.string p.2)
  | [], i, p, h => by simp at h
  | q :: L, 0, p, h => by
    obtain rfl : q = p := by simpa using h
    simp [rwFlat, rwCells]
  | q :: L, i + 1, p, h => by
    have := rwFlat_get L i p (by simpa using h)
    rw [show (i + 1) * 2 = i * 2 + 1 + 1 by omega]
    simpa [rwFlat, rwCells] using this
theorem etFlat_get : ∀ (L : List Et) (i : Nat) (p : Et), L[i]? = some p → (etFlat L)[i * 2]? = some (.string p.1) ∧ (etFlat L)[i * 2 + 1]? = some (.int .i64 p.2)
  | [], i, p, h => by simp at h
  | q :: L, 0, p, h => by
    obtain rfl : q = p := by simpa using h
    simp [etFlat, etCells]
  | q :: L, i + 1, p, h => by
    have := etFlat_get L i p (by simpa using h)
    rw [show (i + 1) * 2 = i * 2 + 1 + 1 by omega]
    simpa [etFlat, etCells] using this
theorem flat2_inv {α : Type} (f g : α → Value) : ∀ (L : List α) (j : Nat) (u : Value), ((L.map fun p => [f p, g p]).flatten)[j]? = some u → ∃ (k : Nat) (p : α), L[k]? = some p ∧ ((j = k * 2 ∧ u = f p) ∨ (j = k * 2 + 1 ∧ u = g p))
  | [], j, u, h => by simp at h
  | q :: L, j, u, h => by
    simp only [List.map_cons, List.flatten_cons] at h
    match j, h with
    | 0, h => exact ⟨0, q, rfl, .inl ⟨rfl, by simpa using h.symm⟩⟩
    | 1, h => exact ⟨0, q, rfl, .inr ⟨rfl, by simpa using h.symm⟩⟩
    | j + 2, h =>
      obtain ⟨k, p, hp, hh⟩ := flat2_inv f g L j u (by simpa using h)
      refine ⟨k + 1, p, by simpa using hp, ?_⟩
      rcases hh with ⟨e, hu⟩ | ⟨e, hu⟩
      · exact .inl ⟨by omega, hu⟩
      · exact .inr ⟨by omega, hu⟩

/-- Rows that came in, as a list (all texts of the reach). -/
def RwReads (w : World) (A : Option Addr) (n : Nat) (L : List Rw) : Prop :=
  L.length = n ∧ (0 < n → ∃ b off, A = some ⟨b, off, none⟩ ∧ b < w.heap.size ∧ ∀ k p, L[k]? = some p →
    (p.1.size ≤ reachBytes ∧ p.2.size ≤ reachBytes) ∧ w.cell? ⟨b, off + k * 2, none⟩ = some (.string p.1) ∧ w.cell? ⟨b, off + k * 2 + 1, none⟩ = some (.string p.2))
def EtReads (w : World) (A : Option Addr) (n : Nat) (L : List Et) : Prop :=
  L.length = n ∧ (0 < n → ∃ b off, A = some ⟨b, off, none⟩ ∧ b < w.heap.size ∧ ∀ k p, L[k]? = some p →
    (p.1.size ≤ reachBytes ∧ (Lit.int .i64 p.2).wf = true) ∧ w.cell? ⟨b, off + k * 2, none⟩ = some (.string p.1) ∧ w.cell? ⟨b, off + k * 2 + 1, none⟩ = some (.int .i64 p.2))
theorem rows_of {w : World} {A : Option Addr} {n : Nat} (h : RowAt w A n) : ∃ L, RwReads w A n L := by
  rcases Nat.eq_zero_or_pos n with h0 | h0
  · subst h0; exact ⟨[], rfl, fun h => absurd h (by omega)⟩
  · obtain ⟨b, off, hA, hb, hc⟩ := h h0
    obtain ⟨L, hl, hL⟩ := choose_list (α := Rw) (P := fun k p => (p.1.size ≤ reachBytes ∧ p.2.size ≤ reachBytes) ∧ w.cell? ⟨b, off + k * 2, none⟩ = some (.string p.1) ∧ w.cell? ⟨b, off + k * 2 + 1, none⟩ = some (.string p.2)) n (fun k hk => by
      obtain ⟨x0, x1, w0, w1, h0, h1⟩ := hc k hk
      exact ⟨(x0, x1), ⟨w0, w1⟩, h0, h1⟩)
    exact ⟨L, hl, fun _ => ⟨b, off, hA, hb, hL⟩⟩
theorem ents_of {w : World} {A : Option Addr} {n : Nat} (h : EntryAt w A n) : ∃ L, EtReads w A n L := by
  rcases Nat.eq_zero_or_pos n with h0 | h0
  · subst h0; exact ⟨[], rfl, fun h => absurd h (by omega)⟩
  · obtain ⟨b, off, hA, hb, hc⟩ := h h0
    obtain ⟨L, hl, hL⟩ := choose_list (α := Et) (P := fun k p => (p.1.size ≤ reachBytes ∧ (Lit.int .i64 p.2).wf = true) ∧ w.cell? ⟨b, off + k * 2, none⟩ = some (.string p.1) ∧ w.cell? ⟨b, off + k * 2 + 1, none⟩ = some (.int .i64 p.2)) n (fun k hk => by
      obtain ⟨x0, x1, w0, w1, h0, h1⟩ := hc k hk
      exact ⟨(x0, x1), ⟨w0, w1⟩, h0, h1⟩)
    exact ⟨L, hl, fun _ => ⟨b, off, hA, hb, hL⟩⟩
theorem RwReads.reads {w : World} {A : Option Addr} {n : Nat} {L : List Rw} (h : RwReads w A n L) : Reads w 2 A n (rwFlat L) := by
  refine ⟨by rw [rwFlat_len, h.1], fun hn => ?_⟩
  obtain ⟨b, off, hA, hb, hc⟩ := h.2 hn
  refine ⟨⟨b, off, none⟩, hA, fun j u hu => ?_⟩
  obtain ⟨k, p, hp, hh⟩ := flat2_inv (fun p : Rw => Value.string p.1) (fun p => .string p.2) L j u hu
  obtain ⟨_, c0, c1⟩ := hc k p hp
  rw [add_lit]
  rcases hh with ⟨rfl, rfl⟩ | ⟨rfl, rfl⟩
  · exact c0
  · exact c1
theorem EtReads.reads {w : World} {A : Option Addr} {n : Nat} {L : List Et} (h : EtReads w A n L) : Reads w 2 A n (etFlat L) := by
  refine ⟨by rw [etFlat_len, h.1], fun hn => ?_⟩
  obtain ⟨b, off, hA, hb, hc⟩ := h.2 hn
  refine ⟨⟨b, off, none⟩, hA, fun j u hu => ?_⟩
  obtain ⟨k, p, hp, hh⟩ := flat2_inv (fun p : Et => Value.string p.1) (fun p => .int .i64 p.2) L j u hu
  obtain ⟨_, c0, c1⟩ := hc k p hp
  rw [add_lit]
  rcases hh with ⟨rfl, rfl⟩ | ⟨rfl, rfl⟩
  · exact c0
  · exact c1
theorem RwReads.fr {w w' : World} {A : Option Addr} {n : Nat} {L : List Rw} (h : RwReads w A n L) (hf : Fr none_ w w') : RwReads w' A n L :=
  ⟨h.1, fun hn => by
    obtain ⟨b, off, hA, hb, hc⟩ := h.2 hn
    exact ⟨b, off, hA, by have := hf.size; omega, fun k p hp => by
      obtain ⟨s, c0, c1⟩ := hc k p hp
      exact ⟨s, cellFr c0 hf, cellFr c1 hf⟩⟩⟩
theorem EtReads.fr {w w' : World} {A : Option Addr} {n : Nat} {L : List Et} (h : EtReads w A n L) (hf : Fr none_ w w') : EtReads w' A n L :=
  ⟨h.1, fun hn => by
    obtain ⟨b, off, hA, hb, hc⟩ := h.2 hn
    exact ⟨b, off, hA, by have := hf.size; omega, fun k p hp => by
      obtain ⟨s, c0, c1⟩ := hc k p hp
      exact ⟨s, cellFr c0 hf, cellFr c1 hf⟩⟩⟩
theorem rows_conf {H : Type} {enc : TypeId × Value → H} {w : World} {v : Value} (h : Conf enc Try.prog w (.slice 39) v) : ∃ A n c L, v = .slice A n c ∧ n ≤ c ∧ c ≤ maxLen ∧ (A = none → n = 0 ∧ c = 0) ∧ RwReads w A n L := by
  obtain ⟨fuel, d, ps, ht, hlt, hwt⟩ := h
  obtain ⟨A, n, c, rfl, h1, h2, h3, h4, h5⟩ := open_list 6 Try.underlying39 ht hlt hwt (by rw [leaves_Row]; rfl) (by rw [leaves_Row, cells_Row]; rfl)
  obtain ⟨L, hL⟩ := rows_of (Row_at h5)
  exact ⟨A, n, c, L, rfl, h1, h2, h4, hL⟩
theorem ents_conf {H : Type} {enc : TypeId × Value → H} {w : World} {v : Value} (h : Conf enc Try.prog w (.slice 40) v) : ∃ A n c L, v = .slice A n c ∧ n ≤ c ∧ c ≤ maxLen ∧ (A = none → n = 0 ∧ c = 0) ∧ EtReads w A n L := by
  obtain ⟨fuel, d, ps, ht, hlt, hwt⟩ := h
  obtain ⟨A, n, c, rfl, h1, h2, h3, h4, h5⟩ := open_list 6 Try.underlying40 ht hlt hwt (by rw [leaves_Entry]; rfl) (by rw [leaves_Entry, cells_Entry]; rfl)
  obtain ⟨L, hL⟩ := ents_of (Entry_at h5)
  exact ⟨A, n, c, L, rfl, h1, h2, h4, hL⟩

theorem row_info : (Try.prog.info? 97).map (fun i => (i.zero, i.size, i.bytes)) = some (some (.agg #[.string nilS, .string nilS]), 2, 32) := by kernel_rfl
theorem entry_info : (Try.prog.info? 99).map (fun i => (i.zero, i.size, i.bytes)) = some (some (.agg #[.string nilS, .int .i64 0]), 2, 24) := by kernel_rfl

/-- A record whose slices are rows of the call's own. -/
structure RecOwn (w : World) (base : Nat) (R : Rc) (vr ve : Value) : Prop where
  r : w.ownsRow base 97 2 vr R.rows.length (rwFlat R.rows)
  e : w.ownsRow base 99 2 ve R.ents.length (etFlat R.ents)
theorem RecOwn.keep {w w' : World} {base : Nat} {R : Rc} {vr ve : Value} (h : RecOwn w base R vr ve) (hf : Fr none_ w w') : RecOwn w' base R vr ve := ⟨own_none h.r hf, own_none h.e hf⟩
theorem RecOwn.base {w : World} {b b' : Nat} {R : Rc} {vr ve : Value} (h : RecOwn w b R vr ve) (hb : b' ≤ b) : RecOwn w b' R vr ve := ⟨own_base h.r hb, own_base h.e hb⟩
theorem RecOwn.fr {w w' : World} {S : Nat → Prop} {base : Nat} {R : Rc} {vr ve : Value} (h : RecOwn w base R vr ve) (hf : Fr S w w') (hr : ∀ k, vr.ownBlock = some k → ¬ S k) (he : ∀ k, ve.ownBlock = some k → ¬ S k) : RecOwn w' base R vr ve := ⟨own_fr h.r hf hr, own_fr h.e hf he⟩
/-- .. kept where a block of another type was turned. -/
theorem RecOwn.only {w w' : World} {base g : Nat} {R : Rc} {vr ve : Value} {t : TypeId} {cs : Array Value} (h : RecOwn w base R vr ve) (hf : Fr (only g) w w') (hg : Blk w g t cs) (h1 : 97 ≠ t) (h2 : 99 ≠ t) : RecOwn w' base R vr ve :=
  h.fr hf (fun k hk e => own_blk_ne h.r hg h1 (by rw [hk, show k = g from e])) (fun k hk e => own_blk_ne h.e hg h2 (by rw [hk, show k = g from e]))
theorem RecOwn.zero (w : World) (base : Nat) : RecOwn w base Rc.zero (.slice none 0 0) (.slice none 0 0) := ⟨World.ownsRow_nil _ _ _ _, World.ownsRow_nil _ _ _ _⟩
theorem box15 {w1 : World} {b : Nat} {t : TypeId} {c0 c1 c2 c3 c4 c5 c6 c7 c8 c9 c10 c11 c12 c13 c14 : Value} (h : Blk w1 b t #[c0, c1, c2, c3, c4, c5, c6, c7, c8, c9, c10, c11, c12, c13, c14]) (x0 x1 x2 x3 x4 x5 x6 x7 x8 x9 x10 x11 x12 x13 x14 : Value) :
    Blk (((((((((((((((w1.setCell ⟨b, 0, none⟩ x0).setCell ⟨b, 1, none⟩ x1).setCell ⟨b, 2, none⟩ x2).setCell ⟨b, 3, none⟩ x3).setCell ⟨b, 4, none⟩ x4).setCell ⟨b, 5, none⟩ x5).setCell ⟨b, 6, none⟩ x6).setCell ⟨b, 7, none⟩ x7).setCell ⟨b, 8, none⟩ x8).setCell ⟨b, 9, none⟩ x9).setCell ⟨b, 10, none⟩ x10).setCell ⟨b, 11, none⟩ x11).setCell ⟨b, 12, none⟩ x12).setCell ⟨b, 13, none⟩ x13).setCell ⟨b, 14, none⟩ x14) b t #[x0, x1, x2, x3, x4, x5, x6, x7, x8, x9, x10, x11, x12, x13, x14] ∧ Fr (only b) w1 (((((((((((((((w1.setCell ⟨b, 0, none⟩ x0).setCell ⟨b, 1, none⟩ x1).setCell ⟨b, 2, none⟩ x2).setCell ⟨b, 3, none⟩ x3).setCell ⟨b, 4, none⟩ x4).setCell ⟨b, 5, none⟩ x5).setCell ⟨b, 6, none⟩ x6).setCell ⟨b, 7, none⟩ x7).setCell ⟨b, 8, none⟩ x8).setCell ⟨b, 9, none⟩ x9).setCell ⟨b, 10, none⟩ x10).setCell ⟨b, 11, none⟩ x11).setCell ⟨b, 12, none⟩ x12).setCell ⟨b, 13, none⟩ x13).setCell ⟨b, 14, none⟩ x14) := by
  refine ⟨?_, ((((((((((((((((Fr.refl (only b) w1).setCell (p := ⟨b, 0, none⟩) (.inl (Eq.refl _)) x0).setCell (p := ⟨b, 1, none⟩) (.inl (Eq.refl _)) x1).setCell (p := ⟨b, 2, none⟩) (.inl (Eq.refl _)) x2).setCell (p := ⟨b, 3, none⟩) (.inl (Eq.refl _)) x3).setCell (p := ⟨b, 4, none⟩) (.inl (Eq.refl _)) x4).setCell (p := ⟨b, 5, none⟩) (.inl (Eq.refl _)) x5).setCell (p := ⟨b, 6, none⟩) (.inl (Eq.refl _)) x6).setCell (p := ⟨b, 7, none⟩) (.inl (Eq.refl _)) x7).setCell (p := ⟨b, 8, none⟩) (.inl (Eq.refl _)) x8).setCell (p := ⟨b, 9, none⟩) (.inl (Eq.refl _)) x9).setCell (p := ⟨b, 10, none⟩) (.inl (Eq.refl _)) x10).setCell (p := ⟨b, 11, none⟩) (.inl (Eq.refl _)) x11).setCell (p := ⟨b, 12, none⟩) (.inl (Eq.refl _)) x12).setCell (p := ⟨b, 13, none⟩) (.inl (Eq.refl _)) x13).setCell (p := ⟨b, 14, none⟩) (.inl (Eq.refl _)) x14)⟩
  have e := (((((((((((((((h.set_ 0 x0).set_ 1 x1).set_ 2 x2).set_ 3 x3).set_ 4 x4).set_ 5 x5).set_ 6 x6).set_ 7 x7).set_ 8 x8).set_ 9 x9).set_ 10 x10).set_ 11 x11).set_ 12 x12).set_ 13 x13).set_ 14 x14)
  simp only [List.setIfInBounds_toArray, List.set_cons_zero, List.set_cons_succ] at e
  exact e
end Go.Proofs.Ythcpccddcgbanaa

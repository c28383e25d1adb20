/- ArenaClones' walk. Written by gen_clones4.py. -/
import Derived.Test.YtbmnphigfkiaeaaArAwake
import Derived.Laws.OwnMore
namespace Go.Proofs.Ytbmnphigfkiaeaa
open Go.RowKit Go.ChangeShapes Go.WideShapes
set_option maxRecDepth 100000
set_option linter.unusedVariables false

theorem rwFlat_set : ∀ (L : List Rw) (k : Nat) (p : Rw) (t : ByteArray), L[k]? = some p → rwFlat (L.set k (p.1, t)) = (rwFlat L).set (k * 2 + 1) (.string t)
  | [], k, p, t, h => by simp at h
  | q :: L, 0, p, t, h => by
    obtain rfl : q = p := by simpa using h
    simp [rwFlat, rwCells]
  | q :: L, k + 1, p, t, h => by
    have := rwFlat_set L k p t (by simpa using h)
    rw [show (k + 1) * 2 + 1 = (k * 2 + 1) + 1 + 1 by omega]
    simpa [rwFlat, rwCells] using this
theorem etFlat_set : ∀ (L : List Et) (k : Nat) (p : Et) (t : Int), L[k]? = some p → etFlat (L.set k (p.1, t)) = (etFlat L).set (k * 2 + 1) (.int .i64 t)
  | [], k, p, t, h => by simp at h
  | q :: L, 0, p, t, h => by
    obtain rfl : q = p := by simpa using h
    simp [etFlat, etCells]
  | q :: L, k + 1, p, t, h => by
    have := etFlat_set L k p t (by simpa using h)
    rw [show (k + 1) * 2 + 1 = (k * 2 + 1) + 1 + 1 by omega]
    simpa [etFlat, etCells] using this

/-- The clone that is written into (rows L, entries M), the one that is not, and the record itself. -/
structure Cl4 (w wr : World) (R : Rc) (T3 T4 lo : Nat) (v2 u2 v4 u4 vr ve : Value) (L : List Rw) (M : List Et) : Prop where
  r : wr.ownsRow w.heap.size 34 2 v2 L.length (rwFlat L)
  e : wr.ownsRow w.heap.size 36 2 u2 M.length (etFlat M)
  was : RecOwn wr lo R v4 u4
  b3 : Blk wr T3 29 (recA R v2 u2)
  b4 : Blk wr T4 29 (recA R v4 u4)
  b0 : Blk wr w.heap.size 29 (recA R vr ve)
  fr : Fr none_ w wr
  lr : ∀ g, v2.ownBlock = some g → g < lo
  le : ∀ g, u2.ownBlock = some g → g < lo
section
variable {w wr w2 : World} {R : Rc} {T3 T4 lo : Nat} {v2 u2 v4 u4 vr ve : Value} {L : List Rw} {M : List Et}
theorem Cl4.keep (h : Cl4 w wr R T3 T4 lo v2 u2 v4 u4 vr ve L M) (hf : Fr none_ wr w2) : Cl4 w w2 R T3 T4 lo v2 u2 v4 u4 vr ve L M :=
  ⟨own_none h.r hf, own_none h.e hf, h.was.keep hf, h.b3.fr hf id, h.b4.fr hf id, h.b0.fr hf id, h.fr.then_none hf, h.lr, h.le⟩
theorem Cl4.putR {g n c2 : Nat} {k : Nat} {p : Rw} (h : Cl4 w wr R T3 T4 lo (.slice (some ⟨g, 0, none⟩) n c2) u2 v4 u4 vr ve L M) (hn : L.length = n) (hp : L[k]? = some p) (t : ByteArray) :
    Cl4 w (wr.setCell ⟨g, k * 2 + 1, none⟩ (.string t)) R T3 T4 lo (.slice (some ⟨g, 0, none⟩) n c2) u2 v4 u4 vr ve (L.set k (p.1, t)) M := by
  subst hn
  have hf := Fr.only1 wr ⟨g, k * 2 + 1, none⟩ (.string t)
  have hg := h.r.lt g rfl
  have hlo := h.lr g rfl
  have hr := (h.r.stored (k * 2 + 1) (.string t)).1
  rw [← rwFlat_set L k p t hp] at hr
  have hb : ∀ {b : Nat} {cs : Array Value}, Blk wr b 29 cs → b ≠ g := fun hB e => own_blk_ne h.r hB (by decide) (by rw [e]; rfl)
  refine ⟨by rw [List.length_set]; exact hr, own_fr h.e hf (fun j hj e => own_own_ne h.e h.r (by decide) j hj (by rw [show j = g from e]; rfl)), ⟨own_fr h.was.r hf (fun j hj e => ?_), own_fr h.was.e hf (fun j hj e => own_own_ne h.was.e h.r (by decide) j hj (by rw [show j = g from e]; rfl))⟩, h.b3.fr hf (only_ne (hb h.b3)), h.b4.fr hf (only_ne (hb h.b4)), h.b0.fr hf (only_ne (hb h.b0)), h.fr.then_only hf (.inr hg.1), h.lr, h.le⟩
  have h1 := (h.was.r.lt j hj).1
  have h2 : j = g := e
  omega
theorem Cl4.putE {g m d2 : Nat} {k : Nat} {p : Et} (h : Cl4 w wr R T3 T4 lo v2 (.slice (some ⟨g, 0, none⟩) m d2) v4 u4 vr ve L M) (hn : M.length = m) (hp : M[k]? = some p) (t : Int) :
    Cl4 w (wr.setCell ⟨g, k * 2 + 1, none⟩ (.int .i64 t)) R T3 T4 lo v2 (.slice (some ⟨g, 0, none⟩) m d2) v4 u4 vr ve L (M.set k (p.1, t)) := by
  subst hn
  have hf := Fr.only1 wr ⟨g, k * 2 + 1, none⟩ (.int .i64 t)
  have hg := h.e.lt g rfl
  have hlo := h.le g rfl
  have hr := (h.e.stored (k * 2 + 1) (.int .i64 t)).1
  rw [← etFlat_set M k p t hp] at hr
  have hb : ∀ {b : Nat} {cs : Array Value}, Blk wr b 29 cs → b ≠ g := fun hB e => own_blk_ne h.e hB (by decide) (by rw [e]; rfl)
  refine ⟨own_fr h.r hf (fun j hj e => own_own_ne h.r h.e (by decide) j hj (by rw [show j = g from e]; rfl)), by rw [List.length_set]; exact hr, ⟨own_fr h.was.r hf (fun j hj e => own_own_ne h.was.r h.e (by decide) j hj (by rw [show j = g from e]; rfl)), own_fr h.was.e hf (fun j hj e => ?_)⟩, h.b3.fr hf (only_ne (hb h.b3)), h.b4.fr hf (only_ne (hb h.b4)), h.b0.fr hf (only_ne (hb h.b0)), h.fr.then_only hf (.inr hg.1), h.lr, h.le⟩
  have h1 := (h.was.e.lt j hj).1
  have h2 : j = g := e
  omega
end
/-- An element of a row that is owned: where it lies. -/
theorem own_rw {wr : World} {base n c : Nat} {A : Option Addr} {L : List Rw} (h : wr.ownsRow base 34 2 (.slice A n c) L.length (rwFlat L)) (hn : L.length = n) {k : Nat} {p : Rw} (hp : L[k]? = some p) : ∃ g, A = some ⟨g, 0, none⟩ ∧ wr.cell? ⟨g, k * 2 + 1, none⟩ = some (.string p.2) ∧ wr.frozen? ⟨g, k * 2 + 1, none⟩ = false := by
  subst hn
  obtain ⟨A', c', hv, _, _, hp'⟩ := own_parts h
  obtain ⟨g, hA, _, hc⟩ := hp' (by have := (List.getElem?_eq_some_iff.1 hp).1; omega)
  have hA' : A = some ⟨g, 0, none⟩ := by injection hv with h1; rw [h1, hA]
  subst hA'
  exact ⟨g, rfl, hc _ _ (rwFlat_get L k p hp).2, h.frozenAt _⟩
theorem own_et {wr : World} {base n c : Nat} {A : Option Addr} {L : List Et} (h : wr.ownsRow base 36 2 (.slice A n c) L.length (etFlat L)) (hn : L.length = n) {k : Nat} {p : Et} (hp : L[k]? = some p) : ∃ g, A = some ⟨g, 0, none⟩ ∧ wr.cell? ⟨g, k * 2 + 1, none⟩ = some (.int .i64 p.2) ∧ wr.frozen? ⟨g, k * 2 + 1, none⟩ = false := by
  subst hn
  obtain ⟨A', c', hv, _, _, hp'⟩ := own_parts h
  obtain ⟨g, hA, _, hc⟩ := hp' (by have := (List.getElem?_eq_some_iff.1 hp).1; omega)
  have hA' : A = some ⟨g, 0, none⟩ := by injection hv with h1; rw [h1, hA]
  subst hA'
  exact ⟨g, rfl, hc _ _ (etFlat_get L k p hp).2, h.frozenAt _⟩

set_option maxHeartbeats 4000000 in
theorem clones4_walk (R : Rc) (A : Option Addr) (c : Nat) (B : Option Addr) (d : Nat) (w : World) (h : RecReads w R A B) (hs : ∀ (j : Nat) (p : Rw), R.rows[j]? = some p → p.2.size ≤ 9223372036854775000) :
    Calls Try.prog 3 #[.agg #[.int .i64 R.kind, .string R.low, .string R.high, .bool R.unb, .int .i64 R.right, .slice A R.rows.length c, .slice B R.ents.length d, .string R.key, .string R.val, .int .i64 R.page, .int .i64 R.hpage, .int .i64 R.hleft, .string R.hkey, .int .i64 R.nslot, .int .i64 R.ngen]] w fun e w' => e = .returned (.bool true) ∧ Fr none_ w w' := by
  have H := hid_ h
  have HS := hid_ hs
  clear h hs
  obtain ⟨w0, hw0⟩ : ∃ w0, w0 = w.alloc (recB R (.slice A R.rows.length c) (.slice B R.ents.length d)) := ⟨_, rfl⟩
  have F0 : Hid (Fr none_ w w0) := hid_ (by rw [hw0]; exact (Fr.refl none_ w).alloc _)
  have D0 : Hid (Blk w0 w.heap.size 29 (recA R (.slice A R.rows.length c) (.slice B R.ents.length d))) := hid_ (by rw [hw0]; exact Blk.new w _ _)
  by_cases h1 : 60 < (R.rows.length : Int)
  · go_enter Try.func3, Try.ntmps3
    go_wp2_with fail
    refine (awake4 _).mono ?_
    rintro e w1 ⟨rfl, hf1⟩
    go_wp2
    go_ret
    exact ⟨rfl, ((Fr.refl none_ w).alloc _).then_none hf1⟩
  by_cases h2 : 60 < (R.ents.length : Int)
  · go_enter Try.func3, Try.ntmps3
    go_wp2_with fail
    refine (awake4 _).mono ?_
    rintro e w1 ⟨rfl, hf1⟩
    go_wp2
    go_ret
    exact ⟨rfl, ((Fr.refl none_ w).alloc _).then_none hf1⟩
  have hz : R.rows.length ≤ 1000 ∧ R.ents.length ≤ 1000 := by omega
  go_enter Try.func3, Try.ntmps3
  go_wp2_with fail
  refine (clone_ok R A c B d _ (H.out.keep ((Fr.refl none_ w).alloc _)) hz.1 hz.2).mono ?_
  rw [← hw0]
  clear hw0
  rintro e w1 ⟨A2, c2, B2, d2, rfl, ho1, hf1⟩
  have O1 := hid_ (ho1.base F0.out.size)
  have D1 := hid_ (D0.out.fr hf1 id)
  have F1 := hid_ (F0.out.then_none hf1)
  have lr := D1.out.lt
  clear ho1 hf1 F0 D0
  have r0 : w1.cell? ⟨w.heap.size, 0, none⟩ = some (.int .i64 R.kind) := D1.out.cell' rfl
  have r1 : w1.cell? ⟨w.heap.size, 1, none⟩ = some (.string R.low) := D1.out.cell' rfl
  have r2 : w1.cell? ⟨w.heap.size, 2, none⟩ = some (.string R.high) := D1.out.cell' rfl
  have r3 : w1.cell? ⟨w.heap.size, 3, none⟩ = some (.bool R.unb) := D1.out.cell' rfl
  have r4 : w1.cell? ⟨w.heap.size, 4, none⟩ = some (.int .i64 R.right) := D1.out.cell' rfl
  have r5 : w1.cell? ⟨w.heap.size, 5, none⟩ = some (.slice A R.rows.length c) := D1.out.cell' rfl
  have r6 : w1.cell? ⟨w.heap.size, 6, none⟩ = some (.slice B R.ents.length d) := D1.out.cell' rfl
  have r7 : w1.cell? ⟨w.heap.size, 7, none⟩ = some (.string R.key) := D1.out.cell' rfl
  have r8 : w1.cell? ⟨w.heap.size, 8, none⟩ = some (.string R.val) := D1.out.cell' rfl
  have r9 : w1.cell? ⟨w.heap.size, 9, none⟩ = some (.int .i64 R.page) := D1.out.cell' rfl
  have r10 : w1.cell? ⟨w.heap.size, 10, none⟩ = some (.int .i64 R.hpage) := D1.out.cell' rfl
  have r11 : w1.cell? ⟨w.heap.size, 11, none⟩ = some (.int .i64 R.hleft) := D1.out.cell' rfl
  have r12 : w1.cell? ⟨w.heap.size, 12, none⟩ = some (.string R.hkey) := D1.out.cell' rfl
  have r13 : w1.cell? ⟨w.heap.size, 13, none⟩ = some (.int .i64 R.nslot) := D1.out.cell' rfl
  have r14 : w1.cell? ⟨w.heap.size, 14, none⟩ = some (.int .i64 R.ngen) := D1.out.cell' rfl
  go_wp2_with fail
  refine (same4_ok R A2 c2 B2 d2 A c B d _ (O1.out.keep ((Fr.refl none_ w1).alloc _)).reads (H.out.keep (F1.out.alloc _)) hz.1 hz.2).mono ?_
  rintro e w3 ⟨rfl, hf3⟩
  have T3 := hid_ ((Blk.new w1 29 (recA R (.slice A2 R.rows.length c2) (.slice B2 R.ents.length d2))).fr hf3 id)
  have D3 := hid_ ((D1.out.alloc (recB R (.slice A2 R.rows.length c2) (.slice B2 R.ents.length d2))).fr hf3 id)
  have F3 := hid_ ((F1.out.alloc (recB R (.slice A2 R.rows.length c2) (.slice B2 R.ents.length d2))).then_none hf3)
  have O3 := hid_ ((O1.out.keep ((Fr.refl none_ w1).alloc (recB R (.slice A2 R.rows.length c2) (.slice B2 R.ents.length d2)))).keep hf3)
  clear hf3 lr r0 r1 r2 r3 r4 r5 r6 r7 r8 r9 r10 r11 r12 r13 r14
  have s0 : w3.cell? ⟨w1.heap.size, 0, none⟩ = some (.int .i64 R.kind) := T3.out.cell' rfl
  have s1 : w3.cell? ⟨w1.heap.size, 1, none⟩ = some (.string R.low) := T3.out.cell' rfl
  have s2 : w3.cell? ⟨w1.heap.size, 2, none⟩ = some (.string R.high) := T3.out.cell' rfl
  have s3 : w3.cell? ⟨w1.heap.size, 3, none⟩ = some (.bool R.unb) := T3.out.cell' rfl
  have s4 : w3.cell? ⟨w1.heap.size, 4, none⟩ = some (.int .i64 R.right) := T3.out.cell' rfl
  have s5 : w3.cell? ⟨w1.heap.size, 5, none⟩ = some (.slice A2 R.rows.length c2) := T3.out.cell' rfl
  have s6 : w3.cell? ⟨w1.heap.size, 6, none⟩ = some (.slice B2 R.ents.length d2) := T3.out.cell' rfl
  have s7 : w3.cell? ⟨w1.heap.size, 7, none⟩ = some (.string R.key) := T3.out.cell' rfl
  have s8 : w3.cell? ⟨w1.heap.size, 8, none⟩ = some (.string R.val) := T3.out.cell' rfl
  have s9 : w3.cell? ⟨w1.heap.size, 9, none⟩ = some (.int .i64 R.page) := T3.out.cell' rfl
  have s10 : w3.cell? ⟨w1.heap.size, 10, none⟩ = some (.int .i64 R.hpage) := T3.out.cell' rfl
  have s11 : w3.cell? ⟨w1.heap.size, 11, none⟩ = some (.int .i64 R.hleft) := T3.out.cell' rfl
  have s12 : w3.cell? ⟨w1.heap.size, 12, none⟩ = some (.string R.hkey) := T3.out.cell' rfl
  have s13 : w3.cell? ⟨w1.heap.size, 13, none⟩ = some (.int .i64 R.nslot) := T3.out.cell' rfl
  have s14 : w3.cell? ⟨w1.heap.size, 14, none⟩ = some (.int .i64 R.ngen) := T3.out.cell' rfl
  go_wp2_with fail
  refine (clone_ok R A2 c2 B2 d2 _ O3.out.reads hz.1 hz.2).mono ?_
  rintro e w4 ⟨A4, c4, B4, d4, rfl, ho4, hf4⟩
  obtain ⟨w5, hw5⟩ : ∃ w5, w5 = w4.alloc (recB R (.slice A4 R.rows.length c4) (.slice B4 R.ents.length d4)) := ⟨_, rfl⟩
  have hf5 : Fr none_ w4 w5 := by rw [hw5]; exact (Fr.refl none_ w4).alloc _
  have C5 : Hid (Cl4 w w5 R w1.heap.size w4.heap.size w3.heap.size (.slice A2 R.rows.length c2) (.slice B2 R.ents.length d2) (.slice A4 R.rows.length c4) (.slice B4 R.ents.length d4) (.slice A R.rows.length c) (.slice B R.ents.length d) R.rows R.ents) :=
    hid_ ⟨own_none (own_none O3.out.r hf4) hf5, own_none (own_none O3.out.e hf4) hf5, ho4.keep hf5, (T3.out.fr hf4 id).fr hf5 id, by rw [hw5]; exact Blk.new w4 _ _, (D3.out.fr hf4 id).fr hf5 id, (F3.out.then_none hf4).then_none hf5, fun g hg => (O3.out.r.lt g hg).2, fun g hg => (O3.out.e.lt g hg).2⟩
  have T4 := T3.out.fr hf4 id
  have l4 := T4.lt
  clear ho4 hf4 hf5 s0 s1 s2 s3 s4 s5 s6 s7 s8 s9 s10 s11 s12 s13 s14
  have s5 : w4.cell? ⟨w1.heap.size, 5, none⟩ = some (.slice A2 R.rows.length c2) := T4.cell' rfl
  clear T4
  go_wp2_with fail
  change Code.wp _ _ _ _ (w4.alloc (recB R (.slice A4 R.rows.length c4) (.slice B4 R.ents.length d4)))
  rw [← hw5]
  clear hw5 s5 l4 T3 D3 F3 O3 O1 D1 F1
  go_loopw [29] (fun i wr => ∃ (k : Nat) (L : List Rw), k ≤ R.rows.length ∧ i = .int .i64 k ∧ L.length = R.rows.length ∧ (∀ (j : Nat) (p : Rw), k ≤ j → L[j]? = some p → p.2.size ≤ 9223372036854775000) ∧ Cl4 w wr R w1.heap.size w4.heap.size w3.heap.size (.slice A2 R.rows.length c2) (.slice B2 R.ents.length d2) (.slice A4 R.rows.length c4) (.slice B4 R.ents.length d4) (.slice A R.rows.length c) (.slice B R.ents.length d) L R.ents) (fun i _ => R.rows.length - (intOf i).toNat)
  case atStart => exact ⟨0, R.rows, Nat.zero_le _, rfl, rfl, fun j p _ hp => HS.out j p hp, C5.out⟩
  case round =>
    obtain ⟨k, L, hk, rfl, hL, hsz, hC⟩ := hrel
    have C := hid_ hC
    have HL := hid_ hsz
    clear hC hsz
    by_cases hlt : k < R.rows.length
    · obtain ⟨p, hp⟩ : ∃ p, L[k]? = some p := ⟨_, List.getElem?_eq_getElem (by omega)⟩
      obtain ⟨g, rfl, g1, g2⟩ := own_rw C.out.r hL hp
      have x5 : wr.cell? ⟨w1.heap.size, 5, none⟩ = some (.slice (some ⟨g, 0, none⟩) R.rows.length c2) := C.out.b3.cell' rfl
      have hi0 : (0 : Int) ≤ (k : Int) := Int.natCast_nonneg _
      have hi1 : (k : Int) < (R.rows.length : Int) := by omega
      have hcat : ((p.2.size : Int) + ((⟨#[120]⟩ : ByteArray).size : Int)) ≤ 9223372036854775807 := by have := HL.out k p (Nat.le_refl _) hp; have e : (⟨#[120]⟩ : ByteArray).size = 1 := rfl; rw [e]; omega
      have hcatn : p.2.size + (⟨#[120]⟩ : ByteArray).size ≤ 9223372036854775807 := by omega
      have hadd := fun w : World => run_string_add_sum (P := Try.prog) w p.2 ⟨#[120]⟩ hcatn
      have CP := hid_ (C.out.putR hL hp (p.2 ++ ⟨#[120]⟩))
      have Hp := hid_ hp
      have hpl : L.length = R.rows.length := hL
      clear hp
      go_wp2_with fail
      go_roundw
      case rel => exact ⟨k + 1, _, by omega, by go_num, by rw [List.length_set]; exact hpl, fun j q hj hq => HL.out j q (by omega) (by rw [List.getElem?_set_ne (by omega)] at hq; exact hq), CP.out⟩
      case measure => simp [intOf]; omega
    · obtain rfl : k = R.rows.length := by omega
      have x6 : wr.cell? ⟨w1.heap.size, 6, none⟩ = some (.slice B2 R.ents.length d2) := C.out.b3.cell' rfl
      go_wp2_with fail
      clear x6
      go_loopw [45] (fun i wx => ∃ (k : Nat) (M : List Et), k ≤ R.ents.length ∧ i = .int .i64 k ∧ M.length = R.ents.length ∧ Cl4 w wx R w1.heap.size w4.heap.size w3.heap.size (.slice A2 R.rows.length c2) (.slice B2 R.ents.length d2) (.slice A4 R.rows.length c4) (.slice B4 R.ents.length d4) (.slice A R.rows.length c) (.slice B R.ents.length d) L M) (fun i _ => R.ents.length - (intOf i).toNat)
      case atStart => exact ⟨0, R.ents, Nat.zero_le _, rfl, rfl, C.out⟩
      case round =>
        obtain ⟨k, M, hk, rfl, hM, hC⟩ := hrel
        obtain ⟨wx, rfl⟩ : ∃ wx : World, wx = wr := ⟨_, rfl⟩
        have C2 := hid_ hC
        clear hC
        by_cases hlt : k < R.ents.length
        · obtain ⟨p, hp⟩ : ∃ p, M[k]? = some p := ⟨_, List.getElem?_eq_getElem (by omega)⟩
          obtain ⟨g, rfl, g1, g2⟩ := own_et C2.out.e hM hp
          have x6 : wx.cell? ⟨w1.heap.size, 6, none⟩ = some (.slice (some ⟨g, 0, none⟩) R.ents.length d2) := C2.out.b3.cell' rfl
          have hi0 : (0 : Int) ≤ (k : Int) := Int.natCast_nonneg _
          have hi1 : (k : Int) < (R.ents.length : Int) := by omega
          have CP := hid_ (C2.out.putE hM hp (wrap64 (p.2 + 1)))
          have hpl : M.length = R.ents.length := hM
          clear hp
          go_wp2_with fail
          go_roundw
          case rel => exact ⟨k + 1, _, by omega, by go_num, by rw [List.length_set]; exact hpl, CP.out⟩
          case measure => simp [intOf]; omega
        · obtain rfl : k = R.ents.length := by omega
          have y0 := C2.out.b0.lt
          have r0 : wx.cell? ⟨w.heap.size, 0, none⟩ = some (.int .i64 R.kind) := C2.out.b0.cell' rfl
          have r1 : wx.cell? ⟨w.heap.size, 1, none⟩ = some (.string R.low) := C2.out.b0.cell' rfl
          have r2 : wx.cell? ⟨w.heap.size, 2, none⟩ = some (.string R.high) := C2.out.b0.cell' rfl
          have r3 : wx.cell? ⟨w.heap.size, 3, none⟩ = some (.bool R.unb) := C2.out.b0.cell' rfl
          have r4 : wx.cell? ⟨w.heap.size, 4, none⟩ = some (.int .i64 R.right) := C2.out.b0.cell' rfl
          have r5 : wx.cell? ⟨w.heap.size, 5, none⟩ = some (.slice A R.rows.length c) := C2.out.b0.cell' rfl
          have r6 : wx.cell? ⟨w.heap.size, 6, none⟩ = some (.slice B R.ents.length d) := C2.out.b0.cell' rfl
          have r7 : wx.cell? ⟨w.heap.size, 7, none⟩ = some (.string R.key) := C2.out.b0.cell' rfl
          have r8 : wx.cell? ⟨w.heap.size, 8, none⟩ = some (.string R.val) := C2.out.b0.cell' rfl
          have r9 : wx.cell? ⟨w.heap.size, 9, none⟩ = some (.int .i64 R.page) := C2.out.b0.cell' rfl
          have r10 : wx.cell? ⟨w.heap.size, 10, none⟩ = some (.int .i64 R.hpage) := C2.out.b0.cell' rfl
          have r11 : wx.cell? ⟨w.heap.size, 11, none⟩ = some (.int .i64 R.hleft) := C2.out.b0.cell' rfl
          have r12 : wx.cell? ⟨w.heap.size, 12, none⟩ = some (.string R.hkey) := C2.out.b0.cell' rfl
          have r13 : wx.cell? ⟨w.heap.size, 13, none⟩ = some (.int .i64 R.nslot) := C2.out.b0.cell' rfl
          have r14 : wx.cell? ⟨w.heap.size, 14, none⟩ = some (.int .i64 R.ngen) := C2.out.b0.cell' rfl
          have s0 : wx.cell? ⟨w4.heap.size, 0, none⟩ = some (.int .i64 R.kind) := C2.out.b4.cell' rfl
          have s1 : wx.cell? ⟨w4.heap.size, 1, none⟩ = some (.string R.low) := C2.out.b4.cell' rfl
          have s2 : wx.cell? ⟨w4.heap.size, 2, none⟩ = some (.string R.high) := C2.out.b4.cell' rfl
          have s3 : wx.cell? ⟨w4.heap.size, 3, none⟩ = some (.bool R.unb) := C2.out.b4.cell' rfl
          have s4 : wx.cell? ⟨w4.heap.size, 4, none⟩ = some (.int .i64 R.right) := C2.out.b4.cell' rfl
          have s5 : wx.cell? ⟨w4.heap.size, 5, none⟩ = some (.slice A4 R.rows.length c4) := C2.out.b4.cell' rfl
          have s6 : wx.cell? ⟨w4.heap.size, 6, none⟩ = some (.slice B4 R.ents.length d4) := C2.out.b4.cell' rfl
          have s7 : wx.cell? ⟨w4.heap.size, 7, none⟩ = some (.string R.key) := C2.out.b4.cell' rfl
          have s8 : wx.cell? ⟨w4.heap.size, 8, none⟩ = some (.string R.val) := C2.out.b4.cell' rfl
          have s9 : wx.cell? ⟨w4.heap.size, 9, none⟩ = some (.int .i64 R.page) := C2.out.b4.cell' rfl
          have s10 : wx.cell? ⟨w4.heap.size, 10, none⟩ = some (.int .i64 R.hpage) := C2.out.b4.cell' rfl
          have s11 : wx.cell? ⟨w4.heap.size, 11, none⟩ = some (.int .i64 R.hleft) := C2.out.b4.cell' rfl
          have s12 : wx.cell? ⟨w4.heap.size, 12, none⟩ = some (.string R.hkey) := C2.out.b4.cell' rfl
          have s13 : wx.cell? ⟨w4.heap.size, 13, none⟩ = some (.int .i64 R.nslot) := C2.out.b4.cell' rfl
          have s14 : wx.cell? ⟨w4.heap.size, 14, none⟩ = some (.int .i64 R.ngen) := C2.out.b4.cell' rfl
          go_wp2_with fail
          refine (same4_ok R A4 c4 B4 d4 A c B d _ C2.out.was.reads (H.out.keep C2.out.fr) hz.1 hz.2).mono ?_
          rintro e w6 ⟨rfl, hf6⟩
          have F6 := hid_ (C2.out.fr.then_none hf6)
          clear hf6 r0 r1 r2 r3 r4 r5 r6 r7 r8 r9 r10 r11 r12 r13 r14 s0 s1 s2 s3 s4 s5 s6 s7 s8 s9 s10 s11 s12 s13 s14
          go_wp2_with fail
          refine (awake4 _).mono ?_
          rintro e w7 ⟨rfl, hf7⟩
          go_wp2
          go_ret
          exact ⟨rfl, F6.out.then_none hf7⟩
theorem clones4_walk_i {H : Type} {enc : TypeId × Value → H} (x0 : Int) (x1 : ByteArray) (x2 : ByteArray) (x3 : Bool) (x4 : Int) (vr : Value) (ve : Value) (x7 : ByteArray) (x8 : ByteArray) (x9 : Int) (x10 : Int) (x11 : Int) (x12 : ByteArray) (x13 : Int) (x14 : Int) (w : World) (w0 : (Lit.int .i64 x0).wf = true) (w1 : x1.size ≤ reachBytes) (w2 : x2.size ≤ reachBytes) (w4 : (Lit.int .i64 x4).wf = true) (hA : Conf enc Try.prog w (.slice 22) vr) (hB : Conf enc Try.prog w (.slice 23) ve) (w7 : x7.size ≤ reachBytes) (w8 : x8.size ≤ reachBytes) (w9 : (Lit.int .i64 x9).wf = true) (w10 : (Lit.int .i64 x10).wf = true) (w11 : (Lit.int .i64 x11).wf = true) (w12 : x12.size ≤ reachBytes) (w13 : (Lit.int .i64 x13).wf = true) (w14 : (Lit.int .i64 x14).wf = true) :
    Calls Try.prog 3 #[.agg #[.int .i64 x0, .string x1, .string x2, .bool x3, .int .i64 x4, vr, ve, .string x7, .string x8, .int .i64 x9, .int .i64 x10, .int .i64 x11, .string x12, .int .i64 x13, .int .i64 x14]] w fun e w' => e = .returned (.bool true) ∧ Fr none_ w w' := by
  obtain ⟨A, n, c, L, rfl, -, -, -, hL⟩ := rows_conf hA
  obtain ⟨B, m, d, M, rfl, -, -, -, hM⟩ := ents_conf hB
  have hs : ∀ (j : Nat) (p : Rw), L[j]? = some p → p.2.size ≤ 9223372036854775000 := fun j p hp => by
    obtain ⟨b, off, _, _, hc⟩ := hL.2 (by have := (List.getElem?_eq_some_iff.1 hp).1; have := hL.1; omega)
    have := (hc j p hp).1.2
    unfold reachBytes at this
    omega
  obtain rfl := hL.1
  obtain rfl := hM.1
  exact clones4_walk ⟨x0, x1, x2, x3, x4, L, M, x7, x8, x9, x10, x11, x12, x13, x14⟩ A c B d w ⟨hL.reads, hM.reads⟩ hs
end Go.Proofs.Ytbmnphigfkiaeaa

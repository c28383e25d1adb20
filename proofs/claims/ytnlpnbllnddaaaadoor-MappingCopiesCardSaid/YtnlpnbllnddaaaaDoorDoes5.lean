/- Layer 5's does: a step in both: they tell the same, and stay in step. -/
import Derived.Test.YtnlpnbllnddaaaaDoorSim5b
namespace Go.Proofs.YtnlpnbllnddaaaaDoor
open Go.RowKit
set_option linter.unusedVariables false

structure DSt (w w' : World) (T G : Nat) (ps : List Pg) (count : Int) (v : Value) (L : List Rp) (verb n : Int) (r : Bool) (a b c d oa ob : Int) : Prop where
  b0 : Blk w' w.heap.size 28 #[.int .i64 count, v]
  b1 : Blk w' (w.heap.size + 1) 34 #[.int .i64 verb, .int .i64 n, .bool r, .int .i64 a, .int .i64 b, .int .i64 c, .int .i64 d]
  b2 : Blk w' (w.heap.size + 1 + 1) 28 #[.int .i64 0, .slice none 0 0]
  b3 : Blk w' (w.heap.size + 1 + 1 + 1) 32 #[.int .i64 oa, .int .i64 ob]
  fr : Fr (only G) w w'
  own : ROwn w' v L
  tb : Tbl w' T G ps
  hG : G < w.heap.size
  la : Laid w'
  h0 : 0 ≠ G

theorem Tbl.blkG {w : World} {T G : Nat} {ps : List Pg} (h : Tbl w T G ps) : ∃ cs, Blk w G 67 cs := by
  obtain ⟨cap, cur, h⟩ := h
  exact ⟨cur, h.hG⟩
theorem rown_G {w w' : World} {T G : Nat} {ps : List Pg} {v : Value} {L : List Rp} (h : ROwn w v L) (ht : Tbl w T G ps) (hf : Fr (only G) w w') : ROwn w' v L := by
  obtain ⟨cs, hb⟩ := ht.blkG
  exact own_fr h hf (fun k hk e => own_blk_ne h hb (by decide) (by rw [hk, show k = G from e]))

section
variable {w w' w2 : World} {T G : Nat} {ps ps' : List Pg} {count : Int} {v : Value} {L : List Rp} {verb n : Int} {r : Bool} {a b c d oa ob : Int}
theorem DSt.keepG (h : DSt w w' T G ps count v L verb n r a b c d oa ob) (hf : Fr (only G) w' w2) (ht : Tbl w2 T G ps') : DSt w w2 T G ps' count v L verb n r a b c d oa ob := by
  have hG := h.hG
  exact ⟨h.b0.fr hf (only_ne (by omega)), h.b1.fr hf (only_ne (by omega)), h.b2.fr hf (only_ne (by omega)), h.b3.fr hf (only_ne (by omega)), h.fr.trans hf (fun _ _ => id) (fun _ _ => id), rown_G h.own h.tb hf, ht, hG, h.la.fr hf (only_ne h.h0), h.h0⟩
theorem DSt.keep (h : DSt w w' T G ps count v L verb n r a b c d oa ob) (hf : Fr none_ w' w2) : DSt w w2 T G ps count v L verb n r a b c d oa ob :=
  h.keepG (hf.mono (fun _ _ e => e.elim)) (h.tb.fr hf id id)
theorem DSt.start (w : World) (T G : Nat) (ps : List Pg) (count : Int) (v : Value) (L : List Rp) (verb n : Int) (r : Bool) (a b c d : Int) (hT : Tbl w T G ps) (ho : ROwn w v L) (hL : Laid w) (h0 : 0 ≠ G)
    (hf : Fr none_ ((((w.alloc (rbox count v)).alloc (.cells #[.int .i64 verb, .int .i64 n, .bool r, .int .i64 a, .int .i64 b, .int .i64 c, .int .i64 d] 34)).alloc (.cells #[.int .i64 0, .slice none 0 0] 28)).alloc (.cells #[.int .i64 oa, .int .i64 ob] 32)) w') :
    DSt w w' T G ps count v L verb n r a b c d oa ob := by
  have F := (((((Fr.refl none_ w).alloc (rbox count v)).alloc (.cells #[.int .i64 verb, .int .i64 n, .bool r, .int .i64 a, .int .i64 b, .int .i64 c, .int .i64 d] 34)).alloc (.cells #[.int .i64 0, .slice none 0 0] 28)).alloc (.cells #[.int .i64 oa, .int .i64 ob] 32)).then_none hf
  have k1 := (Blk.new (w.alloc (rbox count v)) 34 #[.int .i64 verb, .int .i64 n, .bool r, .int .i64 a, .int .i64 b, .int .i64 c, .int .i64 d])
  have k2 := (Blk.new ((w.alloc (rbox count v)).alloc (.cells #[.int .i64 verb, .int .i64 n, .bool r, .int .i64 a, .int .i64 b, .int .i64 c, .int .i64 d] 34)) 28 #[.int .i64 0, .slice none 0 0])
  have k3 := (Blk.new (((w.alloc (rbox count v)).alloc (.cells #[.int .i64 verb, .int .i64 n, .bool r, .int .i64 a, .int .i64 b, .int .i64 c, .int .i64 d] 34)).alloc (.cells #[.int .i64 0, .slice none 0 0] 28)) 32 #[.int .i64 oa, .int .i64 ob])
  simp only [World.size_alloc] at k1 k2 k3
  exact ⟨((((Blk.new w _ _).alloc _).alloc _).alloc _).fr hf id, ((k1.alloc _).alloc _).fr hf id, (k2.alloc _).fr hf id, k3.fr hf id, F.mono (fun _ _ e => e.elim), own_none ho F, hT.fr F id id, hT.lt.2, hL.fr F id, h0⟩
theorem DSt.cells (h : DSt w w' T G ps count v L verb n r a b c d oa ob) :
    (w'.cell? ⟨w.heap.size, 0, none⟩ = some (.int .i64 count) ∧ w'.cell? ⟨w.heap.size, 1, none⟩ = some v) ∧
    (w'.cell? ⟨w.heap.size + 1, 0, none⟩ = some (.int .i64 verb) ∧ w'.cell? ⟨w.heap.size + 1, 1, none⟩ = some (.int .i64 n) ∧ w'.cell? ⟨w.heap.size + 1, 2, none⟩ = some (.bool r) ∧ w'.cell? ⟨w.heap.size + 1, 5, none⟩ = some (.int .i64 c) ∧ w'.cell? ⟨w.heap.size + 1, 6, none⟩ = some (.int .i64 d)) ∧
    (w'.cell? ⟨w.heap.size + 1 + 1, 0, none⟩ = some (.int .i64 0) ∧ w'.cell? ⟨w.heap.size + 1 + 1, 1, none⟩ = some (.slice none 0 0)) ∧
    (w'.cell? ⟨w.heap.size + 1 + 1 + 1, 0, none⟩ = some (.int .i64 oa) ∧ w'.cell? ⟨w.heap.size + 1 + 1 + 1, 1, none⟩ = some (.int .i64 ob)) :=
  ⟨⟨h.b0.cell' rfl, h.b0.cell' rfl⟩, ⟨h.b1.cell' rfl, h.b1.cell' rfl, h.b1.cell' rfl, h.b1.cell' rfl, h.b1.cell' rfl⟩, ⟨h.b2.cell' rfl, h.b2.cell' rfl⟩, h.b3.cell' rfl, h.b3.cell' rfl⟩
theorem DSt.old (h : DSt w w' T G ps count v L verb n r a b c d oa ob) (x y : Int) : DSt w ((w'.setCell ⟨w.heap.size + 1 + 1 + 1, 0, none⟩ (.int .i64 x)).setCell ⟨w.heap.size + 1 + 1 + 1, 1, none⟩ (.int .i64 y)) T G ps count v L verb n r a b c d x y := by
  have hG := h.hG
  have hf : Fr (only (w.heap.size + 1 + 1 + 1)) w' ((w'.setCell ⟨w.heap.size + 1 + 1 + 1, 0, none⟩ (.int .i64 x)).setCell ⟨w.heap.size + 1 + 1 + 1, 1, none⟩ (.int .i64 y)) := ((Fr.refl (only (w.heap.size + 1 + 1 + 1)) w').setCell (p := ⟨w.heap.size + 1 + 1 + 1, 0, none⟩) (.inl (Eq.refl _)) _).setCell (p := ⟨w.heap.size + 1 + 1 + 1, 1, none⟩) (.inl (Eq.refl _)) _
  have hT : T ≠ w.heap.size + 1 + 1 + 1 := by
    obtain ⟨cap, cur, ht⟩ := h.tb
    exact Blk.ne_ ht.hT h.b3 (by decide)
  have h1 := h.la.lt
  have h2 := h.b0.lt
  refine ⟨h.b0.fr hf (only_ne (by omega)), h.b1.fr hf (only_ne (by omega)), h.b2.fr hf (only_ne (by omega)), (h.b3.set_ 0 _).set_ 1 _, h.fr.then_only hf (.inr (by omega)), own_fr h.own hf (fun k hk e => own_blk_ne h.own h.b3 (by decide) (by rw [hk, show k = w.heap.size + 1 + 1 + 1 from e])), h.tb.fr hf (only_ne hT) (only_ne (by omega)), hG, h.la.fr hf (only_ne (by omega)), h.h0⟩
/-- The result's box is written. -/
theorem DSt.done (h : DSt w w' T G ps count v L verb n r a b c d oa ob) (x y : Value) :
    Fr (only G) w ((w'.setCell ⟨w.heap.size + 1 + 1, 0, none⟩ x).setCell ⟨w.heap.size + 1 + 1, 1, none⟩ y) ∧ Tbl ((w'.setCell ⟨w.heap.size + 1 + 1, 0, none⟩ x).setCell ⟨w.heap.size + 1 + 1, 1, none⟩ y) T G ps ∧
    Blk ((w'.setCell ⟨w.heap.size + 1 + 1, 0, none⟩ x).setCell ⟨w.heap.size + 1 + 1, 1, none⟩ y) (w.heap.size + 1 + 1) 28 #[x, y] ∧
    ∀ v' L', ROwn w' v' L' → ROwn ((w'.setCell ⟨w.heap.size + 1 + 1, 0, none⟩ x).setCell ⟨w.heap.size + 1 + 1, 1, none⟩ y) v' L' := by
  have hG := h.hG
  have hf : Fr (only (w.heap.size + 1 + 1)) w' ((w'.setCell ⟨w.heap.size + 1 + 1, 0, none⟩ x).setCell ⟨w.heap.size + 1 + 1, 1, none⟩ y) := ((Fr.refl (only (w.heap.size + 1 + 1)) w').setCell (p := ⟨w.heap.size + 1 + 1, 0, none⟩) (.inl (Eq.refl _)) _).setCell (p := ⟨w.heap.size + 1 + 1, 1, none⟩) (.inl (Eq.refl _)) _
  refine ⟨h.fr.then_only hf (.inr (by omega)), h.tb.fr hf (fun e => ?_) (only_ne (by omega)), (h.b2.set_ 0 x).set_ 1 y, fun v' L' ho => own_fr ho hf (fun k hk e => own_blk_ne ho h.b2 (by decide) (by rw [hk, show k = w.heap.size + 1 + 1 from e]))⟩
  obtain ⟨cap, cur, ht⟩ := h.tb
  exact absurd (Blk.uniq ht.hT (show Blk w' T 28 _ from (show T = w.heap.size + 1 + 1 from e) ▸ h.b2)).1 (by decide)
end


def DoesPost (w : World) (T G : Nat) (n : Nat) (ps' : List Pg) (e : Ending) (w' : World) : Prop :=
  ∃ A c L', e = .returned (.tuple #[rtab n (.slice A L'.length c), .bool true]) ∧ Tbl w' T G ps' ∧ ROwn w' (.slice A L'.length c) L' ∧ Sim ps' L' ∧ Fr (only G) w w'

/-- The head that a swap of the step goes by. -/
def oldP (ps : List Pg) (n : Int) (r : Bool) (a b : Int) : Int × Int := if r = true then headP ps n else (a, b)

end Go.Proofs.YtnlpnbllnddaaaaDoor

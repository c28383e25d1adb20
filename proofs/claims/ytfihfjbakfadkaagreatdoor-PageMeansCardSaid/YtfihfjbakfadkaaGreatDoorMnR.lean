/- Texts of one proof, merged: Same4, Same8, Map, Sm10, Same10, Sb10, Few10, Ar, Alloc, At. -/
import Derived.WalkSpells
import Derived.WalkLawsBesides
import Derived.Deep.QuietTactic
import Derived.BigQuiet
import Derived.Test.YtfihfjbakfadkaaGreatDoorProg
import Derived.Deep.RegionHeld3
import Derived.Laws.MakeOwn
import Derived.Deep.MidRow
import Derived.Test.YtfihfjbakfadkaaGreatDoorMnA
import Derived.Test.YtfihfjbakfadkaaGreatDoorMnD
import Derived.Test.YtfihfjbakfadkaaGreatDoorMnI
import Derived.Test.YtfihfjbakfadkaaGreatDoorMnJ
import Derived.Test.YtfihfjbakfadkaaGreatDoorMnK
import Derived.Test.YtfihfjbakfadkaaGreatDoorMnM
import Derived.Test.YtfihfjbakfadkaaGreatDoorMnQ
namespace Go.Proofs.YtfihfjbakfadkaaGreatDoor
open Go.RowKit
set_option maxRecDepth 100000
set_option linter.unusedVariables false

structure Sm4 (w w' : World) (R : Rc) (A B A2 B2 : Option Addr) (c d c2 d2 : Nat) : Prop where
  b0 : Blk w' w.heap.size 33 (recA R (.slice A R.rows.length c) (.slice B R.ents.length d))
  b1 : Blk w' (w.heap.size + 1) 33 (recA R (.slice A2 R.rows.length c2) (.slice B2 R.ents.length d2))
  rd : RecReads w' R A B
  rd2 : RecReads w' R A2 B2
  fr : Fr none_ w w'
theorem Sm4.keep {w w' w2 : World} {R : Rc} {A B A2 B2 : Option Addr} {c d c2 d2 : Nat} (h : Sm4 w w' R A B A2 B2 c d c2 d2) (hf : Fr none_ w' w2) : Sm4 w w2 R A B A2 B2 c d c2 d2 :=
  ⟨h.b0.fr hf id, h.b1.fr hf id, h.rd.keep hf, h.rd2.keep hf, h.fr.then_none hf⟩

set_option maxHeartbeats 4000000 in
theorem same4_ok (R : Rc) (A : Option Addr) (c : Nat) (B : Option Addr) (d : Nat) (A2 : Option Addr) (c2 : Nat) (B2 : Option Addr) (d2 : Nat) (w : World) (h : RecReads w R A B) (h2 : RecReads w R A2 B2) (hr : R.rows.length ≤ 1000) (he : R.ents.length ≤ 1000) :
    Calls Tryz.prog 36 #[recV R (.slice A R.rows.length c) (.slice B R.ents.length d), recV R (.slice A2 R.rows.length c2) (.slice B2 R.ents.length d2)] w fun e w' => e = .returned (.bool true) ∧ Fr none_ w w' := by
  obtain ⟨w0, hw0⟩ : ∃ w0, w0 = (w.alloc (recB R (.slice A R.rows.length c) (.slice B R.ents.length d))).alloc (recB R (.slice A2 R.rows.length c2) (.slice B2 R.ents.length d2)) := ⟨_, rfl⟩
  have M0 : Hid (Sm4 w w0 R A B A2 B2 c d c2 d2) := by
    have f0 : Fr none_ w w0 := by rw [hw0]; exact ((Fr.refl none_ w).alloc _).alloc _
    have k1 := (Blk.new (w.alloc (recB R (.slice A R.rows.length c) (.slice B R.ents.length d))) 33 (recA R (.slice A2 R.rows.length c2) (.slice B2 R.ents.length d2)))
    rw [World.size_alloc] at k1
    exact hid_ ⟨by rw [hw0]; exact (Blk.new w _ _).alloc _, by rw [hw0]; exact k1, h.keep f0, h2.keep f0, f0⟩
  clear h h2
  go_enter Tryz.func36, Tryz.ntmps36
  go_wp2_with fail
  change Code.wp _ _ _ _ ((w.alloc (recB R (.slice A R.rows.length c) (.slice B R.ents.length d))).alloc (recB R (.slice A2 R.rows.length c2) (.slice B2 R.ents.length d2)))
  rw [← hw0]
  clear hw0
  go_loopw [5] (fun i wr => ∃ k : Nat, k ≤ R.rows.length ∧ i = .int .i64 k ∧ Fr none_ w0 wr) (fun i _ => R.rows.length - (intOf i).toNat)
  case atStart => exact ⟨0, Nat.zero_le _, rfl, Fr.refl _ _⟩
  case round =>
    obtain ⟨k, hk, rfl, hF⟩ := hrel
    have F := hid_ hF
    have M := hid_ (M0.out.keep hF)
    clear hF
    have a0 : wr.cell? ⟨w.heap.size, 5, none⟩ = some (.slice A R.rows.length c) := M.out.b0.cell' rfl
    have a1 : wr.cell? ⟨w.heap.size + 1, 5, none⟩ = some (.slice A2 R.rows.length c2) := M.out.b1.cell' rfl
    by_cases hlt : k < R.rows.length
    · obtain ⟨p, hp⟩ : ∃ p, R.rows[k]? = some p := ⟨_, List.getElem?_eq_getElem hlt⟩
      obtain ⟨b1, o1, rfl, hb1, d0, d1⟩ := rw_at M.out.rd.r hp
      obtain ⟨b2, o2, rfl, hb2, e0, e1⟩ := rw_at M.out.rd2.r hp
      have hi0 : (0 : Int) ≤ (k : Int) := Int.natCast_nonneg _
      have hi1 : (k : Int) < (R.rows.length : Int) := by omega
      clear hp
      go_wp2_with fail
      go_quiet (fail)
      have FQ := hid_ (F.out.drewN nq)
      clear d0 d1 e0 e1 a0 a1
      go_wp2
      go_roundw
      case rel => exact ⟨k + 1, by omega, by go_num, FQ.out⟩
      case measure => simp [intOf]; omega
    · obtain rfl : k = R.rows.length := by omega
      have a2 : wr.cell? ⟨w.heap.size, 6, none⟩ = some (.slice B R.ents.length d) := M.out.b0.cell' rfl
      have a3 : wr.cell? ⟨w.heap.size + 1, 6, none⟩ = some (.slice B2 R.ents.length d2) := M.out.b1.cell' rfl
      go_wp2_with fail
      clear a0 a1 a2 a3 hlt hk
      go_loopw [6] (fun i wx => ∃ k : Nat, k ≤ R.ents.length ∧ i = .int .i64 k ∧ Fr none_ wr wx) (fun i _ => R.ents.length - (intOf i).toNat)
      case atStart => exact ⟨0, Nat.zero_le _, rfl, Fr.refl _ _⟩
      case round =>
        obtain ⟨k, hk, rfl, hF⟩ := hrel
        obtain ⟨wx, rfl⟩ : ∃ wx : World, wx = wr := ⟨_, rfl⟩
        have F2 := hid_ hF
        have M2 := hid_ (M.out.keep hF)
        clear hF
        have a0 : wx.cell? ⟨w.heap.size, 6, none⟩ = some (.slice B R.ents.length d) := M2.out.b0.cell' rfl
        have a1 : wx.cell? ⟨w.heap.size + 1, 6, none⟩ = some (.slice B2 R.ents.length d2) := M2.out.b1.cell' rfl
        by_cases hlt : k < R.ents.length
        · obtain ⟨p, hp⟩ : ∃ p, R.ents[k]? = some p := ⟨_, List.getElem?_eq_getElem hlt⟩
          obtain ⟨b1, o1, rfl, hb1, d0, d1⟩ := et_at M2.out.rd.e hp
          obtain ⟨b2, o2, rfl, hb2, e0, e1⟩ := et_at M2.out.rd2.e hp
          have hi0 : (0 : Int) ≤ (k : Int) := Int.natCast_nonneg _
          have hi1 : (k : Int) < (R.ents.length : Int) := by omega
          clear hp
          go_wp2_with fail
          go_quiet (fail)
          have FQ := hid_ (F2.out.drewN nq)
          clear d0 d1 e0 e1 a0 a1
          go_wp2
          go_roundw
          case rel => exact ⟨k + 1, by omega, by go_num, FQ.out⟩
          case measure => simp [intOf]; omega
        · obtain rfl : k = R.ents.length := by omega
          clear a0 a1
          have x0 : wx.cell? ⟨w.heap.size, 0, none⟩ = some (.int .i64 R.kind) := M2.out.b0.cell' rfl
          have y0 : wx.cell? ⟨w.heap.size + 1, 0, none⟩ = some (.int .i64 R.kind) := M2.out.b1.cell' rfl
          have x1 : wx.cell? ⟨w.heap.size, 1, none⟩ = some (.string R.low) := M2.out.b0.cell' rfl
          have y1 : wx.cell? ⟨w.heap.size + 1, 1, none⟩ = some (.string R.low) := M2.out.b1.cell' rfl
          have x2 : wx.cell? ⟨w.heap.size, 2, none⟩ = some (.string R.high) := M2.out.b0.cell' rfl
          have y2 : wx.cell? ⟨w.heap.size + 1, 2, none⟩ = some (.string R.high) := M2.out.b1.cell' rfl
          have x3 : wx.cell? ⟨w.heap.size, 3, none⟩ = some (.bool R.unb) := M2.out.b0.cell' rfl
          have y3 : wx.cell? ⟨w.heap.size + 1, 3, none⟩ = some (.bool R.unb) := M2.out.b1.cell' rfl
          have x4 : wx.cell? ⟨w.heap.size, 4, none⟩ = some (.int .i64 R.right) := M2.out.b0.cell' rfl
          have y4 : wx.cell? ⟨w.heap.size + 1, 4, none⟩ = some (.int .i64 R.right) := M2.out.b1.cell' rfl
          have x5 : wx.cell? ⟨w.heap.size, 5, none⟩ = some (.slice A R.rows.length c) := M2.out.b0.cell' rfl
          have y5 : wx.cell? ⟨w.heap.size + 1, 5, none⟩ = some (.slice A2 R.rows.length c2) := M2.out.b1.cell' rfl
          have x6 : wx.cell? ⟨w.heap.size, 6, none⟩ = some (.slice B R.ents.length d) := M2.out.b0.cell' rfl
          have y6 : wx.cell? ⟨w.heap.size + 1, 6, none⟩ = some (.slice B2 R.ents.length d2) := M2.out.b1.cell' rfl
          have x7 : wx.cell? ⟨w.heap.size, 7, none⟩ = some (.string R.key) := M2.out.b0.cell' rfl
          have y7 : wx.cell? ⟨w.heap.size + 1, 7, none⟩ = some (.string R.key) := M2.out.b1.cell' rfl
          have x8 : wx.cell? ⟨w.heap.size, 8, none⟩ = some (.string R.val) := M2.out.b0.cell' rfl
          have y8 : wx.cell? ⟨w.heap.size + 1, 8, none⟩ = some (.string R.val) := M2.out.b1.cell' rfl
          have x9 : wx.cell? ⟨w.heap.size, 9, none⟩ = some (.int .i64 R.page) := M2.out.b0.cell' rfl
          have y9 : wx.cell? ⟨w.heap.size + 1, 9, none⟩ = some (.int .i64 R.page) := M2.out.b1.cell' rfl
          have x10 : wx.cell? ⟨w.heap.size, 10, none⟩ = some (.int .i64 R.hpage) := M2.out.b0.cell' rfl
          have y10 : wx.cell? ⟨w.heap.size + 1, 10, none⟩ = some (.int .i64 R.hpage) := M2.out.b1.cell' rfl
          have x11 : wx.cell? ⟨w.heap.size, 11, none⟩ = some (.int .i64 R.hleft) := M2.out.b0.cell' rfl
          have y11 : wx.cell? ⟨w.heap.size + 1, 11, none⟩ = some (.int .i64 R.hleft) := M2.out.b1.cell' rfl
          have x12 : wx.cell? ⟨w.heap.size, 12, none⟩ = some (.string R.hkey) := M2.out.b0.cell' rfl
          have y12 : wx.cell? ⟨w.heap.size + 1, 12, none⟩ = some (.string R.hkey) := M2.out.b1.cell' rfl
          have x13 : wx.cell? ⟨w.heap.size, 13, none⟩ = some (.int .i64 R.nslot) := M2.out.b0.cell' rfl
          have y13 : wx.cell? ⟨w.heap.size + 1, 13, none⟩ = some (.int .i64 R.nslot) := M2.out.b1.cell' rfl
          have x14 : wx.cell? ⟨w.heap.size, 14, none⟩ = some (.int .i64 R.ngen) := M2.out.b0.cell' rfl
          have y14 : wx.cell? ⟨w.heap.size + 1, 14, none⟩ = some (.int .i64 R.ngen) := M2.out.b1.cell' rfl
          go_wp2
          go_ret
          exact ⟨rfl, M2.out.fr⟩
end Go.Proofs.YtfihfjbakfadkaaGreatDoor
namespace Go.Proofs.YtfihfjbakfadkaaGreatDoor
open Go.RowKit Go.BigFrame
set_option maxRecDepth 100000
set_option linter.unusedVariables false

set_option maxHeartbeats 2000000 in
theorem sameEntries_ok (L : List Et) (A A2 : Option Addr) (c c2 : Nat) (w : World) (h : Reads w 2 A L.length (etFlat L)) (h2 : Reads w 2 A2 L.length (etFlat L)) (hl : L.length ≤ 2000) :
    Calls Tryz.prog 80 #[.slice A L.length c, .slice A2 L.length c2] w fun e w' => e = .returned (.bool true) ∧ Fr none_ w w' := by
  have H := hid_ (And.intro h h2)
  clear h h2
  go_enter Tryz.func80, Tryz.ntmps80
  go_wp2_with fail
  go_loopw [5] (fun i wr => ∃ k : Nat, k ≤ L.length ∧ i = .int .i64 k ∧ Fr none_ w wr) (fun i _ => L.length - (intOf i).toNat)
  case atStart => exact ⟨0, Nat.zero_le _, rfl, Fr.refl _ _⟩
  case round =>
    obtain ⟨k, hk, rfl, hF⟩ := hrel
    have F := hid_ hF
    have R1 := hid_ (H.out.1.none_fr hF)
    have R2 := hid_ (H.out.2.none_fr hF)
    clear hF
    have hi0 : (0 : Int) ≤ (k : Int) := Int.natCast_nonneg _
    by_cases hlt : k < L.length
    · obtain ⟨p, hp⟩ : ∃ p, L[k]? = some p := ⟨_, List.getElem?_eq_getElem hlt⟩
      obtain ⟨b1, o1, rfl, hb1, d0, d1⟩ := et_at R1.out hp
      obtain ⟨b2, o2, rfl, hb2, e0, e1⟩ := et_at R2.out hp
      have hi1 : (k : Int) < (L.length : Int) := by omega
      clear hp
      go_wp2_with fail
      go_quiet (fail)
      have FQ := hid_ (F.out.drewN nq)
      clear d0 d1 e0 e1
      go_wp2
      go_roundw
      case rel => exact ⟨k + 1, by omega, by go_num, FQ.out⟩
      case measure => simp [intOf]; omega
    · obtain rfl : k = L.length := by omega
      go_wp2
      go_ret
      exact ⟨rfl, F.out⟩
set_option maxHeartbeats 4000000 in
theorem same8_ok (V : Vw) (A A2 : Option Addr) (c c2 : Nat) (w : World) (h : Reads w 2 A V.ents.length (etFlat V.ents)) (h2 : Reads w 2 A2 V.ents.length (etFlat V.ents)) (hl : V.ents.length ≤ 2000) :
    Calls Tryz.prog 38 #[vwV V (.slice A V.ents.length c), vwV V (.slice A2 V.ents.length c2)] w fun e w' => e = .returned (.bool true) ∧ Fr none_ w w' := by
  have F := ((Fr.refl none_ w).alloc (.cells (vwA V (.slice A V.ents.length c)) 46)).alloc (.cells (vwA V (.slice A2 V.ents.length c2)) 46)
  have HF := hid_ F
  have H := hid_ (And.intro (h.none_fr F) (h2.none_fr F))
  clear h h2 F
  go_enter Tryz.func38, Tryz.ntmps38
  go_wp2_with fail
  refine (sameEntries_ok V.ents A A2 c c2 _ H.out.1 H.out.2 hl).mono ?_
  rintro e w1 ⟨rfl, hf1⟩
  have F1 := hid_ (HF.out.then_none hf1)
  clear hf1
  go_wp2_with fail
  go_ret
  exact ⟨rfl, F1.out⟩
end Go.Proofs.YtfihfjbakfadkaaGreatDoor
namespace Go.Proofs.YtfihfjbakfadkaaGreatDoor
open Go.RowKit

/-- A page: is it used, and its head. -/
abbrev Pg := Bool × Int × Int

theorem eql_ref (s g a b : Int) (w : World) : (binOp .eql 23 (.agg #[.int .i64 s, .int .i64 g]) (.agg #[.int .i64 a, .int .i64 b])).run Tryz.prog w = .ok (.bool (s == a && g == b)) w := by
  have h : (Op.equal 23 (.agg #[.int .i64 s, .int .i64 g]) (.agg #[.int .i64 a, .int .i64 b])).run Tryz.prog w = .ok (s == a && g == b) w := by
    simp only [Op.equal, Op.maxDepth]
    by_cases h1 : s = a <;> by_cases h2 : g = b <;> go_simp <;> simp [h1, h2]
  simp [binOp, h]
theorem neq_ref (s g a b : Int) (w : World) : (binOp .neq 23 (.agg #[.int .i64 s, .int .i64 g]) (.agg #[.int .i64 a, .int .i64 b])).run Tryz.prog w = .ok (.bool (!(s == a && g == b))) w := by
  have h : (Op.equal 23 (.agg #[.int .i64 s, .int .i64 g]) (.agg #[.int .i64 a, .int .i64 b])).run Tryz.prog w = .ok (s == a && g == b) w := by
    simp only [Op.equal, Op.maxDepth]
    by_cases h1 : s = a <;> by_cases h2 : g = b <;> go_simp <;> simp [h1, h2]
  simp [binOp, h]

structure TblAt (w : World) (T G cap : Nat) (cur : Array Value) (ps : List Pg) : Prop where
  hT : Blk w T 182 #[.slice (some ⟨G, 0, none⟩) ps.length cap]
  hG : Blk w G 190 cur
  hn : ps.length ≤ 256
  hc : ps.length ≤ cap
  hm : cap ≤ maxLen
  hs : ps.length * 3 ≤ cur.size
  hp : ∀ i p, ps[i]? = some p → cur[i * 3]? = some (.bool p.1) ∧ cur[i * 3 + 1]? = some (.int .i64 p.2.1) ∧ cur[i * 3 + 1 + 1]? = some (.int .i64 p.2.2)
def Tbl (w : World) (T G : Nat) (ps : List Pg) : Prop := ∃ cap cur, TblAt w T G cap cur ps

theorem mapAt_arg (T G : Nat) (ps : List Pg) (n : Int) (w : World) (h : Tbl w T G ps) (hn : n < 0 ∨ (ps.length : Int) ≤ n) :
    Calls Tryz.prog 87 #[.pointer (some ⟨T, 0, none⟩), .int .i64 n] w fun e w' => e = .returned (.tuple #[.pointer none, errV 1]) ∧ w = w' := by
  obtain ⟨cap, cur, hT, hG, h1, h2, h3, h4, h5⟩ := h
  have c0 := hT.cell' (i := 0) rfl
  clear hT hG h5
  by_cases hn0 : n < 0
  · clear hn
    go_enter Tryz.func87, Tryz.ntmps87
    go_wp2
    go_ret2
    exact ⟨rfl, rfl⟩
  · have hle : (ps.length : Int) ≤ n := by omega
    clear hn
    go_enter Tryz.func87, Tryz.ntmps87
    go_wp2
    go_ret2
    exact ⟨rfl, rfl⟩

theorem mapAt_ok (T G : Nat) (ps : List Pg) (i : Nat) (s g : Int) (w : World) (h : Tbl w T G ps) (hi : ps[i]? = some (true, s, g)) :
    Calls Tryz.prog 87 #[.pointer (some ⟨T, 0, none⟩), .int .i64 i] w fun e w' => e = .returned (.tuple #[.pointer (some ⟨G, i * 3, none⟩), .nilIface]) ∧ w = w' := by
  obtain ⟨cap, cur, hT, hG, h1, h2, h3, h4, h5⟩ := h
  obtain ⟨d0, d1, d2⟩ := h5 i _ hi
  have c0 := hT.cell' (i := 0) rfl
  have c1 := hG.cell' d0
  have c2 := hG.cell' d1
  have c3 := hG.cell' d2
  have hlt : i < ps.length := (List.getElem?_eq_some_iff.1 hi).1
  clear hT hG h5 d0 d1 d2 hi
  go_enter Tryz.func87, Tryz.ntmps87
  go_wp2
  go_ret2
  exact ⟨rfl, rfl⟩

theorem mapAt_none (T G : Nat) (ps : List Pg) (i : Nat) (s g : Int) (w : World) (h : Tbl w T G ps) (hi : ps[i]? = some (false, s, g)) :
    Calls Tryz.prog 87 #[.pointer (some ⟨T, 0, none⟩), .int .i64 i] w fun e w' => e = .returned (.tuple #[.pointer none, errV 6]) ∧ w = w' := by
  obtain ⟨cap, cur, hT, hG, h1, h2, h3, h4, h5⟩ := h
  obtain ⟨d0, d1, d2⟩ := h5 i _ hi
  have c0 := hT.cell' (i := 0) rfl
  have c1 := hG.cell' d0
  have c2 := hG.cell' d1
  have c3 := hG.cell' d2
  have hlt : i < ps.length := (List.getElem?_eq_some_iff.1 hi).1
  clear hT hG h5 d0 d1 d2 hi
  go_enter Tryz.func87, Tryz.ntmps87
  go_wp2
  all_goals
    go_ret2
    exact ⟨rfl, rfl⟩

def setPg (w : World) (G i : Nat) (p : Pg) : World := ((w.setCell ⟨G, i * 3, none⟩ (.bool p.1)).setCell ⟨G, i * 3 + 1, none⟩ (.int .i64 p.2.1)).setCell ⟨G, i * 3 + 1 + 1, none⟩ (.int .i64 p.2.2)

theorem Tbl.ne_ {w : World} {T G : Nat} {ps : List Pg} (h : Tbl w T G ps) : T ≠ G := by
  obtain ⟨cap, cur, hT, hG, _⟩ := h
  exact Blk.ne_ hT hG (by decide)

theorem Tbl.lt {w : World} {T G : Nat} {ps : List Pg} (h : Tbl w T G ps) : T < w.heap.size ∧ G < w.heap.size := by
  obtain ⟨cap, cur, hT, hG, _⟩ := h
  exact ⟨hT.lt, hG.lt⟩

theorem Tbl.set_ {w : World} {T G : Nat} {ps : List Pg} (h : Tbl w T G ps) {i : Nat} (hi : i < ps.length) (p : Pg) : Tbl (setPg w G i p) T G (ps.set i p) := by
  have hne := h.ne_
  obtain ⟨cap, cur, hT, hG, h1, h2, h3, h4, h5⟩ := h
  refine ⟨cap, ((cur.setIfInBounds (i * 3) (.bool p.1)).setIfInBounds (i * 3 + 1) (.int .i64 p.2.1)).setIfInBounds (i * 3 + 1 + 1) (.int .i64 p.2.2), ?_, ?_, by simpa using h1, by simpa using h2, h3, by simpa using h4, ?_⟩
  · rw [List.length_set]
    exact ((hT.far hne _).far hne _).far hne _
  · exact ((hG.set_ _ _).set_ _ _).set_ _ _
  · intro j q hj
    by_cases hji : j = i
    · subst hji
      rw [List.getElem?_set_self hi] at hj
      obtain rfl : p = q := by simpa using hj
      have e0 : j * 3 + 1 + 1 < cur.size := by omega
      refine ⟨?_, ?_, ?_⟩ <;> grind
    · rw [List.getElem?_set_ne (fun e => hji e.symm)] at hj
      obtain ⟨d0, d1, d2⟩ := h5 j q hj
      refine ⟨?_, ?_, ?_⟩ <;> grind

theorem Tbl.set_head {w : World} {T G : Nat} {ps : List Pg} (h : Tbl w T G ps) {i : Nat} {b : Bool} {s g : Int} (hi : ps[i]? = some (b, s, g)) (c d : Int) :
    Tbl ((w.setCell ⟨G, i * 3 + 1, none⟩ (.int .i64 c)).setCell ⟨G, i * 3 + 1 + 1, none⟩ (.int .i64 d)) T G (ps.set i (b, c, d)) := by
  have hne := h.ne_
  have hlt : i < ps.length := (List.getElem?_eq_some_iff.1 hi).1
  obtain ⟨cap, cur, hT, hG, h1, h2, h3, h4, h5⟩ := h
  refine ⟨cap, (cur.setIfInBounds (i * 3 + 1) (.int .i64 c)).setIfInBounds (i * 3 + 1 + 1) (.int .i64 d), ?_, ?_, by simpa using h1, by simpa using h2, h3, by simpa using h4, ?_⟩
  · rw [List.length_set]
    exact (hT.far hne _).far hne _
  · exact (hG.set_ _ _).set_ _ _
  · intro j q hj
    by_cases hji : j = i
    · subst hji
      rw [List.getElem?_set_self hlt] at hj
      obtain rfl : (b, c, d) = q := by simpa using hj
      obtain ⟨d0, d1, d2⟩ := h5 j _ hi
      have e0 : j * 3 + 1 + 1 < cur.size := by omega
      refine ⟨?_, ?_, ?_⟩ <;> grind
    · rw [List.getElem?_set_ne (fun e => hji e.symm)] at hj
      obtain ⟨d0, d1, d2⟩ := h5 j q hj
      refine ⟨?_, ?_, ?_⟩ <;> grind

theorem Tbl.fr {w w' : World} {S : Nat → Prop} {T G : Nat} {ps : List Pg} (h : Tbl w T G ps) (hf : Fr S w w') (hT : ¬ S T) (hG : ¬ S G) : Tbl w' T G ps := by
  obtain ⟨cap, cur, a, b, h1, h2, h3, h4, h5⟩ := h
  exact ⟨cap, cur, a.fr hf hT, b.fr hf hG, h1, h2, h3, h4, h5⟩

theorem setPg_fr {S : Nat → Prop} {a w : World} (h : Fr S a w) {G : Nat} (hG : S G ∨ a.heap.size ≤ G) (i : Nat) (p : Pg) : Fr S a (setPg w G i p) := ((h.setCell hG _).setCell hG _).setCell hG _

theorem setPg_only (w : World) (G i : Nat) (p : Pg) : Fr (only G) w (setPg w G i p) := setPg_fr (Fr.refl (only G) w) (.inl (Eq.refl G)) i p

theorem head_err (o : Option Addr) (n : Int) (k : Int) (w : World)
    (hat : ∀ w1 : World, Fr none_ w w1 → Calls Tryz.prog 87 #[.pointer o, .int .i64 n] w1 fun e w' => e = .returned (.tuple #[.pointer none, errV k]) ∧ w1 = w') :
    Calls Tryz.prog 89 #[.pointer o, .int .i64 n] w fun e w' => e = .returned (.tuple #[.agg #[.int .i64 0, .int .i64 0], errV k]) ∧ Fr none_ w w' := by
  have H := hid_ hat
  clear hat
  go_enter Tryz.func89, Tryz.ntmps89
  go_wp2_with (go_at_call 87; refine (H.out _ ((Fr.refl _ _).alloc _)).mono ?_; rintro e w' ⟨rfl, rfl⟩)
  exact bodyPost_ret (v := .tuple #[.agg #[.int .i64 0, .int .i64 0], errV k]) (by simp [results, Tryz.results89, go_sem]) rfl ⟨rfl, (Fr.refl _ _).alloc _⟩

theorem head_ok (T G : Nat) (ps : List Pg) (i : Nat) (s g : Int) (w : World) (h : Tbl w T G ps) (hi : ps[i]? = some (true, s, g)) :
    Calls Tryz.prog 89 #[.pointer (some ⟨T, 0, none⟩), .int .i64 i] w fun e w' => e = .returned (.tuple #[.agg #[.int .i64 s, .int .i64 g], .nilIface]) ∧ Fr none_ w w' := by
  have h' := h
  obtain ⟨cap, cur, hT, hG, h1, h2, h3, h4, h5⟩ := h
  obtain ⟨d0, d1, d2⟩ := h5 i _ hi
  have c2 := hG.cell' d1
  have c3 := hG.cell' d2
  have hlt := hG.lt
  have H := hid_ h'
  have Hi := hid_ hi
  clear hT hG h5 d0 d1 d2 h' hi
  go_enter Tryz.func89, Tryz.ntmps89
  go_wp2_with (go_at_call 87; refine (mapAt_ok T G ps i s g _ (H.out.fr ((Fr.refl none_ _).alloc _) id id) Hi.out).mono ?_; rintro e w' ⟨rfl, rfl⟩)
  exact bodyPost_ret (v := .tuple #[.agg #[.int .i64 s, .int .i64 g], .nilIface]) (by simp [results, Tryz.results89, go_sem]) rfl ⟨rfl, (Fr.refl _ _).alloc _⟩

theorem swap_ok (T G : Nat) (ps : List Pg) (i : Nat) (s g a b c d : Int) (w : World) (h : Tbl w T G ps) (hi : ps[i]? = some (true, s, g)) :
    Calls Tryz.prog 50 #[.pointer (some ⟨T, 0, none⟩), .int .i64 i, .agg #[.int .i64 a, .int .i64 b], .agg #[.int .i64 c, .int .i64 d]] w fun e w' =>
      e = .returned (.tuple #[.bool (s == a && g == b), .nilIface]) ∧ Tbl w' T G (if s = a ∧ g = b then ps.set i (true, c, d) else ps) ∧ Fr (only G) w w' := by
  have h' := h
  obtain ⟨cap, cur, hT, hG, h1, h2, h3, h4, h5⟩ := h
  obtain ⟨d0, d1, d2⟩ := h5 i _ hi
  have c2 := hG.cell' d1
  have c3 := hG.cell' d2
  have f := hG.frozen
  have f1 := f (i * 3 + 1)
  have f2 := f (i * 3 + 1 + 1)
  have hlt := hG.lt
  have H := hid_ h'
  have Hi := hid_ hi
  clear hT hG h5 d0 d1 d2 h' hi f
  by_cases hc : s = a ∧ g = b
  · obtain ⟨rfl, rfl⟩ := hc
    go_enter Tryz.func50, Tryz.ntmps50
    go_wp2_with (go_at_call 87; refine (mapAt_ok T G ps i s g _ (H.out.fr (((Fr.refl none_ _).alloc _).alloc _) id id) Hi.out).mono ?_; rintro e w' ⟨rfl, rfl⟩)
    go_region
    all_goals go_wp2
    go_ret2
    exact ⟨rfl, (H.out.set_head Hi.out c d).fr ((((Fr.refl none_ _).alloc _).alloc _).drew) id id, (((((Fr.refl (only G) w).setCell (p := ⟨G, i * 3 + 1, none⟩) (.inl (Eq.refl G)) _).setCell (p := ⟨G, i * 3 + 1 + 1, none⟩) (.inl (Eq.refl G)) _).alloc _).alloc _).drew⟩
  · have hq : ∀ w, (binOp .neq 23 (.agg #[.int .i64 s, .int .i64 g]) (.agg #[.int .i64 a, .int .i64 b])).run Tryz.prog w = .ok (.bool true) w := fun w => by
      rw [neq_ref]
      have : (s == a && g == b) = false := by simpa using hc
      rw [this]; rfl
    have Hc := hid_ hc
    clear hc
    go_enter Tryz.func50, Tryz.ntmps50
    go_wp2_with (go_at_call 87; refine (mapAt_ok T G ps i s g _ (H.out.fr (((Fr.refl none_ _).alloc _).alloc _) id id) Hi.out).mono ?_; rintro e w' ⟨rfl, rfl⟩)
    go_region
    all_goals go_wp2
    go_ret2
    refine ⟨?_, ?_, ?_⟩
    · have : (s == a && g == b) = false := by simpa using Hc.out
      rw [this]; rfl
    · exact H.out.fr ((((Fr.refl none_ _).alloc _).alloc _).drew) id id
    · exact (((Fr.refl _ _).alloc _).alloc _).drew

end Go.Proofs.YtfihfjbakfadkaaGreatDoor
namespace Go.Proofs.YtfihfjbakfadkaaGreatDoor
open Go.RowKit Go.BigFrame
set_option maxRecDepth 100000
set_option linter.unusedVariables false
theorem rpFlat_get10 : ∀ (X : List (Int × Int)) (k : Nat) (p : Int × Int), X[k]? = some p → (rpFlat X)[k * 2]? = some (.int .i64 p.1) ∧ (rpFlat X)[k * 2 + 1]? = some (.int .i64 p.2)
  | [], k, p, h => by simp at h
  | q :: X, 0, p, h => by
    obtain rfl : q = p := by simpa using h
    exact ⟨rfl, rfl⟩
  | q :: X, k + 1, p, h => by
    have := rpFlat_get10 X k p (by simpa using h)
    have e : ∀ j, (rpFlat (q :: X))[j + 2]? = (rpFlat X)[j]? := fun j => rfl
    exact ⟨by rw [show (k + 1) * 2 = k * 2 + 2 by omega, e]; exact this.1, by rw [show (k + 1) * 2 + 1 = k * 2 + 1 + 2 by omega, e]; exact this.2⟩
theorem rp_at10 {w : World} {A : Option Addr} {X : List (Int × Int)} (h : Reads w 2 A X.length (rpFlat X)) {k : Nat} {p : Int × Int} (hp : X[k]? = some p) : ∃ b off, A = some ⟨b, off, none⟩ ∧ b < w.heap.size ∧ w.cell? ⟨b, off + k * 2, none⟩ = some (.int .i64 p.1) ∧ w.cell? ⟨b, off + k * 2 + 1, none⟩ = some (.int .i64 p.2) := by
  obtain ⟨b, off, e, hb, hc⟩ := reads_lit h (by decide) (by have := (List.getElem?_eq_some_iff.1 hp).1; omega)
  have := rpFlat_get10 X k p hp
  exact ⟨b, off, e, hb, hc _ _ this.1, by have := hc _ _ this.2; rwa [← Nat.add_assoc] at this⟩
set_option maxHeartbeats 4000000 in
theorem sameRefs10_ok (X : List (Int × Int)) (A B : Option Addr) (c d : Nat) (w : World) (hl : X.length ≤ 5000) (h1 : Reads w 2 A X.length (rpFlat X)) (h2 : Reads w 2 B X.length (rpFlat X)) : Calls Tryz.prog 35 #[.slice A X.length c, .slice B X.length d] w fun e w' => e = .returned (.bool true) ∧ Fr none_ w w' := by
  have H1 := hid_ h1
  have H2 := hid_ h2
  clear h1 h2
  go_enter Tryz.func35, Tryz.ntmps35
  go_wp2_with fail
  go_loopw [5] (fun i wr => ∃ k : Nat, k ≤ X.length ∧ i = .int .i64 k ∧ Fr none_ w wr) (fun i _ => X.length - (intOf i).toNat)
  case atStart => exact ⟨0, Nat.zero_le _, rfl, Fr.refl _ _⟩
  case round =>
    obtain ⟨k, hk, rfl, hfr⟩ := hrel
    have FR := hid_ hfr
    have hi0 : (0 : Int) ≤ (k : Int) := Int.natCast_nonneg _
    clear hfr
    by_cases hlt : k < X.length
    · obtain ⟨p, hp⟩ : ∃ p, X[k]? = some p := ⟨_, List.getElem?_eq_getElem hlt⟩
      obtain ⟨b1, o1, rfl, hb1, x0, x1⟩ := rp_at10 (H1.out.none_fr FR.out) hp
      obtain ⟨b2, o2, rfl, hb2, y0, y1⟩ := rp_at10 (H2.out.none_fr FR.out) hp
      have hi1 : (k : Int) < (X.length : Int) := by omega
      have hq : ∀ w', (binOp .neq 23 (.agg #[.int .i64 p.1, .int .i64 p.2]) (.agg #[.int .i64 p.1, .int .i64 p.2])).run Tryz.prog w' = .ok (.bool false) w' := fun w' => by rw [neq_ref]; simp
      clear hp
      go_wp2_with fail
      go_quiet (fail)
      go_wp2_with fail
      go_roundw
      case rel => exact ⟨k + 1, by omega, by go_num, by repeat (first | exact FR.out | apply Fr.drewN | apply Fr.drew)⟩
      case measure => simp [intOf]; omega
    · have hi1 : ¬ (k : Int) < (X.length : Int) := by omega
      go_wp2_with fail
      go_ret
      exact ⟨rfl, FR.out⟩
set_option maxHeartbeats 2000000 in
theorem sameRows_ok (L : List Rw) (A A2 : Option Addr) (c c2 : Nat) (w : World) (h : Reads w 2 A L.length (rwFlat L)) (h2 : Reads w 2 A2 L.length (rwFlat L)) (hl : L.length ≤ 300000) :
    Calls Tryz.prog 79 #[.slice A L.length c, .slice A2 L.length c2] w fun e w' => e = .returned (.bool true) ∧ Fr none_ w w' := by
  have H := hid_ (And.intro h h2)
  clear h h2
  go_enter Tryz.func79, Tryz.ntmps79
  go_wp2_with fail
  go_loopw [5] (fun i wr => ∃ k : Nat, k ≤ L.length ∧ i = .int .i64 k ∧ Fr none_ w wr) (fun i _ => L.length - (intOf i).toNat)
  case atStart => exact ⟨0, Nat.zero_le _, rfl, Fr.refl _ _⟩
  case round =>
    obtain ⟨k, hk, rfl, hF⟩ := hrel
    have F := hid_ hF
    have R1 := hid_ (H.out.1.none_fr hF)
    have R2 := hid_ (H.out.2.none_fr hF)
    clear hF
    have hi0 : (0 : Int) ≤ (k : Int) := Int.natCast_nonneg _
    by_cases hlt : k < L.length
    · obtain ⟨p, hp⟩ : ∃ p, L[k]? = some p := ⟨_, List.getElem?_eq_getElem hlt⟩
      obtain ⟨b1, o1, rfl, hb1, d0, d1⟩ := rw_at R1.out hp
      obtain ⟨b2, o2, rfl, hb2, e0, e1⟩ := rw_at R2.out hp
      have hi1 : (k : Int) < (L.length : Int) := by omega
      clear hp
      go_wp2_with fail
      go_quiet (fail)
      have FQ := hid_ (F.out.drewN nq)
      clear d0 d1 e0 e1
      go_wp2
      go_roundw
      case rel => exact ⟨k + 1, by omega, by go_num, FQ.out⟩
      case measure => simp [intOf]; omega
    · obtain rfl : k = L.length := by omega
      go_wp2
      go_ret
      exact ⟨rfl, F.out⟩
set_option maxHeartbeats 4000000 in
theorem same7_ok (V : Lw) (A A2 : Option Addr) (c c2 : Nat) (w : World) (h : Reads w 2 A V.rows.length (rwFlat V.rows)) (h2 : Reads w 2 A2 V.rows.length (rwFlat V.rows)) (hl : V.rows.length ≤ 300000) :
    Calls Tryz.prog 37 #[.agg (lwA V (.slice A V.rows.length c)), .agg (lwA V (.slice A2 V.rows.length c2))] w fun e w' => e = .returned (.bool true) ∧ Fr none_ w w' := by
  have F := ((Fr.refl none_ w).alloc (.cells (lwA V (.slice A V.rows.length c)) 45)).alloc (.cells (lwA V (.slice A2 V.rows.length c2)) 45)
  have HF := hid_ F
  have H := hid_ (And.intro (h.none_fr F) (h2.none_fr F))
  clear h h2 F
  go_enter Tryz.func37, Tryz.ntmps37
  go_wp2_with fail
  refine (sameRows_ok V.rows A A2 c c2 _ H.out.1 H.out.2 hl).mono ?_
  rintro e w1 ⟨rfl, hf1⟩
  have F1 := hid_ (HF.out.then_none hf1)
  clear hf1
  go_wp2_with fail
  go_ret
  exact ⟨rfl, F1.out⟩
end Go.Proofs.YtfihfjbakfadkaaGreatDoor
namespace Go.Proofs.YtfihfjbakfadkaaGreatDoor
open Go.RowKit Go.BigFrame
set_option maxRecDepth 100000
set_option linter.unusedVariables false
theorem rec_sz10 : ∀ w, (sizeOf 33).run Tryz.prog w = .ok 15 w := fun w => by kernel_rfl
theorem ex_index15 {oi : Oper} {a : Act} (t e : TypeId) (x y : Operand) (b off n m c : Nat) (ho : oi.op = .indexAddr t x y) (hx : a.eval x = .slice (some ⟨b, off, none⟩) m c) (hy : a.eval y = .int .i64 n) (hu : Tryz.prog.underlying t = some (.slice e)) (hs : ∀ w, (sizeOf e).run Tryz.prog w = .ok 15 w) (hn : n < m) (w : World) :
    (execOp a.eval oi).run Tryz.prog w = .ok (.value (.pointer (some ⟨b, off + n * 15, none⟩))) w := by
  unfold execOp
  simp only [ho, hx, hy, Sem.run_bind, Sem.run_pure]
  have h0 : (0 : Int) ≤ (n : Int) := Int.natCast_nonneg _
  have h1 : (n : Int) < (m : Int) := by omega
  simp [go_sem, hu, hs, h0, h1]
/-- Two rows of records that hold the same. -/
structure SmCh (w : World) (C C2 : Option Addr) (nc : Nat) (L L2 : List Ch) : Prop where
  a : ChReads w C nc L
  b : ChReads w C2 nc L2
  m : L2.map (·.R) = L.map (·.R)
  rows : ∀ D ∈ L, D.R.rows.length ≤ 1000 ∧ D.R.ents.length ≤ 1000
theorem SmCh.keep {w w' : World} {C C2 : Option Addr} {nc : Nat} {L L2 : List Ch} (h : SmCh w C C2 nc L L2) (hf : Fr none_ w w') : SmCh w' C C2 nc L L2 := ⟨h.a.keep hf, h.b.keep hf, h.m, h.rows⟩
theorem SmCh.at_ {w : World} {C C2 : Option Addr} {nc : Nat} {L L2 : List Ch} (h : SmCh w C C2 nc L L2) {k : Nat} (hk : k < nc) : ∃ (R : Rc) (A1 A2 B1 B2 : Option Addr) (c1 c2 d1 d2 : Nat) (b1 o1 b2 o2 : Nat), C = some ⟨b1, o1, none⟩ ∧ C2 = some ⟨b2, o2, none⟩ ∧ w.rangeAt b1 (o1 + k * 15) (recL ⟨R, A1, c1, B1, d1⟩) ∧ w.rangeAt b2 (o2 + k * 15) (recL ⟨R, A2, c2, B2, d2⟩) ∧ RecReads w R A1 B1 ∧ RecReads w R A2 B2 ∧ R.rows.length ≤ 1000 ∧ R.ents.length ≤ 1000 := by
  obtain ⟨E, hE⟩ : ∃ E, L[k]? = some E := ⟨_, List.getElem?_eq_getElem (by rw [h.a.1]; exact hk)⟩
  obtain ⟨G, hG⟩ : ∃ G, L2[k]? = some G := ⟨_, List.getElem?_eq_getElem (by rw [h.b.1]; exact hk)⟩
  have e : G.R = E.R := by
    have h1 := congrArg (fun l => l[k]?) h.m
    simp only [List.getElem?_map, hE, hG, Option.map_some] at h1
    exact Option.some.inj h1
  obtain ⟨b1, o1, e1, _, r1, k1⟩ := h.a.at_ hE
  obtain ⟨b2, o2, e2, _, r2, k2⟩ := h.b.at_ hG
  obtain ⟨RE, A1, c1, B1, d1⟩ := E
  obtain ⟨RG, A2, c2, B2, d2⟩ := G
  have e' : RG = RE := e
  subst e'
  have hz := h.rows _ (List.mem_of_getElem? hE)
  exact ⟨RG, A1, A2, B1, B2, c1, c2, d1, d2, b1, o1, b2, o2, e1, e2, r1, r2, k1.rd, k2.rd, hz.1, hz.2⟩
/-- Two pages' other rows. -/
structure SmPg (w : World) (refs : List (Int × Int)) (lv : Lw) (iv : Vw) (D D2 A A2 B B2 : Option Addr) : Prop where
  r1 : Reads w 2 D refs.length (rpFlat refs)
  r2 : Reads w 2 D2 refs.length (rpFlat refs)
  l1 : Reads w 2 A lv.rows.length (rwFlat lv.rows)
  l2 : Reads w 2 A2 lv.rows.length (rwFlat lv.rows)
  i1 : Reads w 2 B iv.ents.length (etFlat iv.ents)
  i2 : Reads w 2 B2 iv.ents.length (etFlat iv.ents)
  zr : refs.length ≤ 5000
  zl : lv.rows.length ≤ 300000
  zi : iv.ents.length ≤ 2000
theorem SmPg.keep {w w' : World} {refs : List (Int × Int)} {lv : Lw} {iv : Vw} {D D2 A A2 B B2 : Option Addr} (h : SmPg w refs lv iv D D2 A A2 B B2) (hf : Fr none_ w w') : SmPg w' refs lv iv D D2 A A2 B B2 :=
  ⟨h.r1.none_fr hf, h.r2.none_fr hf, h.l1.none_fr hf, h.l2.none_fr hf, h.i1.none_fr hf, h.i2.none_fr hf, h.zr, h.zl, h.zi⟩
theorem rows_range {w : World} {g : Nat} {t : TypeId} {n hs hg : Int} {vc vr va vb : Value} {leaf : Bool} {lv : Lw} {iv : Vw} (h : Blk w g t (pgA n hs hg vc vr leaf lv va iv vb)) : w.rangeAt g 6 (lwA lv va).toList := fun j v hv => by
  rw [h.cell]
  match j, hv with
  | 0, hv => exact hv
  | 1, hv => exact hv
  | 2, hv => exact hv
  | 3, hv => exact hv
  | 4, hv => exact hv
  | 5, hv => exact hv
  | k + 6, hv => simp at hv
theorem iv_range {w : World} {g : Nat} {t : TypeId} {n hs hg : Int} {vc vr va vb : Value} {leaf : Bool} {lv : Lw} {iv : Vw} (h : Blk w g t (pgA n hs hg vc vr leaf lv va iv vb)) : w.rangeAt g 12 (vwA iv vb).toList := fun j v hv => by
  rw [h.cell]
  match j, hv with
  | 0, hv => exact hv
  | 1, hv => exact hv
  | 2, hv => exact hv
  | 3, hv => exact hv
  | 4, hv => exact hv
  | 5, hv => exact hv
  | 6, hv => exact hv
  | 7, hv => exact hv
  | 8, hv => exact hv
  | k + 9, hv => simp at hv
set_option maxHeartbeats 8000000 in
theorem same10_ok (n hs hg : Int) (leaf : Bool) (lv : Lw) (iv : Vw) (refs : List (Int × Int)) (nc : Nat) (L L2 : List Ch) (C C2 D D2 A A2 B B2 : Option Addr) (x x2 y y2 c c2 d d2 : Nat) (w : World) (hnc : nc ≤ 5000) (h : SmCh w C C2 nc L L2) (h2 : SmPg w refs lv iv D D2 A A2 B B2) :
    Calls Tryz.prog 11 #[.agg (pgA n hs hg (.slice C nc x) (.slice D refs.length y) leaf lv (.slice A lv.rows.length c) iv (.slice B iv.ents.length d)), .agg (pgA n hs hg (.slice C2 nc x2) (.slice D2 refs.length y2) leaf lv (.slice A2 lv.rows.length c2) iv (.slice B2 iv.ents.length d2))] w fun e w' => e = .returned (.bool true) ∧ Fr none_ w w' := by
  obtain ⟨w0, hw0⟩ : ∃ z, z = (w.alloc (.cells (pgA n hs hg (.slice C nc x) (.slice D refs.length y) leaf lv (.slice A lv.rows.length c) iv (.slice B iv.ents.length d)) 40)).alloc (.cells (pgA n hs hg (.slice C2 nc x2) (.slice D2 refs.length y2) leaf lv (.slice A2 lv.rows.length c2) iv (.slice B2 iv.ents.length d2)) 48) := ⟨_, rfl⟩
  have f0 : Fr none_ w w0 := by rw [hw0]; exact ((Fr.refl none_ w).alloc _).alloc _
  have BP : Hid (Blk w0 w.heap.size 40 (pgA n hs hg (.slice C nc x) (.slice D refs.length y) leaf lv (.slice A lv.rows.length c) iv (.slice B iv.ents.length d))) := hid_ (by rw [hw0]; exact (Blk.new w _ _).alloc _)
  have BQ : Hid (Blk w0 (w.heap.size + 1) 48 (pgA n hs hg (.slice C2 nc x2) (.slice D2 refs.length y2) leaf lv (.slice A2 lv.rows.length c2) iv (.slice B2 iv.ents.length d2))) := hid_ (by rw [hw0]; exact Blk.new7 _ _ (by simp))
  have F0 := hid_ f0
  have H := hid_ (h.keep f0)
  have H2 := hid_ (h2.keep f0)
  clear h h2 f0
  go_enter Tryz.func11, Tryz.ntmps11
  go_upto_region 1 with fail
  change Code.wp _ _ _ _ ((w.alloc (.cells (pgA n hs hg (.slice C nc x) (.slice D refs.length y) leaf lv (.slice A lv.rows.length c) iv (.slice B iv.ents.length d)) 40)).alloc (.cells (pgA n hs hg (.slice C2 nc x2) (.slice D2 refs.length y2) leaf lv (.slice A2 lv.rows.length c2) iv (.slice B2 iv.ents.length d2)) 48))
  rw [← hw0]
  clear hw0
  obtain ⟨gP, hgP⟩ : ∃ g, g = w.heap.size := ⟨_, rfl⟩
  rw [← hgP] at BP BQ
  rw [← hgP]
  clear hgP
  have p0 : w0.cell? ⟨gP, 0, none⟩ = some (.int .i64 n) := BP.out.cell' rfl
  have q0 : w0.cell? ⟨gP + 1, 0, none⟩ = some (.int .i64 n) := BQ.out.cell' rfl
  have p1 : w0.cell? ⟨gP, 1, none⟩ = some (.int .i64 hs) := BP.out.cell' rfl
  have q1 : w0.cell? ⟨gP + 1, 1, none⟩ = some (.int .i64 hs) := BQ.out.cell' rfl
  have p2 : w0.cell? ⟨gP, 2, none⟩ = some (.int .i64 hg) := BP.out.cell' rfl
  have q2 : w0.cell? ⟨gP + 1, 2, none⟩ = some (.int .i64 hg) := BQ.out.cell' rfl
  have p3 : w0.cell? ⟨gP, 3, none⟩ = some (.slice C nc x) := BP.out.cell' rfl
  have q3 : w0.cell? ⟨gP + 1, 3, none⟩ = some (.slice C2 nc x2) := BQ.out.cell' rfl
  have p4 : w0.cell? ⟨gP, 4, none⟩ = some (.slice D refs.length y) := BP.out.cell' rfl
  have q4 : w0.cell? ⟨gP + 1, 4, none⟩ = some (.slice D2 refs.length y2) := BQ.out.cell' rfl
  have p5 : w0.cell? ⟨gP, 5, none⟩ = some (.bool leaf) := BP.out.cell' rfl
  have q5 : w0.cell? ⟨gP + 1, 5, none⟩ = some (.bool leaf) := BQ.out.cell' rfl
  have hq : ∀ w', (binOp .neq 23 (.agg #[.int .i64 hs, .int .i64 hg]) (.agg #[.int .i64 hs, .int .i64 hg])).run Tryz.prog w' = .ok (.bool false) w' := fun w' => by rw [neq_ref]; simp
  go_wp2_with fail
  refine (sameRefs10_ok refs D D2 y y2 w0 H2.out.zr H2.out.r1 H2.out.r2).mono ?_
  rintro e w1 ⟨rfl, hf1⟩
  replace BP := hid_ (BP.out.fr hf1 id)
  replace BQ := hid_ (BQ.out.fr hf1 id)
  replace H := hid_ (H.out.keep hf1)
  replace H2 := hid_ (H2.out.keep hf1)
  replace F0 := hid_ (F0.out.then_none hf1)
  clear hf1 p0 p1 p2 p3 p4 p5 q0 q1 q2 q3 q4 q5 hq
  have p3 : w1.cell? ⟨gP, 3, none⟩ = some (.slice C nc x) := BP.out.cell' rfl
  go_wp2_with fail
  go_loopw [47] (fun i wr => ∃ k : Nat, k ≤ nc ∧ i = .int .i64 k ∧ Fr none_ w1 wr) (fun i _ => nc - (intOf i).toNat)
  case atStart => exact ⟨0, Nat.zero_le _, rfl, Fr.refl _ _⟩
  case round =>
    obtain ⟨k, hk, rfl, hfr⟩ := hrel
    obtain ⟨wx, rfl⟩ : ∃ z : World, z = wr := ⟨_, rfl⟩
    have FR := hid_ hfr
    have BPr := hid_ (BP.out.fr hfr id)
    have BQr := hid_ (BQ.out.fr hfr id)
    have Hr := hid_ (H.out.keep hfr)
    have H2r := hid_ (H2.out.keep hfr)
    have hi0 : (0 : Int) ≤ (k : Int) := Int.natCast_nonneg _
    clear hfr p3
    by_cases hlt : k < nc
    · obtain ⟨R, A5, A6, B5, B6, c5, c6, d5, d6, b1, o1, b2, o2, rfl, rfl, r1, r2, e1, e2, z1, z2⟩ := Hr.out.at_ hlt
      have R1 := hid_ r1
      have R2 := hid_ r2
      have E := hid_ (And.intro e1 (And.intro e2 (And.intro z1 z2)))
      have hi1 : (k : Int) < (nc : Int) := by omega
      clear r1 r2 e1 e2 z1 z2
      go_upto_region 6 with fail
      (try go_frame)
      go_cut [61] (fun u wq => u = .bool false ∧ Fr none_ wx wq)
      case first =>
        refine wp_region_q7 (fun w' => Fr none_ wx w') (by kernel_rfl) (by kernel_rfl) (Fr.refl none_ wx).drew ?_
        refine q_val7 (some 50) (.pointer (some ⟨gP, 3, none⟩)) rfl (by kernel_rfl) (fun w' hC => by kernel_rfl) ?_
        refine q_cell7 (some 51) (.slice (some ⟨b1, o1, none⟩) nc x) 24 (.tmp 50) ⟨gP, 3, none⟩ _ rfl (by kernel_rfl) rfl (by kernel_rfl) (fun w' hC => (BPr.out.fr hC id).cell' rfl) Tryz.underlying24 rfl ?_
        refine q_val7 (some 52) (.int .i64 k) rfl (by kernel_rfl) (fun w' hC => by kernel_rfl) ?_
        refine q_val7 (some 53) (.pointer (some ⟨b1, o1 + k * 15, none⟩)) rfl (by kernel_rfl) (fun w' hC => ex_index15 24 33 (.tmp 51) (.tmp 52) b1 o1 k nc x rfl (by kernel_rfl) (by kernel_rfl) Tryz.underlying24 rec_sz10 hlt w') ?_
        refine q_mid7 (some 54) (recL ⟨R, A5, c5, B5, d5⟩) 33 (.tmp 53) b1 (o1 + k * 15) _ rfl (by kernel_rfl) rfl (by kernel_rfl) (fun w' hC j v hv => cellFr (R1.out j v hv) hC) Tryz.underlying33 rfl rec_size8 ?_
        refine q_val7 (some 55) (.pointer (some ⟨gP + 1, 3, none⟩)) rfl (by kernel_rfl) (fun w' hC => by kernel_rfl) ?_
        refine q_cell7 (some 56) (.slice (some ⟨b2, o2, none⟩) nc x2) 24 (.tmp 55) ⟨gP + 1, 3, none⟩ _ rfl (by kernel_rfl) rfl (by kernel_rfl) (fun w' hC => (BQr.out.fr hC id).cell' rfl) Tryz.underlying24 rfl ?_
        refine q_val7 (some 57) (.int .i64 k) rfl (by kernel_rfl) (fun w' hC => by kernel_rfl) ?_
        refine q_val7 (some 58) (.pointer (some ⟨b2, o2 + k * 15, none⟩)) rfl (by kernel_rfl) (fun w' hC => ex_index15 24 33 (.tmp 56) (.tmp 57) b2 o2 k nc x2 rfl (by kernel_rfl) (by kernel_rfl) Tryz.underlying24 rec_sz10 hlt w') ?_
        refine q_mid7 (some 59) (recL ⟨R, A6, c6, B6, d6⟩) 33 (.tmp 58) b2 (o2 + k * 15) _ rfl (by kernel_rfl) rfl (by kernel_rfl) (fun w' hC j v hv => cellFr (R2.out j v hv) hC) Tryz.underlying33 rfl rec_size8 ?_
        refine q_call7 (some 60) (.bool true) 36 #[.agg (recL ⟨R, A5, c5, B5, d5⟩).toArray, .agg (recL ⟨R, A6, c6, B6, d6⟩).toArray] rfl (by kernel_rfl) (fun w' hC => by kernel_rfl) (fun w' hC => (same4_ok R A5 c5 B5 d5 A6 c6 B6 d6 w' (E.out.1.keep hC) (E.out.2.1.keep hC) E.out.2.2.1 E.out.2.2.2).mono (fun e w2 h => ⟨h.1, hC.then_none h.2⟩)) ?_
        refine q_val7 (some 61) (.bool false) rfl (by kernel_rfl) (fun w' hC => by kernel_rfl) ?_
        refine q_done7 ?_
        intro w7 hf7
        (try simp only [Exit.then])
        (try go_frame)
        (first | (rename_i hKm; refine hKm _ _ ?_) | (rename_i hKm _; refine hKm _ _ ?_) | (rename_i hKm _ _; refine hKm _ _ ?_) | (rename_i hKm _ _ _; refine hKm _ _ ?_))
        go_meet
        case rel => exact ⟨rfl, hf7⟩
      case rest =>
        obtain ⟨rfl, hf7⟩ := hcut
        have FQ := hid_ (FR.out.then_none hf7)
        clear hf7
        go_wp2_with fail
        go_roundw
        case rel => exact ⟨k + 1, by omega, by go_num, FQ.out⟩
        case measure => simp [intOf]; omega
    · obtain rfl : k = nc := by omega
      have p6 : wx.cell? ⟨gP, 6, none⟩ = some (.string lv.low) := BPr.out.cell' rfl
      have p7 : wx.cell? ⟨gP, 7, none⟩ = some (.string lv.high) := BPr.out.cell' rfl
      have p8 : wx.cell? ⟨gP, 8, none⟩ = some (.bool lv.unb) := BPr.out.cell' rfl
      have p9 : wx.cell? ⟨gP, 9, none⟩ = some (.int .i64 lv.right) := BPr.out.cell' rfl
      have p10 : wx.cell? ⟨gP, 10, none⟩ = some (.slice A lv.rows.length c) := BPr.out.cell' rfl
      have p11 : wx.cell? ⟨gP, 11, none⟩ = some (.bool lv.gone) := BPr.out.cell' rfl
      have p12 : wx.cell? ⟨gP, 12, none⟩ = some (.string iv.low) := BPr.out.cell' rfl
      have p13 : wx.cell? ⟨gP, 13, none⟩ = some (.string iv.high) := BPr.out.cell' rfl
      have p14 : wx.cell? ⟨gP, 14, none⟩ = some (.bool iv.unb) := BPr.out.cell' rfl
      have p15 : wx.cell? ⟨gP, 15, none⟩ = some (.int .i64 iv.right) := BPr.out.cell' rfl
      have p16 : wx.cell? ⟨gP, 16, none⟩ = some (.slice B iv.ents.length d) := BPr.out.cell' rfl
      have p17 : wx.cell? ⟨gP, 17, none⟩ = some (.bool iv.held) := BPr.out.cell' rfl
      have p18 : wx.cell? ⟨gP, 18, none⟩ = some (.int .i64 iv.hp) := BPr.out.cell' rfl
      have p19 : wx.cell? ⟨gP, 19, none⟩ = some (.int .i64 iv.hl) := BPr.out.cell' rfl
      have p20 : wx.cell? ⟨gP, 20, none⟩ = some (.string iv.hk) := BPr.out.cell' rfl
      go_upto_region 10 with fail
      obtain ⟨w2, hw2⟩ : ∃ z, z = wx.alloc (.cells (lwA lv (.slice A lv.rows.length c)) 45) := ⟨_, rfl⟩
      have K2 : Hid (Blk w2 wx.heap.size 45 (lwA lv (.slice A lv.rows.length c)) ∧ Fr none_ wx w2) := hid_ (by rw [hw2]; exact ⟨Blk.new _ _ _, (Fr.refl none_ _).alloc _⟩)
      change Code.wp _ _ _ _ (wx.alloc (.cells (lwA lv (.slice A lv.rows.length c)) 45))
      rw [← hw2]
      clear hw2
      replace BPr := hid_ (BPr.out.fr K2.out.2 id)
      replace BQr := hid_ (BQr.out.fr K2.out.2 id)
      replace H2r := hid_ (H2r.out.keep K2.out.2)
      replace FR := hid_ (FR.out.then_none K2.out.2)
      have G2 := hid_ K2.out.1
      obtain ⟨g2, hg2⟩ : ∃ g, g = wx.heap.size := ⟨_, rfl⟩
      rw [← hg2] at G2
      rw [← hg2]
      clear hg2 K2 p6 p7 p8 p9 p10 p11 p12 p13 p14 p15 p16 p17 p18 p19 p20
      have p12 : w2.cell? ⟨gP, 12, none⟩ = some (.string iv.low) := BPr.out.cell' rfl
      have p13 : w2.cell? ⟨gP, 13, none⟩ = some (.string iv.high) := BPr.out.cell' rfl
      have p14 : w2.cell? ⟨gP, 14, none⟩ = some (.bool iv.unb) := BPr.out.cell' rfl
      have p15 : w2.cell? ⟨gP, 15, none⟩ = some (.int .i64 iv.right) := BPr.out.cell' rfl
      have p16 : w2.cell? ⟨gP, 16, none⟩ = some (.slice B iv.ents.length d) := BPr.out.cell' rfl
      have p17 : w2.cell? ⟨gP, 17, none⟩ = some (.bool iv.held) := BPr.out.cell' rfl
      have p18 : w2.cell? ⟨gP, 18, none⟩ = some (.int .i64 iv.hp) := BPr.out.cell' rfl
      have p19 : w2.cell? ⟨gP, 19, none⟩ = some (.int .i64 iv.hl) := BPr.out.cell' rfl
      have p20 : w2.cell? ⟨gP, 20, none⟩ = some (.string iv.hk) := BPr.out.cell' rfl
      go_upto_region 11 with fail
      obtain ⟨w3, hw3⟩ : ∃ z, z = w2.alloc (.cells (vwA iv (.slice B iv.ents.length d)) 46) := ⟨_, rfl⟩
      have K3 : Hid (Blk w3 w2.heap.size 46 (vwA iv (.slice B iv.ents.length d)) ∧ Fr none_ w2 w3) := hid_ (by rw [hw3]; exact ⟨Blk.new _ _ _, (Fr.refl none_ _).alloc _⟩)
      change Code.wp _ _ _ _ (w2.alloc (.cells (vwA iv (.slice B iv.ents.length d)) 46))
      rw [← hw3]
      clear hw3
      replace G2 := hid_ (G2.out.fr K3.out.2 id)
      replace BQr := hid_ (BQr.out.fr K3.out.2 id)
      replace H2r := hid_ (H2r.out.keep K3.out.2)
      replace FR := hid_ (FR.out.then_none K3.out.2)
      have G3 := hid_ K3.out.1
      obtain ⟨g3, hg3⟩ : ∃ g, g = w2.heap.size := ⟨_, rfl⟩
      rw [← hg3] at G3
      rw [← hg3]
      clear hg3 K3 BPr p12 p13 p14 p15 p16 p17 p18 p19 p20
      have z0 : w3.cell? ⟨g2, 0, none⟩ = some (.string lv.low) := G2.out.cell' rfl
      have q6 : w3.cell? ⟨gP + 1, 6, none⟩ = some (.string lv.low) := BQr.out.cell' rfl
      have z1 : w3.cell? ⟨g2, 1, none⟩ = some (.string lv.high) := G2.out.cell' rfl
      have q7 : w3.cell? ⟨gP + 1, 7, none⟩ = some (.string lv.high) := BQr.out.cell' rfl
      have z2 : w3.cell? ⟨g2, 2, none⟩ = some (.bool lv.unb) := G2.out.cell' rfl
      have q8 : w3.cell? ⟨gP + 1, 8, none⟩ = some (.bool lv.unb) := BQr.out.cell' rfl
      have z3 : w3.cell? ⟨g2, 3, none⟩ = some (.int .i64 lv.right) := G2.out.cell' rfl
      have q9 : w3.cell? ⟨gP + 1, 9, none⟩ = some (.int .i64 lv.right) := BQr.out.cell' rfl
      have z4 : w3.cell? ⟨g2, 4, none⟩ = some (.slice A lv.rows.length c) := G2.out.cell' rfl
      have q10 : w3.cell? ⟨gP + 1, 10, none⟩ = some (.slice A2 lv.rows.length c2) := BQr.out.cell' rfl
      have z5 : w3.cell? ⟨g2, 5, none⟩ = some (.bool lv.gone) := G2.out.cell' rfl
      have q11 : w3.cell? ⟨gP + 1, 11, none⟩ = some (.bool lv.gone) := BQr.out.cell' rfl
      go_wp2_with fail
      refine (same7_ok lv A A2 c c2 w3 H2r.out.l1 H2r.out.l2 H2r.out.zl).mono ?_
      rintro e w4 ⟨rfl, hf4⟩
      replace G3 := hid_ (G3.out.fr hf4 id)
      replace BQr := hid_ (BQr.out.fr hf4 id)
      replace H2r := hid_ (H2r.out.keep hf4)
      replace FR := hid_ (FR.out.then_none hf4)
      clear hf4
      clear z0 q6 z1 q7 z2 q8 z3 q9 z4 q10 z5 q11
      have z0 : w4.cell? ⟨g3, 0, none⟩ = some (.string iv.low) := G3.out.cell' rfl
      have q12 : w4.cell? ⟨gP + 1, 12, none⟩ = some (.string iv.low) := BQr.out.cell' rfl
      have z1 : w4.cell? ⟨g3, 1, none⟩ = some (.string iv.high) := G3.out.cell' rfl
      have q13 : w4.cell? ⟨gP + 1, 13, none⟩ = some (.string iv.high) := BQr.out.cell' rfl
      have z2 : w4.cell? ⟨g3, 2, none⟩ = some (.bool iv.unb) := G3.out.cell' rfl
      have q14 : w4.cell? ⟨gP + 1, 14, none⟩ = some (.bool iv.unb) := BQr.out.cell' rfl
      have z3 : w4.cell? ⟨g3, 3, none⟩ = some (.int .i64 iv.right) := G3.out.cell' rfl
      have q15 : w4.cell? ⟨gP + 1, 15, none⟩ = some (.int .i64 iv.right) := BQr.out.cell' rfl
      have z4 : w4.cell? ⟨g3, 4, none⟩ = some (.slice B iv.ents.length d) := G3.out.cell' rfl
      have q16 : w4.cell? ⟨gP + 1, 16, none⟩ = some (.slice B2 iv.ents.length d2) := BQr.out.cell' rfl
      have z5 : w4.cell? ⟨g3, 5, none⟩ = some (.bool iv.held) := G3.out.cell' rfl
      have q17 : w4.cell? ⟨gP + 1, 17, none⟩ = some (.bool iv.held) := BQr.out.cell' rfl
      have z6 : w4.cell? ⟨g3, 6, none⟩ = some (.int .i64 iv.hp) := G3.out.cell' rfl
      have q18 : w4.cell? ⟨gP + 1, 18, none⟩ = some (.int .i64 iv.hp) := BQr.out.cell' rfl
      have z7 : w4.cell? ⟨g3, 7, none⟩ = some (.int .i64 iv.hl) := G3.out.cell' rfl
      have q19 : w4.cell? ⟨gP + 1, 19, none⟩ = some (.int .i64 iv.hl) := BQr.out.cell' rfl
      have z8 : w4.cell? ⟨g3, 8, none⟩ = some (.string iv.hk) := G3.out.cell' rfl
      have q20 : w4.cell? ⟨gP + 1, 20, none⟩ = some (.string iv.hk) := BQr.out.cell' rfl
      go_wp2_with fail
      refine (same8_ok iv B B2 d d2 w4 H2r.out.i1 H2r.out.i2 H2r.out.zi).mono ?_
      rintro e w5 ⟨rfl, hf5⟩
      replace FR := hid_ (FR.out.then_none hf5)
      clear hf5
      go_wp2_with fail
      go_ret
      exact ⟨rfl, F0.out.then_none FR.out⟩
end Go.Proofs.YtfihfjbakfadkaaGreatDoor
namespace Go.Proofs.YtfihfjbakfadkaaGreatDoor
open Go.RowKit Go.BigFrame
set_option maxRecDepth 100000
set_option linter.unusedVariables false
/-- What page.Of told. -/
def PgQ (n hs hg : Int) (l : List Rc) (refs : List (Int × Int)) (w : World) (qv : Array Value) (ev : Value) (k : Int) : Prop :=
  (∃ leaf lv iv A c B d C x D y b, ofM l = some (leaf, lv, iv) ∧ qv = pgA n hs hg (.slice C l.length x) (.slice D refs.length y) leaf lv (.slice A lv.rows.length c) iv (.slice B iv.ents.length d) ∧ PgIn b w l refs lv iv A c B d C x D y ∧ ev = .nilIface ∧ k = 0) ∨
  (CodeOf l k ∧ qv = pgZ ∧ ev = errV k)
/-- What the document's Of told, of the chain in A and refs in D. -/
def PgW (n hs hg : Int) (l : List Rc) (A : Option Addr) (m cap : Nat) (D : Option Addr) (rn rc : Nat) (w : World) (wv : Array Value) (k : Int) : Prop :=
  (∃ leaf lv iv A3 c3 B3 d3, ofM l = some (leaf, lv, iv) ∧ wv = pgA n hs hg (.slice A m cap) (.slice D rn rc) leaf lv (.slice A3 lv.rows.length c3) iv (.slice B3 iv.ents.length d3) ∧ lv.Ok ∧ Reads w 2 A3 lv.rows.length (rwFlat lv.rows) ∧ VwIn w iv B3 d3 ∧ k = 0) ∨ (CodeOf l k ∧ wv = pgZ)
theorem pgQ_of {n hs hg : Int} {l : List Rc} {refs : List (Int × Int)} {w w' : World} {e : Ending} (h : OfPostO n hs hg l refs w e w') : ∃ (qv : Array Value) (ev : Value) (k : Int), e = .returned (.tuple #[.agg qv, ev]) ∧ qv.size = 21 ∧ qv.all (·.oneCell') = true ∧ PgQ n hs hg l refs w' qv ev k ∧ Fr none_ w w' := by
  rcases h with ⟨leaf, lv, iv, A, c, B, d, C, x, D, y, h1, h2, h3, h4⟩ | ⟨k, hk, h1, h2, h4⟩
  · exact ⟨_, _, 0, h2, rfl, by simp [Value.oneCell'], .inl ⟨leaf, lv, iv, A, c, B, d, C, x, D, y, _, h1, rfl, h3.in_, rfl, rfl⟩, h4⟩
  · exact ⟨_, _, k, h2, rfl, by simp [Value.oneCell'], .inr ⟨hk, rfl, rfl⟩, h4⟩
theorem pgW_of {n hs hg : Int} {l : List Rc} {A D : Option Addr} {m cap rn rc : Nat} {w w' : World} {e : Ending} (h : ROfPostB n hs hg (.slice A m cap) (.slice D rn rc) l w e w') : ∃ (wv : Array Value) (k : Int), e = .returned (.tuple #[.agg wv, .int .i64 k]) ∧ wv.size = 21 ∧ wv.all (·.oneCell') = true ∧ PgW n hs hg l A m cap D rn rc w' wv k ∧ Fr none_ w w' := by
  rcases h with ⟨leaf, lv, iv, A3, c3, B3, d3, h1, h2, h3, h4, h5, h6⟩ | ⟨k, hk, h2, h4⟩
  · exact ⟨_, 0, h2, rfl, by simp [Value.oneCell'], .inl ⟨leaf, lv, iv, A3, c3, B3, d3, h1, rfl, h3, h4, h5, rfl⟩, h6⟩
  · exact ⟨_, k, h2, rfl, by simp [Value.oneCell'], .inr ⟨hk, rfl⟩, h4⟩
/-- Both tell the same code. -/
theorem pg_code {n hs hg : Int} {l : List Rc} {refs : List (Int × Int)} {A D : Option Addr} {m cap rn rc : Nat} {w w' : World} {qv wv : Array Value} {ev : Value} {k k' : Int} (hq : PgQ n hs hg l refs w qv ev k) (hw : PgW n hs hg l A m cap D rn rc w' wv k') : k = k' ∧ ((k = 0 ∧ ev = .nilIface) ∨ (k ≠ 0 ∧ ev = errV k)) := by
  rcases hq with ⟨leaf, lv, iv, A1, c1, B1, d1, C1, x1, D1, y1, b, h1, _, _, h2, rfl⟩ | ⟨h1, _, h2⟩
  · rcases hw with ⟨_, _, _, _, _, _, _, _, _, _, _, _, rfl⟩ | ⟨k1, _⟩
    · exact ⟨rfl, .inl ⟨rfl, h2⟩⟩
    · rw [k1.1] at h1; cases h1
  · rcases hw with ⟨_, _, _, _, _, _, _, k1, _⟩ | ⟨k1, _⟩
    · rw [h1.1] at k1; cases k1
    · exact ⟨h1.uniq k1, .inr ⟨h1.pos, h2⟩⟩
/-- Both are the same page. -/
theorem pg_same {n hs hg : Int} {L : List Ch} {refs : List (Int × Int)} {A D : Option Addr} {m cap rc : Nat} {qv wv : Array Value} {ev : Value} {k k' : Int} {w8 w9 w' : World} (hq : PgQ n hs hg (L.map (·.R)) refs w8 qv ev k) (hw : PgW n hs hg (L.map (·.R)) A m cap D refs.length rc w9 wv k') (hf8 : Fr none_ w8 w') (hf9 : Fr none_ w9 w')
    (hc : ChReads w' A m L) (hr : Reads w' 2 D refs.length (rpFlat refs)) (hrl : refs.length ≤ 5000) (hln : L.length = m) (hn : m ≤ 400) (hz : ∀ C ∈ L, C.R.rows.length ≤ 1000 ∧ C.R.ents.length ≤ 1000) :
    Calls Tryz.prog 11 #[.agg qv, .agg wv] w' fun e w2 => e = .returned (.bool true) ∧ Fr none_ w' w2 := by
  rcases hq with ⟨leaf, lv, iv, A1, c1, B1, d1, C1, x1, D1, y1, b, h1, rfl, hp, _, _⟩ | ⟨h1, rfl, _⟩
  · rcases hw with ⟨leaf2, lv2, iv2, A3, c3, B3, d3, k1, rfl, ko, k3, k4, _⟩ | ⟨k1, _⟩
    · rw [h1] at k1
      simp only [Option.some.injEq, Prod.mk.injEq] at k1
      obtain ⟨rfl, rfl, rfl⟩ := k1
      obtain ⟨Cs, m1, m2, m3⟩ := hp.ch
      rw [List.length_map, hln] at m2 ⊢
      have hcl : Cs.length = m := by have := congrArg List.length m1; simpa [hln] using this
      refine same10_ok n hs hg leaf lv iv refs m Cs L C1 A D1 D A1 A3 B1 B3 x1 cap y1 rc c1 c3 d1 d3 w' (by omega) ⟨(chReads_own m2 hcl (fun C hC => (m3 C hC).ok)).keep hf8, hc, m1.symm, fun E hE => ?_⟩ ⟨(Reads.of_own hp.rf).none_fr hf8, hr, (Reads.of_own hp.lv.own).none_fr hf8, k3.none_fr hf9, hp.iv.rd.none_fr hf8, k4.rd.none_fr hf9, hrl, hp.lv.ok.rows.1, by have := hp.iv.ok.ents.1; omega⟩
      have hR : E.R ∈ L.map (·.R) := by rw [← m1]; exact List.mem_map.2 ⟨E, hE, rfl⟩
      obtain ⟨F, hF, e⟩ := List.mem_map.1 hR
      have e' : F.R = E.R := e
      rw [← e']
      exact hz F hF
    · rw [k1.1] at h1; cases h1
  · rcases hw with ⟨leaf2, lv2, iv2, A3, c3, B3, d3, k1, _⟩ | ⟨k1, rfl⟩
    · rw [h1.1] at k1; cases k1
    · exact same10_ok 0 0 0 false Lw.zero Vw.zero [] 0 [] [] none none none none none none none none 0 0 0 0 0 0 0 0 w' (by omega) ⟨⟨rfl, fun h => absurd h (Nat.lt_irrefl 0)⟩, ⟨rfl, fun h => absurd h (Nat.lt_irrefl 0)⟩, rfl, fun E hE => by cases hE⟩ ⟨Reads.nil_, Reads.nil_, Reads.nil_, Reads.nil_, Reads.nil_, Reads.nil_, by simp, Nat.zero_le _, Nat.zero_le _⟩
end Go.Proofs.YtfihfjbakfadkaaGreatDoor
namespace Go.Proofs.YtfihfjbakfadkaaGreatDoor
open Go.RowKit Go.BigFrame
set_option maxRecDepth 100000
set_option linter.unusedVariables false
theorem few10_ok (A : Option Addr) (n cap : Nat) (L : List Ch) (w : World) (h : InReads w A n L) (hw : RwIn L) (hm : n ≤ maxLen) : Calls Tryz.prog 6 #[.slice A n cap] w fun e w' => ∃ b : Bool, e = .returned (.bool b) ∧ (b = true → FewOk7 L ∧ FewOk8 L ∧ n ≤ 40) ∧ Fr none_ w w' := by
  have H := hid_ h
  have HW := hid_ hw
  have hn0 : (0 : Int) ≤ (n : Int) := Int.natCast_nonneg _
  clear h hw
  go_enter Tryz.func6, Tryz.ntmps6
  by_cases h40 : n ≤ 40
  · have d0 : decide ((n : Int) ≤ 40) = true := by simp; omega
    have H40 := hid_ h40
    clear h40
    go_wp2_with fail
    refine (few7_ok A n cap L w H.out HW.out hm).mono ?_
    rintro e w1 ⟨b, rfl, hb, hf⟩
    have G0 := hid_ hb
    have F1 := hid_ hf
    clear hb hf
    cases b with
    | false =>
      go_wp2_with fail
      go_ret
      exact ⟨false, rfl, (fun h => by cases h), F1.out⟩
    | true =>
      go_wp2_with fail
      refine (few8_ok A n cap L w1 (H.out.keep F1.out) hm).mono ?_
      rintro e w2 ⟨b, rfl, hb, hf⟩
      have G1 := hid_ hb
      replace F1 := hid_ (F1.out.then_none hf)
      clear hb hf
      cases b with
      | false =>
        go_wp2_with fail
        go_ret
        exact ⟨false, rfl, (fun h => by cases h), F1.out⟩
      | true =>
        go_wp2_with fail
        go_ret
        exact ⟨true, rfl, (fun _ => ⟨G0.out trivial, G1.out trivial, H40.out⟩), F1.out⟩
  · have d0 : decide ((n : Int) ≤ 40) = false := by simp; omega
    clear h40
    go_wp2_with fail
    go_ret
    exact ⟨false, rfl, (fun h => by cases h), Fr.refl _ _⟩
/-- A value that may take another's place in p's own rows: a text may have grown by d. -/
def KS (d : Nat) (v v' : Value) : Prop := v' = v ∨ (∃ s s', v = .string s ∧ v' = .string s' ∧ s'.size ≤ s.size + d) ∨ (∃ a b, v = .int .i64 a ∧ v' = .int .i64 b)
theorem KS.refl (d : Nat) (v : Value) : KS d v v := .inl rfl
theorem KS.trans {d e : Nat} {a b c : Value} (h : KS d a b) (k : KS e b c) : KS (d + e) a c := by
  rcases h with rfl | ⟨s, s', rfl, rfl, h1⟩ | ⟨x, y, rfl, rfl⟩
  · rcases k with rfl | ⟨t, t', rfl, rfl, h2⟩ | h
    · exact .inl rfl
    · exact .inr (.inl ⟨t, t', rfl, rfl, by omega⟩)
    · exact .inr (.inr h)
  · rcases k with rfl | ⟨t, t', h0, rfl, h2⟩ | ⟨x, y, h0, _⟩
    · exact .inr (.inl ⟨s, s', rfl, rfl, by omega⟩)
    · cases h0
      exact .inr (.inl ⟨s, t', rfl, rfl, by omega⟩)
    · cases h0
  · rcases k with rfl | ⟨t, t', h1, _⟩ | ⟨x', y', h1, rfl⟩
    · exact .inr (.inr ⟨x, y, rfl, rfl⟩)
    · cases h1
    · exact .inr (.inr ⟨x, y', rfl, rfl⟩)
/-- Blocks keep their kinds. -/
def Sh (d : Nat) (w w' : World) : Prop := ∀ g t cs, Blk w g t cs → ∃ cs', Blk w' g t cs' ∧ ∀ (i : Nat) (v : Value), cs[i]? = some v → ∃ v', cs'[i]? = some v' ∧ KS d v v'
theorem Sh.refl (w : World) : Sh 0 w w := fun g t cs h => ⟨cs, h, fun i v hv => ⟨v, hv, KS.refl 0 v⟩⟩
theorem Sh.trans {d e : Nat} {a b c : World} (h : Sh d a b) (k : Sh e b c) : Sh (d + e) a c := fun g t cs hb => by
  obtain ⟨c1, h1, e1⟩ := h g t cs hb
  obtain ⟨c2, h2, e2⟩ := k g t c1 h1
  refine ⟨c2, h2, fun i v hv => ?_⟩
  obtain ⟨v1, hv1, k1⟩ := e1 i v hv
  obtain ⟨v2, hv2, k2⟩ := e2 i v1 hv1
  exact ⟨v2, hv2, k1.trans k2⟩
theorem Sh.set_ {d : Nat} {w : World} {g : Nat} {t : TypeId} {cs : Array Value} (hb : Blk w g t cs) {i : Nat} {v v' : Value} (hv : cs[i]? = some v) (hk : KS d v v') : Sh d w (w.setCell ⟨g, i, none⟩ v') := fun g2 t2 cs2 hb2 => by
  by_cases h : g2 = g
  · subst h
    obtain ⟨rfl, rfl⟩ : t2 = t ∧ cs2 = cs := by
      have h1 : w.heap[g2]? = _ := hb
      have h2 : w.heap[g2]? = _ := hb2
      rw [h1] at h2
      cases h2
      exact ⟨rfl, rfl⟩
    refine ⟨_, hb.set_ i v', fun j u hu => ?_⟩
    rw [Array.getElem?_setIfInBounds]
    by_cases hij : i = j
    · subst hij
      rw [hv] at hu
      cases hu
      have hl : i < cs2.size := (Array.getElem?_eq_some_iff.1 hv).1
      simp [hl]
      exact hk
    · simp [hij]
      exact ⟨u, hu, KS.refl d u⟩
  · exact ⟨cs2, hb2.fr (Fr.only1 w ⟨g, i, none⟩ v') h, fun j u hu => ⟨u, hu, KS.refl d u⟩⟩
end Go.Proofs.YtfihfjbakfadkaaGreatDoor
namespace Go.Proofs.YtfihfjbakfadkaaGreatDoor
open Go.RowKit
set_option maxRecDepth 100000
set_option linter.unusedVariables false

structure Sl where
  gen : Int
  used : Bool
  R : Rc
  vr : Value
  ve : Value
abbrev slL (s : Sl) : List Value := [.int .i64 s.gen, .bool s.used, .int .i64 s.R.kind, .string s.R.low, .string s.R.high, .bool s.R.unb, .int .i64 s.R.right, s.vr, s.ve, .string s.R.key, .string s.R.val, .int .i64 s.R.page, .int .i64 s.R.hpage, .int .i64 s.R.hleft, .string s.R.hkey, .int .i64 s.R.nslot, .int .i64 s.R.ngen]
def Sl.zero : Sl := ⟨0, false, Rc.zero, .slice none 0 0, .slice none 0 0⟩
def SlCells (cs : Array Value) (ss : List Sl) : Prop := cs.size = ss.length * 17 ∧ ∀ i s, ss[i]? = some s → ∀ j v, (slL s)[j]? = some v → cs[i * 17 + j]? = some v

theorem SlCells.set_ {cs : Array Value} {ss : List Sl} (h : SlCells cs ss) {i : Nat} (s : Sl) (hi : i < ss.length) : SlCells (setA cs (i * 17) (slL s)) (ss.set i s) := by
  refine ⟨by rw [setA_size, h.1]; simp, fun k t hk j v hj => ?_⟩
  have hjl : j < 17 := by have := (List.getElem?_eq_some_iff.1 hj).1; simpa using this
  rw [List.getElem?_set] at hk
  split at hk
  · subst_vars
    obtain rfl : s = t := by simpa using hk
    exact setA_in _ _ _ j v hj (by rw [h.1]; omega)
  · rename_i hne
    rw [setA_out _ _ _ _ (by simp; omega)]
    exact h.2 k t hk j v hj

structure Ar (w : World) (a G : Nat) (last : Int) (ss : List Sl) : Prop where
  hA : Blk w a 179 #[.slice (some ⟨G, 0, none⟩) ss.length ss.length, .int .i64 last]
  hG : ∃ cs, Blk w G 188 cs ∧ SlCells cs ss
  own : ∀ (i : Nat) (s : Sl), ss[i]? = some s → RecOwn w 0 s.R s.vr s.ve
  l40 : last ≤ 1099511627776
  len : ss.length ≤ 4096
  gen : ∀ s ∈ ss, 0 ≤ s.gen ∧ s.gen ≤ last
  sz : ∀ s ∈ ss, s.R.rows.length ≤ 1000 ∧ s.R.ents.length ≤ 1000
section
variable {w w' : World} {a G : Nat} {last : Int} {ss : List Sl}
theorem Ar.keep (h : Ar w a G last ss) (hf : Fr none_ w w') : Ar w' a G last ss := by
  obtain ⟨cs, hG, hc⟩ := h.hG
  exact ⟨h.hA.fr hf id, ⟨cs, hG.fr hf id, hc⟩, fun i s hs => (h.own i s hs).keep hf, h.l40, h.len, h.gen, h.sz⟩
theorem Ar.ltA (h : Ar w a G last ss) : a < w.heap.size := h.hA.lt
theorem Ar.ltG (h : Ar w a G last ss) : G < w.heap.size := by obtain ⟨cs, hG, hc⟩ := h.hG; exact hG.lt
theorem Ar.ne (h : Ar w a G last ss) : a ≠ G := by obtain ⟨cs, hG, hc⟩ := h.hG; exact Blk.ne_ h.hA hG (by decide)
/-- A cell of a slot. -/
theorem Ar.cell (h : Ar w a G last ss) {i : Nat} {s : Sl} (hs : ss[i]? = some s) (j : Nat) {v : Value} (hv : (slL s)[j]? = some v) : w.cell? ⟨G, i * 17 + j, none⟩ = some v := by
  obtain ⟨cs, hG, hc⟩ := h.hG
  exact hG.cell' (hc.2 i s hs j v hv)
theorem Ar.frozen (h : Ar w a G last ss) (o : Nat) : w.frozen? ⟨G, o, none⟩ = false := by
  obtain ⟨cs, hG, hc⟩ := h.hG
  exact hG.frozen o
/-- Where a block of another type was turned. -/
theorem Ar.beside (h : Ar w a G last ss) {g : Nat} {t : TypeId} {cs : Array Value} (hf : Fr (only g) w w') (hg : Blk w g t cs) (h1 : 143 ≠ t) (h2 : 59 ≠ t) (h3 : a ≠ g) (h4 : G ≠ g) : Ar w' a G last ss := by
  obtain ⟨cs, hG, hc⟩ := h.hG
  exact ⟨h.hA.fr hf (only_ne h3), ⟨cs, hG.fr hf (only_ne h4), hc⟩, fun i s hs => (h.own i s hs).only hf hg h1 h2, h.l40, h.len, h.gen, h.sz⟩
/-- A slot was written. -/
theorem Ar.put (h : Ar w a G last ss) {i : Nat} {s : Sl} (hi : i < ss.length) (hf : Fr (only G) w w') (hb : ∀ cs, Blk w G 188 cs → Blk w' G 188 (setA cs (i * 17) (slL s))) (ho : RecOwn w' 0 s.R s.vr s.ve) (hg : 0 ≤ s.gen ∧ s.gen ≤ last) (hz : s.R.rows.length ≤ 1000 ∧ s.R.ents.length ≤ 1000) : Ar w' a G last (ss.set i s) := by
  have hne := h.ne
  obtain ⟨cs, hG, hc⟩ := h.hG
  refine ⟨by rw [List.length_set]; exact h.hA.fr hf (only_ne hne), ⟨_, hb cs hG, hc.set_ s hi⟩, fun k t hk => ?_, h.l40, by rw [List.length_set]; exact h.len, fun t ht => ?_, fun t ht => ?_⟩
  · rw [List.getElem?_set] at hk
    split at hk
    · obtain rfl : s = t := by simpa using hk
      exact ho
    · exact (h.own k t hk).only hf hG (by decide) (by decide)
  · rcases List.mem_or_eq_of_mem_set ht with ht | rfl
    · exact h.gen t ht
    · exact hg
  · rcases List.mem_or_eq_of_mem_set ht with ht | rfl
    · exact h.sz t ht
    · exact hz
end

theorem slot_info : (Tryz.prog.info? 188).map (fun i => (i.zero, i.size, i.bytes)) = some (some (.agg (slL Sl.zero).toArray), 17, 208) := by kernel_rfl
theorem made_slots (n : Nat) : SlCells (madeCells (slL Sl.zero).toArray (n * 17)) (List.replicate n Sl.zero) := by
  refine ⟨by rw [size_madeCells, List.length_replicate], fun i s hs j v hv => ?_⟩
  have hjl : j < 17 := by have := (List.getElem?_eq_some_iff.1 hv).1; simpa using this
  rw [List.getElem?_replicate] at hs
  split at hs
  · rename_i hin
    obtain rfl : Sl.zero = s := by simpa using hs
    have hm : (i * 17 + j) % 17 = j := by omega
    have hz : (slL Sl.zero).toArray.size = 17 := rfl
    have hlt : i * 17 + j < n * 17 := by omega
    unfold madeCells
    rw [Array.getElem?_map, Array.getElem?_range, if_pos hlt]
    simp only [Option.map_some, hz, hm]
    rw [List.getElem?_eq_some_iff] at hv
    obtain ⟨h1, h2⟩ := hv
    rw [← h2]
    congr 1
    exact getElem!_pos _ _ _
  · cases hs
def NewAr (n : Nat) (last : Int) (w : World) (e : Ending) (w' : World) : Prop :=
  ∃ a G, e = .returned (.pointer (some ⟨a, 0, none⟩)) ∧ Ar w' a G last (List.replicate n Sl.zero) ∧ Fr none_ w w' ∧ w.heap.size ≤ a ∧ w.heap.size ≤ G
theorem arNew_ok (n : Nat) (last : Int) (w : World) (h1 : 1 ≤ n) (h2 : n ≤ 4096) (h3 : 1 ≤ last) (h4 : last ≤ 1099511627776) : Calls Tryz.prog 45 #[.int .i64 n, .int .i64 last] w (NewAr n last w) := by
  obtain ⟨i0, hi0, hz0, hs0, hb0⟩ := info_parts slot_info
  have hmk := fun W : World => run_make (P := Tryz.prog) W 177 188 i0 _ Tryz.underlying177 hi0 hz0 .i64 .i64 (n : Int) (n : Int) (by omega) (by omega) (by rw [hb0]; omega) (by omega)
  rw [hs0] at hmk
  simp only [Int.toNat_natCast] at hmk
  clear hi0 hz0 hs0 hb0
  go_enter Tryz.func45, Tryz.ntmps45
  go_wp2_with fail
  go_ret
  have hf : Fr none_ w ((w.alloc (.cells (madeCells (slL Sl.zero).toArray (n * 17)) 188)).alloc (.cells #[.slice (some ⟨w.heap.size, 0, none⟩) n n, .int .i64 last] 179)) := ((Fr.refl none_ w).alloc _).alloc _
  have hm : ∀ s ∈ List.replicate n Sl.zero, s = Sl.zero := fun s hs => List.eq_of_mem_replicate hs
  refine ⟨w.heap.size + 1, w.heap.size, rfl, ⟨?_, ⟨madeCells (slL Sl.zero).toArray (n * 17), ?_, made_slots n⟩, fun i s hs => ?_, h4, ?_, fun s hs => ?_, fun s hs => ?_⟩, hf, by omega, by omega⟩
  · have h0 := Blk.new (w.alloc (.cells (madeCells (slL Sl.zero).toArray (n * 17)) 188)) 179 #[.slice (some ⟨w.heap.size, 0, none⟩) n n, .int .i64 last]
    rw [World.size_alloc] at h0
    rw [List.length_replicate]
    exact h0
  · exact (Blk.new w 188 _).alloc _
  · rw [hm s (List.mem_of_getElem? hs)]
    exact RecOwn.zero _ 0
  · rw [List.length_replicate]; omega
  · rw [hm s hs]; exact ⟨by decide, by show (0 : Int) ≤ last; omega⟩
  · rw [hm s hs]; exact ⟨by decide, by decide⟩
end Go.Proofs.YtfihfjbakfadkaaGreatDoor
namespace Go.Proofs.YtfihfjbakfadkaaGreatDoor
open Go.RowKit
set_option maxRecDepth 100000
set_option linter.unusedVariables false

theorem Ar.there {w : World} {a G : Nat} {last : Int} {ss : List Sl} (h : Ar w a G last ss) {i : Nat} (hi : i < ss.length) {o n : Nat} (ho : i * 17 ≤ o) (hn : o + n ≤ i * 17 + 17) : w.there G o n := by
  obtain ⟨cs, hG, hc⟩ := h.hG
  intro j hj
  refine ⟨?_, hG.frozen _⟩
  rw [hG.cell, Array.getElem?_eq_getElem (by rw [hc.1]; omega)]
  rfl
theorem slot_size : (Tryz.prog.info? 188).map (·.size) = some 17 := by kernel_rfl
theorem rec_size : (Tryz.prog.info? 33).map (·.size) = some 15 := by kernel_rfl
theorem box2 {w1 : World} {b : Nat} {t : TypeId} {c0 c1 : Value} (h : Blk w1 b t #[c0, c1]) (x0 x1 : Value) : Blk ((w1.setCell ⟨b, 0, none⟩ x0).setCell ⟨b, 1, none⟩ x1) b t #[x0, x1] ∧ Fr (only b) w1 ((w1.setCell ⟨b, 0, none⟩ x0).setCell ⟨b, 1, none⟩ x1) :=
  ⟨(h.set_ 0 x0).set_ 1 x1, ((Fr.refl (only b) w1).setCell (p := ⟨b, 0, none⟩) (.inl (Eq.refl _)) x0).setCell (p := ⟨b, 1, none⟩) (.inl (Eq.refl _)) x1⟩

def allocErr (ss : List Sl) : Int := if ss.all (·.used) then 3 else 5
theorem allocErr_used {ss : List Sl} {k : Nat} {s : Sl} (hs : ss[k]? = some s) (hu : s.used = true) : allocErr (ss.take (k + 1)) = allocErr (ss.take k) := by
  unfold allocErr
  rw [List.take_add_one, hs]
  simp [hu]
theorem allocErr_worn {ss : List Sl} {k : Nat} {s : Sl} (hs : ss[k]? = some s) (hu : s.used = false) : allocErr (ss.take (k + 1)) = 5 := by
  unfold allocErr
  rw [List.take_add_one, hs]
  simp [hu]
def AllocPost (w : World) (a G : Nat) (last : Int) (ss : List Sl) (R : Rc) (e : Ending) (w' : World) : Prop :=
  (∃ (i : Nat) (s : Sl) (vr ve : Value), ss[i]? = some s ∧ (s.used = false ∧ s.gen ≠ last) ∧ (∀ j t, j < i → ss[j]? = some t → t.used = true ∨ t.gen = last) ∧ e = .returned (.tuple #[.agg #[.int .i64 ((i : Int) + 1), .int .i64 (s.gen + 1)], .nilIface]) ∧ Ar w' a G last (ss.set i ⟨s.gen + 1, true, R, vr, ve⟩) ∧ RecOwn w' w.heap.size R vr ve ∧ Fr (only G) w w') ∨
  ((∀ (j : Nat) t, ss[j]? = some t → t.used = true ∨ t.gen = last) ∧ e = .returned (.tuple #[.agg #[.int .i64 0, .int .i64 0], errV (allocErr ss)]) ∧ Fr none_ w w')

set_option maxHeartbeats 4000000 in
theorem alloc_ok (R : Rc) (A : Option Addr) (c : Nat) (B : Option Addr) (d : Nat) (w : World) (a G : Nat) (last : Int) (ss : List Sl) (h : Ar w a G last ss) (hr : RecReads w R A B) (hz : R.rows.length ≤ 1000 ∧ R.ents.length ≤ 1000) :
    Calls Tryz.prog 48 #[.pointer (some ⟨a, 0, none⟩), recV R (.slice A R.rows.length c) (.slice B R.ents.length d)] w (AllocPost w a G last ss R) := by
  have hlen := h.len
  have hl40 := h.l40
  obtain ⟨w0, hw0⟩ : ∃ w0, w0 = (w.alloc (recB R (.slice A R.rows.length c) (.slice B R.ents.length d))).alloc (.cells #[.int .i64 0, .int .i64 0] 23) := ⟨_, rfl⟩
  have f0 : Fr none_ w w0 := by rw [hw0]; exact ((Fr.refl none_ w).alloc _).alloc _
  have F0 := hid_ f0
  have X0 := hid_ (h.keep f0)
  have R0 := hid_ (hr.keep f0)
  have P0 : Hid (Blk w0 w.heap.size 33 (recA R (.slice A R.rows.length c) (.slice B R.ents.length d))) := hid_ (by rw [hw0]; exact (Blk.new w _ _).alloc _)
  have Q0 : Hid (Blk w0 (w.heap.size + 1) 23 #[.int .i64 0, .int .i64 0]) := hid_ (by have := Blk.new (w.alloc (recB R (.slice A R.rows.length c) (.slice B R.ents.length d))) 23 #[.int .i64 0, .int .i64 0]; rw [World.size_alloc] at this; rw [hw0]; exact this)
  have hltA := h.ltA
  have hltG := h.ltG
  have lA : a < w.heap.size + 1 := by omega
  have lA2 : a < w.heap.size + 1 + 1 := by omega
  have c0 : w.cell? ⟨a, 0, none⟩ = some (.slice (some ⟨G, 0, none⟩) ss.length ss.length) := h.hA.cell' rfl
  clear f0 h hr
  go_enter Tryz.func48, Tryz.ntmps48
  go_wp2_with fail
  change Code.wp _ _ _ _ ((w.alloc (recB R (.slice A R.rows.length c) (.slice B R.ents.length d))).alloc (.cells #[.int .i64 0, .int .i64 0] 23))
  rw [← hw0]
  clear hw0 c0
  go_loopw [19, 6] (fun i e wr => ∃ (k : Nat) (ek : Int), k ≤ ss.length ∧ i = .int .i64 k ∧ e = errV ek ∧ ek = allocErr (ss.take k) ∧ (∀ j t, j < k → ss[j]? = some t → t.used = true ∨ t.gen = last) ∧ Fr none_ w0 wr) (fun i _ _ => ss.length - (intOf i).toNat)
  case atStart => exact ⟨0, 3, Nat.zero_le _, rfl, rfl, by simp [allocErr], fun j t hj => by omega, Fr.refl _ _⟩
  case round =>
    obtain ⟨k, ek, hk, rfl, rfl, hek, hno, hF⟩ := hrel
    have Hek := hid_ hek
    have Hno := hid_ hno
    have F := hid_ (F0.out.then_none hF)
    have FL := hid_ hF
    have X := hid_ (X0.out.keep hF)
    have R1 := hid_ (R0.out.keep hF)
    have P := hid_ (P0.out.fr hF id)
    have Q := hid_ (Q0.out.fr hF id)
    clear hek hno hF
    by_cases hlt : k < ss.length
    · obtain ⟨s, hs⟩ : ∃ s, ss[k]? = some s := ⟨_, List.getElem?_eq_getElem hlt⟩
      have hi0 : (0 : Int) ≤ (k : Int) := Int.natCast_nonneg _
      have hi1 : (k : Int) < (ss.length : Int) := by omega
      have a0 : wr.cell? ⟨a, 0, none⟩ = some (.slice (some ⟨G, 0, none⟩) ss.length ss.length) := X.out.hA.cell' rfl
      have a1 : wr.cell? ⟨a, 1, none⟩ = some (.int .i64 last) := X.out.hA.cell' rfl
      have g0 : wr.cell? ⟨G, k * 17, none⟩ = some (.int .i64 s.gen) := X.out.cell hs 0 rfl
      have Hs := hid_ hs
      have hgl := X.out.gen s (List.mem_of_getElem? hs)
      clear hs
      by_cases hu : s.used = true
      · have g1 : wr.cell? ⟨G, k * 17 + 1, none⟩ = some (.bool true) := by rw [← hu]; exact X.out.cell Hs.out 1 rfl
        go_wp2_with fail
        go_roundw
        case rel => exact ⟨k + 1, ek, by omega, by go_num, rfl, by rw [allocErr_used Hs.out hu]; exact Hek.out, fun j t hj ht => by
          rcases Nat.lt_succ_iff_lt_or_eq.1 hj with hj | rfl
          · exact Hno.out j t hj ht
          · obtain rfl := Option.some.inj (Hs.out.symm.trans ht)
            exact .inl hu, FL.out⟩
        case measure => simp [intOf]; omega
      have hu : s.used = false := by simpa using hu
      have g1 : wr.cell? ⟨G, k * 17 + 1, none⟩ = some (.bool false) := by rw [← hu]; exact X.out.cell Hs.out 1 rfl
      by_cases hw : s.gen = last
      · have hwb : (s.gen == last) = true := by simpa using hw
        have Hw := hid_ hw
        clear hw
        go_wp2_with fail
        go_quiet (fail)
        have FQ := hid_ (FL.out.drewN nq)
        clear g0 g1 a0 a1
        go_wp2
        go_roundw
        case rel => exact ⟨k + 1, 5, by omega, by go_num, rfl, by rw [allocErr_worn Hs.out hu], fun j t hj ht => by
          rcases Nat.lt_succ_iff_lt_or_eq.1 hj with hj | rfl
          · exact Hno.out j t hj ht
          · obtain rfl := Option.some.inj (Hs.out.symm.trans ht)
            exact .inr Hw.out, FQ.out⟩
        case measure => simp [intOf]; omega
      · have hwb : (s.gen == last) = false := by simpa using hw
        have Hw := hid_ hw
        have hgt : s.gen < last := by omega
        clear hw
        go_wp2_with fail
        go_quiet (fail)
        obtain ⟨wq, hwq⟩ : ∃ wq, wq = wr.drewN nq := ⟨_, rfl⟩
        rw [← hwq]
        have hfq : Fr none_ wr wq := by rw [hwq]; exact (Fr.refl none_ wr).drewN nq
        have XQ := hid_ (X.out.keep hfq)
        have RQ := hid_ (R1.out.keep hfq)
        have PQ := hid_ (P.out.fr hfq id)
        have QQ := hid_ (Q.out.fr hfq id)
        have FQ := hid_ (F.out.then_none hfq)
        clear g0 g1 a0 a1 hwq hfq
        have hw : IntKind.i64.wrap (s.gen + 1) = s.gen + 1 := IntWalk.i64_in _ (by omega)
        go_wp2_with fail
        have hS0 : (fun w' : World => w'.cell? ⟨G, k * 17, none⟩ = some (.int .i64 s.gen) ∧ w'.cell? ⟨w.heap.size, 0, none⟩ = some (.int .i64 R.kind) ∧ w'.cell? ⟨w.heap.size, 1, none⟩ = some (.string R.low) ∧ w'.cell? ⟨w.heap.size, 2, none⟩ = some (.string R.high) ∧ w'.cell? ⟨w.heap.size, 3, none⟩ = some (.bool R.unb) ∧ w'.cell? ⟨w.heap.size, 4, none⟩ = some (.int .i64 R.right) ∧ w'.cell? ⟨w.heap.size, 5, none⟩ = some (.slice A R.rows.length c) ∧ w'.cell? ⟨w.heap.size, 6, none⟩ = some (.slice B R.ents.length d) ∧ w'.cell? ⟨w.heap.size, 7, none⟩ = some (.string R.key) ∧ w'.cell? ⟨w.heap.size, 8, none⟩ = some (.string R.val) ∧ w'.cell? ⟨w.heap.size, 9, none⟩ = some (.int .i64 R.page) ∧ w'.cell? ⟨w.heap.size, 10, none⟩ = some (.int .i64 R.hpage) ∧ w'.cell? ⟨w.heap.size, 11, none⟩ = some (.int .i64 R.hleft) ∧ w'.cell? ⟨w.heap.size, 12, none⟩ = some (.string R.hkey) ∧ w'.cell? ⟨w.heap.size, 13, none⟩ = some (.int .i64 R.nslot) ∧ w'.cell? ⟨w.heap.size, 14, none⟩ = some (.int .i64 R.ngen)) wq.drew := ⟨XQ.out.cell Hs.out 0 rfl, PQ.out.cell' rfl, PQ.out.cell' rfl, PQ.out.cell' rfl, PQ.out.cell' rfl, PQ.out.cell' rfl, PQ.out.cell' rfl, PQ.out.cell' rfl, PQ.out.cell' rfl, PQ.out.cell' rfl, PQ.out.cell' rfl, PQ.out.cell' rfl, PQ.out.cell' rfl, PQ.out.cell' rfl, PQ.out.cell' rfl, PQ.out.cell' rfl⟩
        refine wp_region_T (m := 10) (S := fun w' : World => w'.cell? ⟨G, k * 17, none⟩ = some (.int .i64 s.gen) ∧ w'.cell? ⟨w.heap.size, 0, none⟩ = some (.int .i64 R.kind) ∧ w'.cell? ⟨w.heap.size, 1, none⟩ = some (.string R.low) ∧ w'.cell? ⟨w.heap.size, 2, none⟩ = some (.string R.high) ∧ w'.cell? ⟨w.heap.size, 3, none⟩ = some (.bool R.unb) ∧ w'.cell? ⟨w.heap.size, 4, none⟩ = some (.int .i64 R.right) ∧ w'.cell? ⟨w.heap.size, 5, none⟩ = some (.slice A R.rows.length c) ∧ w'.cell? ⟨w.heap.size, 6, none⟩ = some (.slice B R.ents.length d) ∧ w'.cell? ⟨w.heap.size, 7, none⟩ = some (.string R.key) ∧ w'.cell? ⟨w.heap.size, 8, none⟩ = some (.string R.val) ∧ w'.cell? ⟨w.heap.size, 9, none⟩ = some (.int .i64 R.page) ∧ w'.cell? ⟨w.heap.size, 10, none⟩ = some (.int .i64 R.hpage) ∧ w'.cell? ⟨w.heap.size, 11, none⟩ = some (.int .i64 R.hleft) ∧ w'.cell? ⟨w.heap.size, 12, none⟩ = some (.string R.hkey) ∧ w'.cell? ⟨w.heap.size, 13, none⟩ = some (.int .i64 R.nslot) ∧ w'.cell? ⟨w.heap.size, 14, none⟩ = some (.int .i64 R.ngen)) (by kernel_rfl) ?_
        refine wpAnyT_take (i := 0) (v := _) rfl (by kernel_rfl) (by kernel_rfl) (by kernel_rfl) (by kernel_rfl) (fun _ _ _ h => h) (.inl ⟨by simp [Region.wanted], fun w' hS => by obtain ⟨s0, s1, s2, s3, s4, s5, s6, s7, s8, s9, s10, s11, s12, s13, s14, s15⟩ := hS; go_simp; rfl⟩) hS0 ?_
        refine wpAnyT_take (i := 1) (v := _) rfl (by kernel_rfl) (by kernel_rfl) (by kernel_rfl) (by kernel_rfl) (fun _ _ _ h => h) (.inl ⟨by simp [Region.wanted], fun w' hS => by obtain ⟨s0, s1, s2, s3, s4, s5, s6, s7, s8, s9, s10, s11, s12, s13, s14, s15⟩ := hS; go_simp; rfl⟩) hS0 ?_
        refine wpAnyT_take (i := 2) (v := _) rfl (by kernel_rfl) (by kernel_rfl) (by kernel_rfl) (by kernel_rfl) (fun _ _ _ h => h) (.inl ⟨by simp [Region.wanted], fun w' hS => by obtain ⟨s0, s1, s2, s3, s4, s5, s6, s7, s8, s9, s10, s11, s12, s13, s14, s15⟩ := hS; go_simp; rfl⟩) hS0 ?_
        refine wpAnyT_take (i := 3) (v := _) rfl (by kernel_rfl) (by kernel_rfl) (by kernel_rfl) (by kernel_rfl) (fun _ _ _ h => h) (.inl ⟨by simp [Region.wanted], fun w' hS => by obtain ⟨s0, s1, s2, s3, s4, s5, s6, s7, s8, s9, s10, s11, s12, s13, s14, s15⟩ := hS; go_simp; rfl⟩) hS0 ?_
        refine wpAnyT_take (i := 4) (v := _) rfl (by kernel_rfl) (by kernel_rfl) (by kernel_rfl) (by kernel_rfl) (fun _ _ _ h => h) (.inl ⟨by simp [Region.wanted], fun w' hS => by obtain ⟨s0, s1, s2, s3, s4, s5, s6, s7, s8, s9, s10, s11, s12, s13, s14, s15⟩ := hS; go_simp; rfl⟩) hS0 ?_
        refine wpAnyT_take (i := 5) (v := _) rfl (by kernel_rfl) (by kernel_rfl) (by kernel_rfl) (by kernel_rfl) (fun _ _ _ h => h) (.inl ⟨by simp [Region.wanted], fun w' hS => by obtain ⟨s0, s1, s2, s3, s4, s5, s6, s7, s8, s9, s10, s11, s12, s13, s14, s15⟩ := hS; go_simp; rfl⟩) hS0 ?_
        refine wpAnyT_take (i := 6) (v := _) rfl (by kernel_rfl) (by kernel_rfl) (by kernel_rfl) (by kernel_rfl) (fun _ _ _ h => h) (.inl ⟨by simp [Region.wanted], fun w' hS => by obtain ⟨s0, s1, s2, s3, s4, s5, s6, s7, s8, s9, s10, s11, s12, s13, s14, s15⟩ := hS; go_simp; rfl⟩) hS0 ?_
        have s0 : wq.drew.cell? ⟨G, k * 17, none⟩ = some (.int .i64 s.gen) := XQ.out.cell Hs.out 0 rfl
        have s1 : wq.drew.cell? ⟨w.heap.size, 0, none⟩ = some (.int .i64 R.kind) := PQ.out.cell' rfl
        have s2 : wq.drew.cell? ⟨w.heap.size, 1, none⟩ = some (.string R.low) := PQ.out.cell' rfl
        have s3 : wq.drew.cell? ⟨w.heap.size, 2, none⟩ = some (.string R.high) := PQ.out.cell' rfl
        have s4 : wq.drew.cell? ⟨w.heap.size, 3, none⟩ = some (.bool R.unb) := PQ.out.cell' rfl
        have s5 : wq.drew.cell? ⟨w.heap.size, 4, none⟩ = some (.int .i64 R.right) := PQ.out.cell' rfl
        have s6 : wq.drew.cell? ⟨w.heap.size, 5, none⟩ = some (.slice A R.rows.length c) := PQ.out.cell' rfl
        have s7 : wq.drew.cell? ⟨w.heap.size, 6, none⟩ = some (.slice B R.ents.length d) := PQ.out.cell' rfl
        have s8 : wq.drew.cell? ⟨w.heap.size, 7, none⟩ = some (.string R.key) := PQ.out.cell' rfl
        have s9 : wq.drew.cell? ⟨w.heap.size, 8, none⟩ = some (.string R.val) := PQ.out.cell' rfl
        have s10 : wq.drew.cell? ⟨w.heap.size, 9, none⟩ = some (.int .i64 R.page) := PQ.out.cell' rfl
        have s11 : wq.drew.cell? ⟨w.heap.size, 10, none⟩ = some (.int .i64 R.hpage) := PQ.out.cell' rfl
        have s12 : wq.drew.cell? ⟨w.heap.size, 11, none⟩ = some (.int .i64 R.hleft) := PQ.out.cell' rfl
        have s13 : wq.drew.cell? ⟨w.heap.size, 12, none⟩ = some (.string R.hkey) := PQ.out.cell' rfl
        have s14 : wq.drew.cell? ⟨w.heap.size, 13, none⟩ = some (.int .i64 R.nslot) := PQ.out.cell' rfl
        have s15 : wq.drew.cell? ⟨w.heap.size, 14, none⟩ = some (.int .i64 R.ngen) := PQ.out.cell' rfl
        clear hS0
        refine wpAnyT_one (i := 7) rfl rfl (by kernel_rfl) ?_
        go_simp
        go_at_call 8
        refine (clone_ok R A c B d _ (RQ.out.keep ((Fr.refl none_ wq).drew)) hz.1 hz.2).mono ?_
        rintro e w5 ⟨A5, c5, B5, d5, rfl, hown, hf5⟩
        have hf5 : Fr none_ wq w5 := ((Fr.refl none_ wq).drew).then_none hf5
        have O5 := hid_ hown
        have X5 := hid_ (XQ.out.keep hf5)
        have P5 := hid_ (PQ.out.fr hf5 id)
        have Q5 := hid_ (QQ.out.fr hf5 id)
        have F5 := hid_ (FQ.out.then_none hf5)
        clear hown hf5 s0 s1 s2 s3 s4 s5 s6 s7 s8 s9 s10 s11 s12 s13 s14 s15
        have s0 : w5.cell? ⟨G, k * 17, none⟩ = some (.int .i64 s.gen) := X5.out.cell Hs.out 0 rfl
        have s1 : w5.cell? ⟨w.heap.size, 0, none⟩ = some (.int .i64 R.kind) := P5.out.cell' rfl
        have s2 : w5.cell? ⟨w.heap.size, 1, none⟩ = some (.string R.low) := P5.out.cell' rfl
        have s3 : w5.cell? ⟨w.heap.size, 2, none⟩ = some (.string R.high) := P5.out.cell' rfl
        have s4 : w5.cell? ⟨w.heap.size, 3, none⟩ = some (.bool R.unb) := P5.out.cell' rfl
        have s5 : w5.cell? ⟨w.heap.size, 4, none⟩ = some (.int .i64 R.right) := P5.out.cell' rfl
        have s6 : w5.cell? ⟨w.heap.size, 5, none⟩ = some (.slice A R.rows.length c) := P5.out.cell' rfl
        have s7 : w5.cell? ⟨w.heap.size, 6, none⟩ = some (.slice B R.ents.length d) := P5.out.cell' rfl
        have s8 : w5.cell? ⟨w.heap.size, 7, none⟩ = some (.string R.key) := P5.out.cell' rfl
        have s9 : w5.cell? ⟨w.heap.size, 8, none⟩ = some (.string R.val) := P5.out.cell' rfl
        have s10 : w5.cell? ⟨w.heap.size, 9, none⟩ = some (.int .i64 R.page) := P5.out.cell' rfl
        have s11 : w5.cell? ⟨w.heap.size, 10, none⟩ = some (.int .i64 R.hpage) := P5.out.cell' rfl
        have s12 : w5.cell? ⟨w.heap.size, 11, none⟩ = some (.int .i64 R.hleft) := P5.out.cell' rfl
        have s13 : w5.cell? ⟨w.heap.size, 12, none⟩ = some (.string R.hkey) := P5.out.cell' rfl
        have s14 : w5.cell? ⟨w.heap.size, 13, none⟩ = some (.int .i64 R.nslot) := P5.out.cell' rfl
        have s15 : w5.cell? ⟨w.heap.size, 14, none⟩ = some (.int .i64 R.ngen) := P5.out.cell' rfl
        refine ⟨⟨s0, s1, s2, s3, s4, s5, s6, s7, s8, s9, s10, s11, s12, s13, s14, s15⟩, ?_⟩
        refine wpAnyT_one (i := 8) rfl rfl (by kernel_rfl) ?_
        go_simp
        refine wpAnyT_one (i := 9) rfl rfl (by kernel_rfl) ?_
        go_simp
        clear s0 s1 s2 s3 s4 s5 s6 s7 s8 s9 s10 s11 s12 s13 s14 s15
        refine wpAnyT_one (i := 10) rfl rfl (by kernel_rfl) ?_
        refine wp_store_mid 188 (.tmp 51) (.tmp 50) rfl G (k * 17) (slL ⟨s.gen + 1, true, R, .slice A5 R.rows.length c5, .slice B5 R.ents.length d5⟩).toArray rfl rfl (X5.out.there hlt (Nat.le_refl _) (Nat.le_refl _)) slot_size (by simp [slL, Value.oneCell']) ?_
        refine ⟨.inl rfl, ?_⟩
        refine wpAnyT_done (by kernel_rfl) ?_ _
        obtain ⟨w9, hw9⟩ : ∃ w9, w9 = w5.setCells G (k * 17) (slL ⟨s.gen + 1, true, R, .slice A5 R.rows.length c5, .slice B5 R.ents.length d5⟩) := ⟨_, rfl⟩
        change Exit.then _ _ _ _ (w5.setCells G (k * 17) (slL ⟨s.gen + 1, true, R, .slice A5 R.rows.length c5, .slice B5 R.ents.length d5⟩))
        rw [← hw9]
        have h9 : Fr (only G) w5 w9 := by rw [hw9]; exact Fr.setCells _ _ _ (Fr.refl _ _) (.inl (Eq.refl _))
        have hG5 : ∃ cs, Blk w5 G 188 cs := by obtain ⟨cs, hG, hc⟩ := X5.out.hG; exact ⟨cs, hG⟩
        obtain ⟨cs5, hG5⟩ := hG5
        have o9 : RecOwn w9 wq.heap.size R (.slice A5 R.rows.length c5) (.slice B5 R.ents.length d5) := O5.out.only h9 hG5 (by decide) (by decide)
        have X9 := hid_ (X5.out.put (s := ⟨s.gen + 1, true, R, .slice A5 R.rows.length c5, .slice B5 R.ents.length d5⟩) hlt h9 (fun cs hb => by rw [hw9]; exact Blk.setCells _ _ _ _ hb) (o9.base (Nat.zero_le _)) ⟨by show 0 ≤ s.gen + 1; omega, by show s.gen + 1 ≤ last; omega⟩ hz)
        have O9 := hid_ (o9.base FQ.out.size)
        have Q9 := hid_ (Q5.out.fr h9 (only_ne (Ne.symm (Blk.ne_ hG5 Q5.out (by decide)))))
        have F9 : Hid (Fr (only G) w w9) := hid_ ((F5.out.mono (fun _ _ e => e.elim)).then_only h9 (.inl (Eq.refl _)))
        clear hw9 h9 hG5 o9
        have g9 : w9.cell? ⟨G, k * 17, none⟩ = some (.int .i64 (s.gen + 1)) := X9.out.cell (List.getElem?_set_self hlt) 0 rfl
        have y0 : w9.cell? ⟨w.heap.size + 1, 0, none⟩ = some (.int .i64 0) := Q9.out.cell' rfl
        have y1 : w9.cell? ⟨w.heap.size + 1, 1, none⟩ = some (.int .i64 0) := Q9.out.cell' rfl
        have f0 := Q9.out.frozen 0
        have f1 := Q9.out.frozen 1
        have hwk : IntKind.i64.wrap ((k : Int) + 1) = (k : Int) + 1 := IntWalk.i64_in _ (by omega)
        go_wp2_with fail
        clear g9 y0 y1 f0 f1
        obtain ⟨qb, qf⟩ := box2 Q9.out (.int .i64 ((k : Int) + 1)) (.int .i64 (s.gen + 1))
        have x0 := qb.cell' (i := 0) rfl
        have x1 := qb.cell' (i := 1) rfl
        have hnG : G ≠ w.heap.size + 1 := by omega
        have hnA : a ≠ w.heap.size + 1 := by omega
        refine bodyPost_ret (v := .tuple #[.agg #[.int .i64 ((k : Int) + 1), .int .i64 (s.gen + 1)], .nilIface]) ?_ rfl (.inl ⟨k, s, _, _, Hs.out, ⟨hu, Hw.out⟩, Hno.out, rfl, X9.out.beside qf Q9.out (by decide) (by decide) hnA hnG, O9.out.only qf Q9.out (by decide) (by decide), F9.out.then_only qf (.inr (by omega))⟩)
        simp [results, Tryz.results48, go_sem, x0, x1]
    · obtain rfl : k = ss.length := by omega
      have y0 : wr.cell? ⟨w.heap.size + 1, 0, none⟩ = some (.int .i64 0) := Q.out.cell' rfl
      have y1 : wr.cell? ⟨w.heap.size + 1, 1, none⟩ = some (.int .i64 0) := Q.out.cell' rfl
      have f0 := Q.out.frozen 0
      have f1 := Q.out.frozen 1
      go_wp2_with fail
      clear y0 y1 f0 f1
      obtain ⟨qb, qf⟩ := box2 Q.out (.int .i64 0) (.int .i64 0)
      have x0 := qb.cell' (i := 0) rfl
      have x1 := qb.cell' (i := 1) rfl
      have hek := Hek.out
      rw [List.take_length] at hek
      refine bodyPost_ret (v := .tuple #[.agg #[.int .i64 0, .int .i64 0], errV ek]) ?_ rfl (.inr ⟨fun j t ht => Hno.out j t (List.getElem?_eq_some_iff.1 ht).1 ht, by rw [hek], F.out.then_only qf (.inr (by omega))⟩)
      simp [results, Tryz.results48, go_sem, x0, x1]
end Go.Proofs.YtfihfjbakfadkaaGreatDoor
namespace Go.Proofs.YtfihfjbakfadkaaGreatDoor
open Go.RowKit
set_option maxRecDepth 100000
set_option linter.unusedVariables false

/-- What at says of a ref: 0, it is live; 1, it is no slot's; 4, it is stale. -/
def atC (ss : List Sl) (sl gn : Int) : Int :=
  if sl < 1 ∨ (ss.length : Int) < sl then 1 else
  match ss[(sl - 1).toNat]? with
  | some s => if s.used = true ∧ s.gen = gn then 0 else 4
  | none => 1
theorem atC_cases (ss : List Sl) (sl gn : Int) : (atC ss sl gn = 1 ∧ (sl < 1 ∨ (ss.length : Int) < sl)) ∨ ∃ (i : Nat) (s : Sl), sl = (i : Int) + 1 ∧ ss[i]? = some s ∧ ((atC ss sl gn = 4 ∧ ¬ (s.used = true ∧ s.gen = gn)) ∨ (atC ss sl gn = 0 ∧ s.used = true ∧ s.gen = gn)) := by
  unfold atC
  by_cases h : sl < 1 ∨ (ss.length : Int) < sl
  · exact .inl ⟨if_pos h, h⟩
  · rw [if_neg h]
    have hl : (sl - 1).toNat < ss.length := by omega
    refine .inr ⟨(sl - 1).toNat, ss[(sl - 1).toNat], by omega, List.getElem?_eq_getElem hl, ?_⟩
    rw [List.getElem?_eq_getElem hl]
    by_cases h2 : ss[(sl - 1).toNat].used = true ∧ ss[(sl - 1).toNat].gen = gn
    · exact .inr ⟨if_pos h2, h2⟩
    · exact .inl ⟨if_neg h2, h2⟩

section
variable (w : World) (a G : Nat) (last : Int) (ss : List Sl) (sl gn : Int)
variable {w a G last ss}
theorem at_arg1 (h : Ar w a G last ss) (h1 : sl < 1) : Calls Tryz.prog 120 #[.pointer (some ⟨a, 0, none⟩), .agg #[.int .i64 sl, .int .i64 gn]] w fun e w' => e = .returned (.tuple #[.pointer none, errV 1]) ∧ Fr none_ w w' := by
  have F0 := hid_ ((Fr.refl none_ w).alloc (.cells #[.int .i64 sl, .int .i64 gn] 23))
  have h1 : decide (sl < 1) = true := by simpa using h1
  clear h
  go_enter Tryz.func120, Tryz.ntmps120
  go_wp2_with fail
  go_quiet (fail)
  have FQ := hid_ (F0.out.drewN nq)
  go_wp2
  go_ret2
  exact ⟨rfl, FQ.out⟩
theorem at_arg2 (h : Ar w a G last ss) (h1 : ¬ sl < 1) (h2 : (ss.length : Int) < sl) : Calls Tryz.prog 120 #[.pointer (some ⟨a, 0, none⟩), .agg #[.int .i64 sl, .int .i64 gn]] w fun e w' => e = .returned (.tuple #[.pointer none, errV 1]) ∧ Fr none_ w w' := by
  have F0 := hid_ ((Fr.refl none_ w).alloc (.cells #[.int .i64 sl, .int .i64 gn] 23))
  have h1 : decide (sl < 1) = false := by simpa using h1
  have h2 : decide ((ss.length : Int) < sl) = true := by simpa using h2
  have lA := h.ltA
  have lA1 : a < w.heap.size + 1 := by omega
  have c0 : w.cell? ⟨a, 0, none⟩ = some (.slice (some ⟨G, 0, none⟩) ss.length ss.length) := h.hA.cell' rfl
  clear h
  go_enter Tryz.func120, Tryz.ntmps120
  go_wp2_with fail
  go_quiet (fail)
  have FQ := hid_ (F0.out.drewN nq)
  go_wp2
  go_ret2
  exact ⟨rfl, FQ.out⟩
theorem at_stale {i : Nat} {s : Sl} (h : Ar w a G last ss) (hs : ss[i]? = some s) (hi : sl = (i : Int) + 1) (hb : ¬ (s.used = true ∧ s.gen = gn)) : Calls Tryz.prog 120 #[.pointer (some ⟨a, 0, none⟩), .agg #[.int .i64 sl, .int .i64 gn]] w fun e w' => e = .returned (.tuple #[.pointer none, errV 4]) ∧ Fr none_ w w' := by
  have hlen := h.len
  have hlt := (List.getElem?_eq_some_iff.1 hs).1
  obtain ⟨w0, hw0⟩ : ∃ w0, w0 = w.alloc (.cells #[.int .i64 sl, .int .i64 gn] 23) := ⟨_, rfl⟩
  have f0 : Fr none_ w w0 := by rw [hw0]; exact (Fr.refl none_ w).alloc _
  have F0 := hid_ f0
  have X0 := h.keep f0
  have p0 : Blk w0 w.heap.size 23 #[.int .i64 sl, .int .i64 gn] := by rw [hw0]; exact Blk.new w _ _
  have x0 : w0.cell? ⟨w.heap.size, 0, none⟩ = some (.int .i64 sl) := p0.cell' rfl
  have x1 : w0.cell? ⟨w.heap.size, 1, none⟩ = some (.int .i64 gn) := p0.cell' rfl
  have h1 : decide (sl < 1) = false := by simp; omega
  have h2 : decide ((ss.length : Int) < sl) = false := by simp; omega
  have hw : IntKind.i64.wrap (sl - 1) = (i : Int) := by rw [show sl - 1 = (i : Int) by omega]; exact IntWalk.i64_in _ (by omega)
  have hi0 : (0 : Int) ≤ (i : Int) := Int.natCast_nonneg _
  have hi1 : (i : Int) < (ss.length : Int) := by omega
  have c0 : w0.cell? ⟨a, 0, none⟩ = some (.slice (some ⟨G, 0, none⟩) ss.length ss.length) := X0.hA.cell' rfl
  have g0 : w0.cell? ⟨G, i * 17, none⟩ = some (.int .i64 s.gen) := X0.cell hs 0 rfl
  have lA := h.ltA
  have lA1 : a < w.heap.size + 1 := by omega
  cases hu : s.used with
  | false =>
    have g1 : w0.cell? ⟨G, i * 17 + 1, none⟩ = some (.bool false) := by rw [← hu]; exact X0.cell hs 1 rfl
    clear h hi f0 hb X0 p0 hs hlt
    go_enter Tryz.func120, Tryz.ntmps120
    go_wp2_with fail
    change Code.wp _ _ _ _ (w.alloc (.cells #[.int .i64 sl, .int .i64 gn] 23))
    rw [← hw0]
    clear hw0
    go_quiet (fail)
    go_wp2_with fail
    go_quiet (fail)
    go_wp2_with fail
    go_quiet (fail)
    go_wp2
    go_ret2
    exact ⟨rfl, by repeat (first | exact F0.out | apply Fr.drewN | apply Fr.drew)⟩
  | true =>
    have g1 : w0.cell? ⟨G, i * 17 + 1, none⟩ = some (.bool true) := by rw [← hu]; exact X0.cell hs 1 rfl
    have hg : (s.gen == gn) = false := by
      have : s.gen ≠ gn := fun e => hb ⟨hu, e⟩
      simpa using this
    clear h hi f0 hb X0 p0 hs hlt
    go_enter Tryz.func120, Tryz.ntmps120
    go_wp2_with fail
    change Code.wp _ _ _ _ (w.alloc (.cells #[.int .i64 sl, .int .i64 gn] 23))
    rw [← hw0]
    clear hw0
    go_quiet (fail)
    go_wp2_with fail
    go_quiet (fail)
    go_wp2_with fail
    go_quiet (fail)
    go_wp2
    go_ret2
    exact ⟨rfl, by repeat (first | exact F0.out | apply Fr.drewN | apply Fr.drew)⟩
theorem at_ok {i : Nat} {s : Sl} (h : Ar w a G last ss) (hs : ss[i]? = some s) (hi : sl = (i : Int) + 1) (hu : s.used = true) (hg : s.gen = gn) : Calls Tryz.prog 120 #[.pointer (some ⟨a, 0, none⟩), .agg #[.int .i64 sl, .int .i64 gn]] w fun e w' => e = .returned (.tuple #[.pointer (some ⟨G, i * 17, none⟩), .nilIface]) ∧ Fr none_ w w' := by
  have hlen := h.len
  have hlt := (List.getElem?_eq_some_iff.1 hs).1
  obtain ⟨w0, hw0⟩ : ∃ w0, w0 = w.alloc (.cells #[.int .i64 sl, .int .i64 gn] 23) := ⟨_, rfl⟩
  have f0 : Fr none_ w w0 := by rw [hw0]; exact (Fr.refl none_ w).alloc _
  have F0 := hid_ f0
  have X0 := h.keep f0
  have p0 : Blk w0 w.heap.size 23 #[.int .i64 sl, .int .i64 gn] := by rw [hw0]; exact Blk.new w _ _
  have x0 : w0.cell? ⟨w.heap.size, 0, none⟩ = some (.int .i64 sl) := p0.cell' rfl
  have x1 : w0.cell? ⟨w.heap.size, 1, none⟩ = some (.int .i64 gn) := p0.cell' rfl
  have h1 : decide (sl < 1) = false := by simp; omega
  have h2 : decide ((ss.length : Int) < sl) = false := by simp; omega
  have hw : IntKind.i64.wrap (sl - 1) = (i : Int) := by rw [show sl - 1 = (i : Int) by omega]; exact IntWalk.i64_in _ (by omega)
  have hi0 : (0 : Int) ≤ (i : Int) := Int.natCast_nonneg _
  have hi1 : (i : Int) < (ss.length : Int) := by omega
  have c0 : w0.cell? ⟨a, 0, none⟩ = some (.slice (some ⟨G, 0, none⟩) ss.length ss.length) := X0.hA.cell' rfl
  have g0 : w0.cell? ⟨G, i * 17, none⟩ = some (.int .i64 gn) := by rw [← hg]; exact X0.cell hs 0 rfl
  have g1 : w0.cell? ⟨G, i * 17 + 1, none⟩ = some (.bool true) := by rw [← hu]; exact X0.cell hs 1 rfl
  have lA := h.ltA
  have lA1 : a < w.heap.size + 1 := by omega
  clear h hi f0 X0 p0 hs hlt
  go_enter Tryz.func120, Tryz.ntmps120
  go_wp2_with fail
  change Code.wp _ _ _ _ (w.alloc (.cells #[.int .i64 sl, .int .i64 gn] 23))
  rw [← hw0]
  clear hw0
  go_quiet (fail)
  go_wp2_with fail
  go_quiet (fail)
  go_wp2_with fail
  go_quiet (fail)
  go_wp2
  go_ret2
  exact ⟨rfl, by repeat (first | exact F0.out | apply Fr.drewN | apply Fr.drew)⟩
/-- at where it tells an error. -/
theorem at_bad (h : Ar w a G last ss) (hb : atC ss sl gn ≠ 0) : Calls Tryz.prog 120 #[.pointer (some ⟨a, 0, none⟩), .agg #[.int .i64 sl, .int .i64 gn]] w fun e w' => e = .returned (.tuple #[.pointer none, errV (atC ss sl gn)]) ∧ Fr none_ w w' := by
  rcases atC_cases ss sl gn with ⟨e, h1⟩ | ⟨i, s, hi, hs, ⟨e, hn⟩ | ⟨e, _⟩⟩
  · rw [e]
    by_cases h2 : sl < 1
    · exact at_arg1 sl gn h h2
    · exact at_arg2 sl gn h h2 (by omega)
  · rw [e]
    exact at_stale sl gn h hs hi hn
  · exact absurd e hb
end
end Go.Proofs.YtfihfjbakfadkaaGreatDoor

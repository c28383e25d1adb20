/- rowlockref04.Same, by contract, at records that hold the same. -/
import Derived.Test.YthcpccddcgbanaaRdAt
import Derived.WalkSpells
import Derived.WalkLawsBesides
import Derived.Deep.QuietTactic
import Derived.BigQuiet
namespace Go.Proofs.Ythcpccddcgbanaa
open Go.RowKit
set_option maxRecDepth 100000
set_option linter.unusedVariables false

structure Sm4 (w w' : World) (R : Rc) (A B A2 B2 : Option Addr) (c d c2 d2 : Nat) : Prop where
  b0 : Blk w' w.heap.size 44 (recA R (.slice A R.rows.length c) (.slice B R.ents.length d))
  b1 : Blk w' (w.heap.size + 1) 44 (recA R (.slice A2 R.rows.length c2) (.slice B2 R.ents.length d2))
  rd : RecReads w' R A B
  rd2 : RecReads w' R A2 B2
  fr : Fr none_ w w'
theorem Sm4.keep {w w' w2 : World} {R : Rc} {A B A2 B2 : Option Addr} {c d c2 d2 : Nat} (h : Sm4 w w' R A B A2 B2 c d c2 d2) (hf : Fr none_ w' w2) : Sm4 w w2 R A B A2 B2 c d c2 d2 :=
  ⟨h.b0.fr hf id, h.b1.fr hf id, h.rd.keep hf, h.rd2.keep hf, h.fr.then_none hf⟩

set_option maxHeartbeats 4000000 in
theorem same4_ok (R : Rc) (A : Option Addr) (c : Nat) (B : Option Addr) (d : Nat) (A2 : Option Addr) (c2 : Nat) (B2 : Option Addr) (d2 : Nat) (w : World) (h : RecReads w R A B) (h2 : RecReads w R A2 B2) (hr : R.rows.length ≤ 1000) (he : R.ents.length ≤ 1000) :
    Calls Try.prog 19 #[recV R (.slice A R.rows.length c) (.slice B R.ents.length d), recV R (.slice A2 R.rows.length c2) (.slice B2 R.ents.length d2)] w fun e w' => e = .returned (.bool true) ∧ Fr none_ w w' := by
  obtain ⟨w0, hw0⟩ : ∃ w0, w0 = (w.alloc (recB R (.slice A R.rows.length c) (.slice B R.ents.length d))).alloc (recB R (.slice A2 R.rows.length c2) (.slice B2 R.ents.length d2)) := ⟨_, rfl⟩
  have M0 : Hid (Sm4 w w0 R A B A2 B2 c d c2 d2) := by
    have f0 : Fr none_ w w0 := by rw [hw0]; exact ((Fr.refl none_ w).alloc _).alloc _
    have k1 := (Blk.new (w.alloc (recB R (.slice A R.rows.length c) (.slice B R.ents.length d))) 44 (recA R (.slice A2 R.rows.length c2) (.slice B2 R.ents.length d2)))
    rw [World.size_alloc] at k1
    exact hid_ ⟨by rw [hw0]; exact (Blk.new w _ _).alloc _, by rw [hw0]; exact k1, h.keep f0, h2.keep f0, f0⟩
  clear h h2
  go_enter Try.func19, Try.ntmps19
  go_wp2_with fail
  change Code.wp _ _ _ _ ((w.alloc (recB R (.slice A R.rows.length c) (.slice B R.ents.length d))).alloc (recB R (.slice A2 R.rows.length c2) (.slice B2 R.ents.length d2)))
  rw [← hw0]
  clear hw0
  go_loopw [5] (fun i wr => ∃ k : Nat, k ≤ R.rows.length ∧ i = .int .i64 k ∧ Fr none_ w0 wr) (fun i _ => R.rows.length - (intOf i).toNat)
  case atStart => exact ⟨0, Nat.zero_le _, rfl, Fr.refl _ _⟩
  case round =>
    obtain ⟨k, hk, rfl, hF⟩ := hrel
    have F := hid_ hF
    have M := hid_ (M0.out.keep hF)
    clear hF
    have a0 : wr.cell? ⟨w.heap.size, 5, none⟩ = some (.slice A R.rows.length c) := M.out.b0.cell' rfl
    have a1 : wr.cell? ⟨w.heap.size + 1, 5, none⟩ = some (.slice A2 R.rows.length c2) := M.out.b1.cell' rfl
    by_cases hlt : k < R.rows.length
    · obtain ⟨p, hp⟩ : ∃ p, R.rows[k]? = some p := ⟨_, List.getElem?_eq_getElem hlt⟩
      obtain ⟨b1, o1, rfl, hb1, d0, d1⟩ := rw_at M.out.rd.r hp
      obtain ⟨b2, o2, rfl, hb2, e0, e1⟩ := rw_at M.out.rd2.r hp
      have hi0 : (0 : Int) ≤ (k : Int) := Int.natCast_nonneg _
      have hi1 : (k : Int) < (R.rows.length : Int) := by omega
      clear hp
      go_wp2_with fail
      go_quiet (fail)
      have FQ := hid_ (F.out.drewN nq)
      clear d0 d1 e0 e1 a0 a1
      go_wp2
      go_roundw
      case rel => exact ⟨k + 1, by omega, by go_num, FQ.out⟩
      case measure => simp [intOf]; omega
    · obtain rfl : k = R.rows.length := by omega
      have a2 : wr.cell? ⟨w.heap.size, 6, none⟩ = some (.slice B R.ents.length d) := M.out.b0.cell' rfl
      have a3 : wr.cell? ⟨w.heap.size + 1, 6, none⟩ = some (.slice B2 R.ents.length d2) := M.out.b1.cell' rfl
      go_wp2_with fail
      clear a0 a1 a2 a3 hlt hk
      go_loopw [6] (fun i wx => ∃ k : Nat, k ≤ R.ents.length ∧ i = .int .i64 k ∧ Fr none_ wr wx) (fun i _ => R.ents.length - (intOf i).toNat)
      case atStart => exact ⟨0, Nat.zero_le _, rfl, Fr.refl _ _⟩
      case round =>
        obtain ⟨k, hk, rfl, hF⟩ := hrel
        obtain ⟨wx, rfl⟩ : ∃ wx : World, wx = wr := ⟨_, rfl⟩
        have F2 := hid_ hF
        have M2 := hid_ (M.out.keep hF)
        clear hF
        have a0 : wx.cell? ⟨w.heap.size, 6, none⟩ = some (.slice B R.ents.length d) := M2.out.b0.cell' rfl
        have a1 : wx.cell? ⟨w.heap.size + 1, 6, none⟩ = some (.slice B2 R.ents.length d2) := M2.out.b1.cell' rfl
        by_cases hlt : k < R.ents.length
        · obtain ⟨p, hp⟩ : ∃ p, R.ents[k]? = some p := ⟨_, List.getElem?_eq_getElem hlt⟩
          obtain ⟨b1, o1, rfl, hb1, d0, d1⟩ := et_at M2.out.rd.e hp
          obtain ⟨b2, o2, rfl, hb2, e0, e1⟩ := et_at M2.out.rd2.e hp
          have hi0 : (0 : Int) ≤ (k : Int) := Int.natCast_nonneg _
          have hi1 : (k : Int) < (R.ents.length : Int) := by omega
          clear hp
          go_wp2_with fail
          go_quiet (fail)
          have FQ := hid_ (F2.out.drewN nq)
          clear d0 d1 e0 e1 a0 a1
          go_wp2
          go_roundw
          case rel => exact ⟨k + 1, by omega, by go_num, FQ.out⟩
          case measure => simp [intOf]; omega
        · obtain rfl : k = R.ents.length := by omega
          clear a0 a1
          have x0 : wx.cell? ⟨w.heap.size, 0, none⟩ = some (.int .i64 R.kind) := M2.out.b0.cell' rfl
          have y0 : wx.cell? ⟨w.heap.size + 1, 0, none⟩ = some (.int .i64 R.kind) := M2.out.b1.cell' rfl
          have x1 : wx.cell? ⟨w.heap.size, 1, none⟩ = some (.string R.low) := M2.out.b0.cell' rfl
          have y1 : wx.cell? ⟨w.heap.size + 1, 1, none⟩ = some (.string R.low) := M2.out.b1.cell' rfl
          have x2 : wx.cell? ⟨w.heap.size, 2, none⟩ = some (.string R.high) := M2.out.b0.cell' rfl
          have y2 : wx.cell? ⟨w.heap.size + 1, 2, none⟩ = some (.string R.high) := M2.out.b1.cell' rfl
          have x3 : wx.cell? ⟨w.heap.size, 3, none⟩ = some (.bool R.unb) := M2.out.b0.cell' rfl
          have y3 : wx.cell? ⟨w.heap.size + 1, 3, none⟩ = some (.bool R.unb) := M2.out.b1.cell' rfl
          have x4 : wx.cell? ⟨w.heap.size, 4, none⟩ = some (.int .i64 R.right) := M2.out.b0.cell' rfl
          have y4 : wx.cell? ⟨w.heap.size + 1, 4, none⟩ = some (.int .i64 R.right) := M2.out.b1.cell' rfl
          have x5 : wx.cell? ⟨w.heap.size, 5, none⟩ = some (.slice A R.rows.length c) := M2.out.b0.cell' rfl
          have y5 : wx.cell? ⟨w.heap.size + 1, 5, none⟩ = some (.slice A2 R.rows.length c2) := M2.out.b1.cell' rfl
          have x6 : wx.cell? ⟨w.heap.size, 6, none⟩ = some (.slice B R.ents.length d) := M2.out.b0.cell' rfl
          have y6 : wx.cell? ⟨w.heap.size + 1, 6, none⟩ = some (.slice B2 R.ents.length d2) := M2.out.b1.cell' rfl
          have x7 : wx.cell? ⟨w.heap.size, 7, none⟩ = some (.string R.key) := M2.out.b0.cell' rfl
          have y7 : wx.cell? ⟨w.heap.size + 1, 7, none⟩ = some (.string R.key) := M2.out.b1.cell' rfl
          have x8 : wx.cell? ⟨w.heap.size, 8, none⟩ = some (.string R.val) := M2.out.b0.cell' rfl
          have y8 : wx.cell? ⟨w.heap.size + 1, 8, none⟩ = some (.string R.val) := M2.out.b1.cell' rfl
          have x9 : wx.cell? ⟨w.heap.size, 9, none⟩ = some (.int .i64 R.page) := M2.out.b0.cell' rfl
          have y9 : wx.cell? ⟨w.heap.size + 1, 9, none⟩ = some (.int .i64 R.page) := M2.out.b1.cell' rfl
          have x10 : wx.cell? ⟨w.heap.size, 10, none⟩ = some (.int .i64 R.hpage) := M2.out.b0.cell' rfl
          have y10 : wx.cell? ⟨w.heap.size + 1, 10, none⟩ = some (.int .i64 R.hpage) := M2.out.b1.cell' rfl
          have x11 : wx.cell? ⟨w.heap.size, 11, none⟩ = some (.int .i64 R.hleft) := M2.out.b0.cell' rfl
          have y11 : wx.cell? ⟨w.heap.size + 1, 11, none⟩ = some (.int .i64 R.hleft) := M2.out.b1.cell' rfl
          have x12 : wx.cell? ⟨w.heap.size, 12, none⟩ = some (.string R.hkey) := M2.out.b0.cell' rfl
          have y12 : wx.cell? ⟨w.heap.size + 1, 12, none⟩ = some (.string R.hkey) := M2.out.b1.cell' rfl
          have x13 : wx.cell? ⟨w.heap.size, 13, none⟩ = some (.int .i64 R.nslot) := M2.out.b0.cell' rfl
          have y13 : wx.cell? ⟨w.heap.size + 1, 13, none⟩ = some (.int .i64 R.nslot) := M2.out.b1.cell' rfl
          have x14 : wx.cell? ⟨w.heap.size, 14, none⟩ = some (.int .i64 R.ngen) := M2.out.b0.cell' rfl
          have y14 : wx.cell? ⟨w.heap.size + 1, 14, none⟩ = some (.int .i64 R.ngen) := M2.out.b1.cell' rfl
          go_wp2
          go_ret
          exact ⟨rfl, M2.out.fr⟩
end Go.Proofs.Ythcpccddcgbanaa

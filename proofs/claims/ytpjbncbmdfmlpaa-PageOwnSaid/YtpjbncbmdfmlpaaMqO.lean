/- Texts of one proof, merged: Few10, Same4, Same8, Map, Sm10, Same10, Ar, Alloc, At, Ld, ArFirst, Map2, ClkN, Mem9, Chain9, ErrOf, Acc9, Mc9, Ldr10, LdrA10, Uv, LdrB10, LdrC10. -/
import Derived.WalkSpells
import Derived.WalkLawsBesides
import Derived.Deep.QuietTactic
import Derived.BigQuiet
import Derived.Test.YtpjbncbmdfmlpaaProg
import Derived.Deep.RegionHeld3
import Derived.Laws.MakeOwn
import Derived.Deep.MidRow
import Derived.LaidEql
import Derived.Stop.Asserts
import Derived.RowKitTokens
import Derived.Maps.OwnOps
import Derived.Maps.OwnSet
import Derived.Maps.RangeWalk
import Derived.IntWalk
import Derived.Deep.Cut
import Derived.Deep.DeepCutAuto
import Derived.BigRegion
import Derived.Test.YtpjbncbmdfmlpaaMqA
import Derived.Test.YtpjbncbmdfmlpaaMqE
import Derived.Test.YtpjbncbmdfmlpaaMqG
import Derived.Test.YtpjbncbmdfmlpaaMqN
namespace Go.Proofs.Ytpjbncbmdfmlpaa
open Go.RowKit Go.BigFrame
set_option maxRecDepth 100000
set_option linter.unusedVariables false
theorem few10_ok (A : Option Addr) (n cap : Nat) (L : List Ch) (w : World) (h : InReads w A n L) (hw : RwIn L) (hm : n ≤ maxLen) : Calls Try.prog 22 #[.slice A n cap] w fun e w' => ∃ b : Bool, e = .returned (.bool b) ∧ (b = true → FewOk7 L ∧ FewOk8 L ∧ n ≤ 40) ∧ Fr none_ w w' := by
  have H := hid_ h
  have HW := hid_ hw
  have hn0 : (0 : Int) ≤ (n : Int) := Int.natCast_nonneg _
  clear h hw
  go_enter Try.func22, Try.ntmps22
  by_cases h40 : n ≤ 40
  · have d0 : decide ((n : Int) ≤ 40) = true := by simp; omega
    have H40 := hid_ h40
    clear h40
    go_wp2_with fail
    refine (few7_ok A n cap L w H.out HW.out hm).mono ?_
    rintro e w1 ⟨b, rfl, hb, hf⟩
    have G0 := hid_ hb
    have F1 := hid_ hf
    clear hb hf
    cases b with
    | false =>
      go_wp2_with fail
      go_ret
      exact ⟨false, rfl, (fun h => by cases h), F1.out⟩
    | true =>
      go_wp2_with fail
      refine (few8_ok A n cap L w1 (H.out.keep F1.out) hm).mono ?_
      rintro e w2 ⟨b, rfl, hb, hf⟩
      have G1 := hid_ hb
      replace F1 := hid_ (F1.out.then_none hf)
      clear hb hf
      cases b with
      | false =>
        go_wp2_with fail
        go_ret
        exact ⟨false, rfl, (fun h => by cases h), F1.out⟩
      | true =>
        go_wp2_with fail
        go_ret
        exact ⟨true, rfl, (fun _ => ⟨G0.out trivial, G1.out trivial, H40.out⟩), F1.out⟩
  · have d0 : decide ((n : Int) ≤ 40) = false := by simp; omega
    clear h40
    go_wp2_with fail
    go_ret
    exact ⟨false, rfl, (fun h => by cases h), Fr.refl _ _⟩
/-- A value that may take another's place in p's own rows: a text may have grown by d. -/
def KS (d : Nat) (v v' : Value) : Prop := v' = v ∨ (∃ s s', v = .string s ∧ v' = .string s' ∧ s'.size ≤ s.size + d) ∨ (∃ a b, v = .int .i64 a ∧ v' = .int .i64 b)
theorem KS.refl (d : Nat) (v : Value) : KS d v v := .inl rfl
theorem KS.trans {d e : Nat} {a b c : Value} (h : KS d a b) (k : KS e b c) : KS (d + e) a c := by
  rcases h with rfl | ⟨s, s', rfl, rfl, h1⟩ | ⟨x, y, rfl, rfl⟩
  · rcases k with rfl | ⟨t, t', rfl, rfl, h2⟩ | h
    · exact .inl rfl
    · exact .inr (.inl ⟨t, t', rfl, rfl, by omega⟩)
    · exact .inr (.inr h)
  · rcases k with rfl | ⟨t, t', h0, rfl, h2⟩ | ⟨x, y, h0, _⟩
    · exact .inr (.inl ⟨s, s', rfl, rfl, by omega⟩)
    · cases h0
      exact .inr (.inl ⟨s, t', rfl, rfl, by omega⟩)
    · cases h0
  · rcases k with rfl | ⟨t, t', h1, _⟩ | ⟨x', y', h1, rfl⟩
    · exact .inr (.inr ⟨x, y, rfl, rfl⟩)
    · cases h1
    · exact .inr (.inr ⟨x, y', rfl, rfl⟩)
/-- Blocks keep their kinds. -/
def Sh (d : Nat) (w w' : World) : Prop := ∀ g t cs, Blk w g t cs → ∃ cs', Blk w' g t cs' ∧ ∀ (i : Nat) (v : Value), cs[i]? = some v → ∃ v', cs'[i]? = some v' ∧ KS d v v'
theorem Sh.refl (w : World) : Sh 0 w w := fun g t cs h => ⟨cs, h, fun i v hv => ⟨v, hv, KS.refl 0 v⟩⟩
theorem Sh.trans {d e : Nat} {a b c : World} (h : Sh d a b) (k : Sh e b c) : Sh (d + e) a c := fun g t cs hb => by
  obtain ⟨c1, h1, e1⟩ := h g t cs hb
  obtain ⟨c2, h2, e2⟩ := k g t c1 h1
  refine ⟨c2, h2, fun i v hv => ?_⟩
  obtain ⟨v1, hv1, k1⟩ := e1 i v hv
  obtain ⟨v2, hv2, k2⟩ := e2 i v1 hv1
  exact ⟨v2, hv2, k1.trans k2⟩
theorem Sh.set_ {d : Nat} {w : World} {g : Nat} {t : TypeId} {cs : Array Value} (hb : Blk w g t cs) {i : Nat} {v v' : Value} (hv : cs[i]? = some v) (hk : KS d v v') : Sh d w (w.setCell ⟨g, i, none⟩ v') := fun g2 t2 cs2 hb2 => by
  by_cases h : g2 = g
  · subst h
    obtain ⟨rfl, rfl⟩ : t2 = t ∧ cs2 = cs := by
      have h1 : w.heap[g2]? = _ := hb
      have h2 : w.heap[g2]? = _ := hb2
      rw [h1] at h2
      cases h2
      exact ⟨rfl, rfl⟩
    refine ⟨_, hb.set_ i v', fun j u hu => ?_⟩
    rw [Array.getElem?_setIfInBounds]
    by_cases hij : i = j
    · subst hij
      rw [hv] at hu
      cases hu
      have hl : i < cs2.size := (Array.getElem?_eq_some_iff.1 hv).1
      simp [hl]
      exact hk
    · simp [hij]
      exact ⟨u, hu, KS.refl d u⟩
  · exact ⟨cs2, hb2.fr (Fr.only1 w ⟨g, i, none⟩ v') h, fun j u hu => ⟨u, hu, KS.refl d u⟩⟩
end Go.Proofs.Ytpjbncbmdfmlpaa
namespace Go.Proofs.Ytpjbncbmdfmlpaa
open Go.RowKit
set_option maxRecDepth 100000
set_option linter.unusedVariables false

structure Sm4 (w w' : World) (R : Rc) (A B A2 B2 : Option Addr) (c d c2 d2 : Nat) : Prop where
  b0 : Blk w' w.heap.size 58 (recA R (.slice A R.rows.length c) (.slice B R.ents.length d))
  b1 : Blk w' (w.heap.size + 1) 58 (recA R (.slice A2 R.rows.length c2) (.slice B2 R.ents.length d2))
  rd : RecReads w' R A B
  rd2 : RecReads w' R A2 B2
  fr : Fr none_ w w'
theorem Sm4.keep {w w' w2 : World} {R : Rc} {A B A2 B2 : Option Addr} {c d c2 d2 : Nat} (h : Sm4 w w' R A B A2 B2 c d c2 d2) (hf : Fr none_ w' w2) : Sm4 w w2 R A B A2 B2 c d c2 d2 :=
  ⟨h.b0.fr hf id, h.b1.fr hf id, h.rd.keep hf, h.rd2.keep hf, h.fr.then_none hf⟩

set_option maxHeartbeats 4000000 in
theorem same4_ok (R : Rc) (A : Option Addr) (c : Nat) (B : Option Addr) (d : Nat) (A2 : Option Addr) (c2 : Nat) (B2 : Option Addr) (d2 : Nat) (w : World) (h : RecReads w R A B) (h2 : RecReads w R A2 B2) (hr : R.rows.length ≤ 1000) (he : R.ents.length ≤ 1000) :
    Calls Try.prog 64 #[recV R (.slice A R.rows.length c) (.slice B R.ents.length d), recV R (.slice A2 R.rows.length c2) (.slice B2 R.ents.length d2)] w fun e w' => e = .returned (.bool true) ∧ Fr none_ w w' := by
  obtain ⟨w0, hw0⟩ : ∃ w0, w0 = (w.alloc (recB R (.slice A R.rows.length c) (.slice B R.ents.length d))).alloc (recB R (.slice A2 R.rows.length c2) (.slice B2 R.ents.length d2)) := ⟨_, rfl⟩
  have M0 : Hid (Sm4 w w0 R A B A2 B2 c d c2 d2) := by
    have f0 : Fr none_ w w0 := by rw [hw0]; exact ((Fr.refl none_ w).alloc _).alloc _
    have k1 := (Blk.new (w.alloc (recB R (.slice A R.rows.length c) (.slice B R.ents.length d))) 58 (recA R (.slice A2 R.rows.length c2) (.slice B2 R.ents.length d2)))
    rw [World.size_alloc] at k1
    exact hid_ ⟨by rw [hw0]; exact (Blk.new w _ _).alloc _, by rw [hw0]; exact k1, h.keep f0, h2.keep f0, f0⟩
  clear h h2
  go_enter Try.func64, Try.ntmps64
  go_wp2_with fail
  change Code.wp _ _ _ _ ((w.alloc (recB R (.slice A R.rows.length c) (.slice B R.ents.length d))).alloc (recB R (.slice A2 R.rows.length c2) (.slice B2 R.ents.length d2)))
  rw [← hw0]
  clear hw0
  go_loopw [5] (fun i wr => ∃ k : Nat, k ≤ R.rows.length ∧ i = .int .i64 k ∧ Fr none_ w0 wr) (fun i _ => R.rows.length - (intOf i).toNat)
  case atStart => exact ⟨0, Nat.zero_le _, rfl, Fr.refl _ _⟩
  case round =>
    obtain ⟨k, hk, rfl, hF⟩ := hrel
    have F := hid_ hF
    have M := hid_ (M0.out.keep hF)
    clear hF
    have a0 : wr.cell? ⟨w.heap.size, 5, none⟩ = some (.slice A R.rows.length c) := M.out.b0.cell' rfl
    have a1 : wr.cell? ⟨w.heap.size + 1, 5, none⟩ = some (.slice A2 R.rows.length c2) := M.out.b1.cell' rfl
    by_cases hlt : k < R.rows.length
    · obtain ⟨p, hp⟩ : ∃ p, R.rows[k]? = some p := ⟨_, List.getElem?_eq_getElem hlt⟩
      obtain ⟨b1, o1, rfl, hb1, d0, d1⟩ := rw_at M.out.rd.r hp
      obtain ⟨b2, o2, rfl, hb2, e0, e1⟩ := rw_at M.out.rd2.r hp
      have hi0 : (0 : Int) ≤ (k : Int) := Int.natCast_nonneg _
      have hi1 : (k : Int) < (R.rows.length : Int) := by omega
      clear hp
      go_wp2_with fail
      go_quiet (fail)
      have FQ := hid_ (F.out.drewN nq)
      clear d0 d1 e0 e1 a0 a1
      go_wp2
      go_roundw
      case rel => exact ⟨k + 1, by omega, by go_num, FQ.out⟩
      case measure => simp [intOf]; omega
    · obtain rfl : k = R.rows.length := by omega
      have a2 : wr.cell? ⟨w.heap.size, 6, none⟩ = some (.slice B R.ents.length d) := M.out.b0.cell' rfl
      have a3 : wr.cell? ⟨w.heap.size + 1, 6, none⟩ = some (.slice B2 R.ents.length d2) := M.out.b1.cell' rfl
      go_wp2_with fail
      clear a0 a1 a2 a3 hlt hk
      go_loopw [6] (fun i wx => ∃ k : Nat, k ≤ R.ents.length ∧ i = .int .i64 k ∧ Fr none_ wr wx) (fun i _ => R.ents.length - (intOf i).toNat)
      case atStart => exact ⟨0, Nat.zero_le _, rfl, Fr.refl _ _⟩
      case round =>
        obtain ⟨k, hk, rfl, hF⟩ := hrel
        obtain ⟨wx, rfl⟩ : ∃ wx : World, wx = wr := ⟨_, rfl⟩
        have F2 := hid_ hF
        have M2 := hid_ (M.out.keep hF)
        clear hF
        have a0 : wx.cell? ⟨w.heap.size, 6, none⟩ = some (.slice B R.ents.length d) := M2.out.b0.cell' rfl
        have a1 : wx.cell? ⟨w.heap.size + 1, 6, none⟩ = some (.slice B2 R.ents.length d2) := M2.out.b1.cell' rfl
        by_cases hlt : k < R.ents.length
        · obtain ⟨p, hp⟩ : ∃ p, R.ents[k]? = some p := ⟨_, List.getElem?_eq_getElem hlt⟩
          obtain ⟨b1, o1, rfl, hb1, d0, d1⟩ := et_at M2.out.rd.e hp
          obtain ⟨b2, o2, rfl, hb2, e0, e1⟩ := et_at M2.out.rd2.e hp
          have hi0 : (0 : Int) ≤ (k : Int) := Int.natCast_nonneg _
          have hi1 : (k : Int) < (R.ents.length : Int) := by omega
          clear hp
          go_wp2_with fail
          go_quiet (fail)
          have FQ := hid_ (F2.out.drewN nq)
          clear d0 d1 e0 e1 a0 a1
          go_wp2
          go_roundw
          case rel => exact ⟨k + 1, by omega, by go_num, FQ.out⟩
          case measure => simp [intOf]; omega
        · obtain rfl : k = R.ents.length := by omega
          clear a0 a1
          have x0 : wx.cell? ⟨w.heap.size, 0, none⟩ = some (.int .i64 R.kind) := M2.out.b0.cell' rfl
          have y0 : wx.cell? ⟨w.heap.size + 1, 0, none⟩ = some (.int .i64 R.kind) := M2.out.b1.cell' rfl
          have x1 : wx.cell? ⟨w.heap.size, 1, none⟩ = some (.string R.low) := M2.out.b0.cell' rfl
          have y1 : wx.cell? ⟨w.heap.size + 1, 1, none⟩ = some (.string R.low) := M2.out.b1.cell' rfl
          have x2 : wx.cell? ⟨w.heap.size, 2, none⟩ = some (.string R.high) := M2.out.b0.cell' rfl
          have y2 : wx.cell? ⟨w.heap.size + 1, 2, none⟩ = some (.string R.high) := M2.out.b1.cell' rfl
          have x3 : wx.cell? ⟨w.heap.size, 3, none⟩ = some (.bool R.unb) := M2.out.b0.cell' rfl
          have y3 : wx.cell? ⟨w.heap.size + 1, 3, none⟩ = some (.bool R.unb) := M2.out.b1.cell' rfl
          have x4 : wx.cell? ⟨w.heap.size, 4, none⟩ = some (.int .i64 R.right) := M2.out.b0.cell' rfl
          have y4 : wx.cell? ⟨w.heap.size + 1, 4, none⟩ = some (.int .i64 R.right) := M2.out.b1.cell' rfl
          have x5 : wx.cell? ⟨w.heap.size, 5, none⟩ = some (.slice A R.rows.length c) := M2.out.b0.cell' rfl
          have y5 : wx.cell? ⟨w.heap.size + 1, 5, none⟩ = some (.slice A2 R.rows.length c2) := M2.out.b1.cell' rfl
          have x6 : wx.cell? ⟨w.heap.size, 6, none⟩ = some (.slice B R.ents.length d) := M2.out.b0.cell' rfl
          have y6 : wx.cell? ⟨w.heap.size + 1, 6, none⟩ = some (.slice B2 R.ents.length d2) := M2.out.b1.cell' rfl
          have x7 : wx.cell? ⟨w.heap.size, 7, none⟩ = some (.string R.key) := M2.out.b0.cell' rfl
          have y7 : wx.cell? ⟨w.heap.size + 1, 7, none⟩ = some (.string R.key) := M2.out.b1.cell' rfl
          have x8 : wx.cell? ⟨w.heap.size, 8, none⟩ = some (.string R.val) := M2.out.b0.cell' rfl
          have y8 : wx.cell? ⟨w.heap.size + 1, 8, none⟩ = some (.string R.val) := M2.out.b1.cell' rfl
          have x9 : wx.cell? ⟨w.heap.size, 9, none⟩ = some (.int .i64 R.page) := M2.out.b0.cell' rfl
          have y9 : wx.cell? ⟨w.heap.size + 1, 9, none⟩ = some (.int .i64 R.page) := M2.out.b1.cell' rfl
          have x10 : wx.cell? ⟨w.heap.size, 10, none⟩ = some (.int .i64 R.hpage) := M2.out.b0.cell' rfl
          have y10 : wx.cell? ⟨w.heap.size + 1, 10, none⟩ = some (.int .i64 R.hpage) := M2.out.b1.cell' rfl
          have x11 : wx.cell? ⟨w.heap.size, 11, none⟩ = some (.int .i64 R.hleft) := M2.out.b0.cell' rfl
          have y11 : wx.cell? ⟨w.heap.size + 1, 11, none⟩ = some (.int .i64 R.hleft) := M2.out.b1.cell' rfl
          have x12 : wx.cell? ⟨w.heap.size, 12, none⟩ = some (.string R.hkey) := M2.out.b0.cell' rfl
          have y12 : wx.cell? ⟨w.heap.size + 1, 12, none⟩ = some (.string R.hkey) := M2.out.b1.cell' rfl
          have x13 : wx.cell? ⟨w.heap.size, 13, none⟩ = some (.int .i64 R.nslot) := M2.out.b0.cell' rfl
          have y13 : wx.cell? ⟨w.heap.size + 1, 13, none⟩ = some (.int .i64 R.nslot) := M2.out.b1.cell' rfl
          have x14 : wx.cell? ⟨w.heap.size, 14, none⟩ = some (.int .i64 R.ngen) := M2.out.b0.cell' rfl
          have y14 : wx.cell? ⟨w.heap.size + 1, 14, none⟩ = some (.int .i64 R.ngen) := M2.out.b1.cell' rfl
          go_wp2
          go_ret
          exact ⟨rfl, M2.out.fr⟩
end Go.Proofs.Ytpjbncbmdfmlpaa
namespace Go.Proofs.Ytpjbncbmdfmlpaa
open Go.RowKit Go.BigFrame
set_option maxRecDepth 100000
set_option linter.unusedVariables false

set_option maxHeartbeats 2000000 in
theorem sameEntries_ok (L : List Et) (A A2 : Option Addr) (c c2 : Nat) (w : World) (h : Reads w 2 A L.length (etFlat L)) (h2 : Reads w 2 A2 L.length (etFlat L)) (hl : L.length ≤ 2000) :
    Calls Try.prog 101 #[.slice A L.length c, .slice A2 L.length c2] w fun e w' => e = .returned (.bool true) ∧ Fr none_ w w' := by
  have H := hid_ (And.intro h h2)
  clear h h2
  go_enter Try.func101, Try.ntmps101
  go_wp2_with fail
  go_loopw [5] (fun i wr => ∃ k : Nat, k ≤ L.length ∧ i = .int .i64 k ∧ Fr none_ w wr) (fun i _ => L.length - (intOf i).toNat)
  case atStart => exact ⟨0, Nat.zero_le _, rfl, Fr.refl _ _⟩
  case round =>
    obtain ⟨k, hk, rfl, hF⟩ := hrel
    have F := hid_ hF
    have R1 := hid_ (H.out.1.none_fr hF)
    have R2 := hid_ (H.out.2.none_fr hF)
    clear hF
    have hi0 : (0 : Int) ≤ (k : Int) := Int.natCast_nonneg _
    by_cases hlt : k < L.length
    · obtain ⟨p, hp⟩ : ∃ p, L[k]? = some p := ⟨_, List.getElem?_eq_getElem hlt⟩
      obtain ⟨b1, o1, rfl, hb1, d0, d1⟩ := et_at R1.out hp
      obtain ⟨b2, o2, rfl, hb2, e0, e1⟩ := et_at R2.out hp
      have hi1 : (k : Int) < (L.length : Int) := by omega
      clear hp
      go_wp2_with fail
      go_quiet (fail)
      have FQ := hid_ (F.out.drewN nq)
      clear d0 d1 e0 e1
      go_wp2
      go_roundw
      case rel => exact ⟨k + 1, by omega, by go_num, FQ.out⟩
      case measure => simp [intOf]; omega
    · obtain rfl : k = L.length := by omega
      go_wp2
      go_ret
      exact ⟨rfl, F.out⟩
set_option maxHeartbeats 4000000 in
theorem same8_ok (V : Vw) (A A2 : Option Addr) (c c2 : Nat) (w : World) (h : Reads w 2 A V.ents.length (etFlat V.ents)) (h2 : Reads w 2 A2 V.ents.length (etFlat V.ents)) (hl : V.ents.length ≤ 2000) :
    Calls Try.prog 66 #[vwV V (.slice A V.ents.length c), vwV V (.slice A2 V.ents.length c2)] w fun e w' => e = .returned (.bool true) ∧ Fr none_ w w' := by
  have F := ((Fr.refl none_ w).alloc (.cells (vwA V (.slice A V.ents.length c)) 66)).alloc (.cells (vwA V (.slice A2 V.ents.length c2)) 66)
  have HF := hid_ F
  have H := hid_ (And.intro (h.none_fr F) (h2.none_fr F))
  clear h h2 F
  go_enter Try.func66, Try.ntmps66
  go_wp2_with fail
  refine (sameEntries_ok V.ents A A2 c c2 _ H.out.1 H.out.2 hl).mono ?_
  rintro e w1 ⟨rfl, hf1⟩
  have F1 := hid_ (HF.out.then_none hf1)
  clear hf1
  go_wp2_with fail
  go_ret
  exact ⟨rfl, F1.out⟩
end Go.Proofs.Ytpjbncbmdfmlpaa
namespace Go.Proofs.Ytpjbncbmdfmlpaa
open Go.RowKit

/-- A page: is it used, and its head. -/
abbrev Pg := Bool × Int × Int

theorem eql_ref (s g a b : Int) (w : World) : (binOp .eql 33 (.agg #[.int .i64 s, .int .i64 g]) (.agg #[.int .i64 a, .int .i64 b])).run Try.prog w = .ok (.bool (s == a && g == b)) w := by
  have h : (Op.equal 33 (.agg #[.int .i64 s, .int .i64 g]) (.agg #[.int .i64 a, .int .i64 b])).run Try.prog w = .ok (s == a && g == b) w := by
    simp only [Op.equal, Op.maxDepth]
    by_cases h1 : s = a <;> by_cases h2 : g = b <;> go_simp <;> simp [h1, h2]
  simp [binOp, h]
theorem neq_ref (s g a b : Int) (w : World) : (binOp .neq 33 (.agg #[.int .i64 s, .int .i64 g]) (.agg #[.int .i64 a, .int .i64 b])).run Try.prog w = .ok (.bool (!(s == a && g == b))) w := by
  have h : (Op.equal 33 (.agg #[.int .i64 s, .int .i64 g]) (.agg #[.int .i64 a, .int .i64 b])).run Try.prog w = .ok (s == a && g == b) w := by
    simp only [Op.equal, Op.maxDepth]
    by_cases h1 : s = a <;> by_cases h2 : g = b <;> go_simp <;> simp [h1, h2]
  simp [binOp, h]

structure TblAt (w : World) (T G cap : Nat) (cur : Array Value) (ps : List Pg) : Prop where
  hT : Blk w T 152 #[.slice (some ⟨G, 0, none⟩) ps.length cap]
  hG : Blk w G 160 cur
  hn : ps.length ≤ 256
  hc : ps.length ≤ cap
  hm : cap ≤ maxLen
  hs : ps.length * 3 ≤ cur.size
  hp : ∀ i p, ps[i]? = some p → cur[i * 3]? = some (.bool p.1) ∧ cur[i * 3 + 1]? = some (.int .i64 p.2.1) ∧ cur[i * 3 + 1 + 1]? = some (.int .i64 p.2.2)
def Tbl (w : World) (T G : Nat) (ps : List Pg) : Prop := ∃ cap cur, TblAt w T G cap cur ps

theorem mapAt_arg (T G : Nat) (ps : List Pg) (n : Int) (w : World) (h : Tbl w T G ps) (hn : n < 0 ∨ (ps.length : Int) ≤ n) :
    Calls Try.prog 79 #[.pointer (some ⟨T, 0, none⟩), .int .i64 n] w fun e w' => e = .returned (.tuple #[.pointer none, errV 1]) ∧ w = w' := by
  obtain ⟨cap, cur, hT, hG, h1, h2, h3, h4, h5⟩ := h
  have c0 := hT.cell' (i := 0) rfl
  clear hT hG h5
  by_cases hn0 : n < 0
  · clear hn
    go_enter Try.func79, Try.ntmps79
    go_wp2
    go_ret2
    exact ⟨rfl, rfl⟩
  · have hle : (ps.length : Int) ≤ n := by omega
    clear hn
    go_enter Try.func79, Try.ntmps79
    go_wp2
    go_ret2
    exact ⟨rfl, rfl⟩

theorem mapAt_ok (T G : Nat) (ps : List Pg) (i : Nat) (s g : Int) (w : World) (h : Tbl w T G ps) (hi : ps[i]? = some (true, s, g)) :
    Calls Try.prog 79 #[.pointer (some ⟨T, 0, none⟩), .int .i64 i] w fun e w' => e = .returned (.tuple #[.pointer (some ⟨G, i * 3, none⟩), .nilIface]) ∧ w = w' := by
  obtain ⟨cap, cur, hT, hG, h1, h2, h3, h4, h5⟩ := h
  obtain ⟨d0, d1, d2⟩ := h5 i _ hi
  have c0 := hT.cell' (i := 0) rfl
  have c1 := hG.cell' d0
  have c2 := hG.cell' d1
  have c3 := hG.cell' d2
  have hlt : i < ps.length := (List.getElem?_eq_some_iff.1 hi).1
  clear hT hG h5 d0 d1 d2 hi
  go_enter Try.func79, Try.ntmps79
  go_wp2
  go_ret2
  exact ⟨rfl, rfl⟩

theorem mapAt_none (T G : Nat) (ps : List Pg) (i : Nat) (s g : Int) (w : World) (h : Tbl w T G ps) (hi : ps[i]? = some (false, s, g)) :
    Calls Try.prog 79 #[.pointer (some ⟨T, 0, none⟩), .int .i64 i] w fun e w' => e = .returned (.tuple #[.pointer none, errV 6]) ∧ w = w' := by
  obtain ⟨cap, cur, hT, hG, h1, h2, h3, h4, h5⟩ := h
  obtain ⟨d0, d1, d2⟩ := h5 i _ hi
  have c0 := hT.cell' (i := 0) rfl
  have c1 := hG.cell' d0
  have c2 := hG.cell' d1
  have c3 := hG.cell' d2
  have hlt : i < ps.length := (List.getElem?_eq_some_iff.1 hi).1
  clear hT hG h5 d0 d1 d2 hi
  go_enter Try.func79, Try.ntmps79
  go_wp2
  all_goals
    go_ret2
    exact ⟨rfl, rfl⟩

def setPg (w : World) (G i : Nat) (p : Pg) : World := ((w.setCell ⟨G, i * 3, none⟩ (.bool p.1)).setCell ⟨G, i * 3 + 1, none⟩ (.int .i64 p.2.1)).setCell ⟨G, i * 3 + 1 + 1, none⟩ (.int .i64 p.2.2)

theorem Tbl.ne_ {w : World} {T G : Nat} {ps : List Pg} (h : Tbl w T G ps) : T ≠ G := by
  obtain ⟨cap, cur, hT, hG, _⟩ := h
  exact Blk.ne_ hT hG (by decide)

theorem Tbl.lt {w : World} {T G : Nat} {ps : List Pg} (h : Tbl w T G ps) : T < w.heap.size ∧ G < w.heap.size := by
  obtain ⟨cap, cur, hT, hG, _⟩ := h
  exact ⟨hT.lt, hG.lt⟩

theorem Tbl.set_ {w : World} {T G : Nat} {ps : List Pg} (h : Tbl w T G ps) {i : Nat} (hi : i < ps.length) (p : Pg) : Tbl (setPg w G i p) T G (ps.set i p) := by
  have hne := h.ne_
  obtain ⟨cap, cur, hT, hG, h1, h2, h3, h4, h5⟩ := h
  refine ⟨cap, ((cur.setIfInBounds (i * 3) (.bool p.1)).setIfInBounds (i * 3 + 1) (.int .i64 p.2.1)).setIfInBounds (i * 3 + 1 + 1) (.int .i64 p.2.2), ?_, ?_, by simpa using h1, by simpa using h2, h3, by simpa using h4, ?_⟩
  · rw [List.length_set]
    exact ((hT.far hne _).far hne _).far hne _
  · exact ((hG.set_ _ _).set_ _ _).set_ _ _
  · intro j q hj
    by_cases hji : j = i
    · subst hji
      rw [List.getElem?_set_self hi] at hj
      obtain rfl : p = q := by simpa using hj
      have e0 : j * 3 + 1 + 1 < cur.size := by omega
      refine ⟨?_, ?_, ?_⟩ <;> grind
    · rw [List.getElem?_set_ne (fun e => hji e.symm)] at hj
      obtain ⟨d0, d1, d2⟩ := h5 j q hj
      refine ⟨?_, ?_, ?_⟩ <;> grind

theorem Tbl.set_head {w : World} {T G : Nat} {ps : List Pg} (h : Tbl w T G ps) {i : Nat} {b : Bool} {s g : Int} (hi : ps[i]? = some (b, s, g)) (c d : Int) :
    Tbl ((w.setCell ⟨G, i * 3 + 1, none⟩ (.int .i64 c)).setCell ⟨G, i * 3 + 1 + 1, none⟩ (.int .i64 d)) T G (ps.set i (b, c, d)) := by
  have hne := h.ne_
  have hlt : i < ps.length := (List.getElem?_eq_some_iff.1 hi).1
  obtain ⟨cap, cur, hT, hG, h1, h2, h3, h4, h5⟩ := h
  refine ⟨cap, (cur.setIfInBounds (i * 3 + 1) (.int .i64 c)).setIfInBounds (i * 3 + 1 + 1) (.int .i64 d), ?_, ?_, by simpa using h1, by simpa using h2, h3, by simpa using h4, ?_⟩
  · rw [List.length_set]
    exact (hT.far hne _).far hne _
  · exact (hG.set_ _ _).set_ _ _
  · intro j q hj
    by_cases hji : j = i
    · subst hji
      rw [List.getElem?_set_self hlt] at hj
      obtain rfl : (b, c, d) = q := by simpa using hj
      obtain ⟨d0, d1, d2⟩ := h5 j _ hi
      have e0 : j * 3 + 1 + 1 < cur.size := by omega
      refine ⟨?_, ?_, ?_⟩ <;> grind
    · rw [List.getElem?_set_ne (fun e => hji e.symm)] at hj
      obtain ⟨d0, d1, d2⟩ := h5 j q hj
      refine ⟨?_, ?_, ?_⟩ <;> grind

theorem Tbl.fr {w w' : World} {S : Nat → Prop} {T G : Nat} {ps : List Pg} (h : Tbl w T G ps) (hf : Fr S w w') (hT : ¬ S T) (hG : ¬ S G) : Tbl w' T G ps := by
  obtain ⟨cap, cur, a, b, h1, h2, h3, h4, h5⟩ := h
  exact ⟨cap, cur, a.fr hf hT, b.fr hf hG, h1, h2, h3, h4, h5⟩

theorem setPg_fr {S : Nat → Prop} {a w : World} (h : Fr S a w) {G : Nat} (hG : S G ∨ a.heap.size ≤ G) (i : Nat) (p : Pg) : Fr S a (setPg w G i p) := ((h.setCell hG _).setCell hG _).setCell hG _

theorem setPg_only (w : World) (G i : Nat) (p : Pg) : Fr (only G) w (setPg w G i p) := setPg_fr (Fr.refl (only G) w) (.inl (Eq.refl G)) i p

theorem head_err (o : Option Addr) (n : Int) (k : Int) (w : World)
    (hat : ∀ w1 : World, Fr none_ w w1 → Calls Try.prog 79 #[.pointer o, .int .i64 n] w1 fun e w' => e = .returned (.tuple #[.pointer none, errV k]) ∧ w1 = w') :
    Calls Try.prog 80 #[.pointer o, .int .i64 n] w fun e w' => e = .returned (.tuple #[.agg #[.int .i64 0, .int .i64 0], errV k]) ∧ Fr none_ w w' := by
  have H := hid_ hat
  clear hat
  go_enter Try.func80, Try.ntmps80
  go_wp2_with (go_at_call 79; refine (H.out _ ((Fr.refl _ _).alloc _)).mono ?_; rintro e w' ⟨rfl, rfl⟩)
  exact bodyPost_ret (v := .tuple #[.agg #[.int .i64 0, .int .i64 0], errV k]) (by simp [results, Try.results80, go_sem]) rfl ⟨rfl, (Fr.refl _ _).alloc _⟩

theorem head_ok (T G : Nat) (ps : List Pg) (i : Nat) (s g : Int) (w : World) (h : Tbl w T G ps) (hi : ps[i]? = some (true, s, g)) :
    Calls Try.prog 80 #[.pointer (some ⟨T, 0, none⟩), .int .i64 i] w fun e w' => e = .returned (.tuple #[.agg #[.int .i64 s, .int .i64 g], .nilIface]) ∧ Fr none_ w w' := by
  have h' := h
  obtain ⟨cap, cur, hT, hG, h1, h2, h3, h4, h5⟩ := h
  obtain ⟨d0, d1, d2⟩ := h5 i _ hi
  have c2 := hG.cell' d1
  have c3 := hG.cell' d2
  have hlt := hG.lt
  have H := hid_ h'
  have Hi := hid_ hi
  clear hT hG h5 d0 d1 d2 h' hi
  go_enter Try.func80, Try.ntmps80
  go_wp2_with (go_at_call 79; refine (mapAt_ok T G ps i s g _ (H.out.fr ((Fr.refl none_ _).alloc _) id id) Hi.out).mono ?_; rintro e w' ⟨rfl, rfl⟩)
  exact bodyPost_ret (v := .tuple #[.agg #[.int .i64 s, .int .i64 g], .nilIface]) (by simp [results, Try.results80, go_sem]) rfl ⟨rfl, (Fr.refl _ _).alloc _⟩

theorem swap_ok (T G : Nat) (ps : List Pg) (i : Nat) (s g a b c d : Int) (w : World) (h : Tbl w T G ps) (hi : ps[i]? = some (true, s, g)) :
    Calls Try.prog 47 #[.pointer (some ⟨T, 0, none⟩), .int .i64 i, .agg #[.int .i64 a, .int .i64 b], .agg #[.int .i64 c, .int .i64 d]] w fun e w' =>
      e = .returned (.tuple #[.bool (s == a && g == b), .nilIface]) ∧ Tbl w' T G (if s = a ∧ g = b then ps.set i (true, c, d) else ps) ∧ Fr (only G) w w' := by
  have h' := h
  obtain ⟨cap, cur, hT, hG, h1, h2, h3, h4, h5⟩ := h
  obtain ⟨d0, d1, d2⟩ := h5 i _ hi
  have c2 := hG.cell' d1
  have c3 := hG.cell' d2
  have f := hG.frozen
  have f1 := f (i * 3 + 1)
  have f2 := f (i * 3 + 1 + 1)
  have hlt := hG.lt
  have H := hid_ h'
  have Hi := hid_ hi
  clear hT hG h5 d0 d1 d2 h' hi f
  by_cases hc : s = a ∧ g = b
  · obtain ⟨rfl, rfl⟩ := hc
    go_enter Try.func47, Try.ntmps47
    go_wp2_with (go_at_call 79; refine (mapAt_ok T G ps i s g _ (H.out.fr (((Fr.refl none_ _).alloc _).alloc _) id id) Hi.out).mono ?_; rintro e w' ⟨rfl, rfl⟩)
    go_region
    all_goals go_wp2
    go_ret2
    exact ⟨rfl, (H.out.set_head Hi.out c d).fr ((((Fr.refl none_ _).alloc _).alloc _).drew) id id, (((((Fr.refl (only G) w).setCell (p := ⟨G, i * 3 + 1, none⟩) (.inl (Eq.refl G)) _).setCell (p := ⟨G, i * 3 + 1 + 1, none⟩) (.inl (Eq.refl G)) _).alloc _).alloc _).drew⟩
  · have hq : ∀ w, (binOp .neq 33 (.agg #[.int .i64 s, .int .i64 g]) (.agg #[.int .i64 a, .int .i64 b])).run Try.prog w = .ok (.bool true) w := fun w => by
      rw [neq_ref]
      have : (s == a && g == b) = false := by simpa using hc
      rw [this]; rfl
    have Hc := hid_ hc
    clear hc
    go_enter Try.func47, Try.ntmps47
    go_wp2_with (go_at_call 79; refine (mapAt_ok T G ps i s g _ (H.out.fr (((Fr.refl none_ _).alloc _).alloc _) id id) Hi.out).mono ?_; rintro e w' ⟨rfl, rfl⟩)
    go_region
    all_goals go_wp2
    go_ret2
    refine ⟨?_, ?_, ?_⟩
    · have : (s == a && g == b) = false := by simpa using Hc.out
      rw [this]; rfl
    · exact H.out.fr ((((Fr.refl none_ _).alloc _).alloc _).drew) id id
    · exact (((Fr.refl _ _).alloc _).alloc _).drew

end Go.Proofs.Ytpjbncbmdfmlpaa
namespace Go.Proofs.Ytpjbncbmdfmlpaa
open Go.RowKit Go.BigFrame
set_option maxRecDepth 100000
set_option linter.unusedVariables false
theorem rpFlat_get10 : ∀ (X : List (Int × Int)) (k : Nat) (p : Int × Int), X[k]? = some p → (rpFlat X)[k * 2]? = some (.int .i64 p.1) ∧ (rpFlat X)[k * 2 + 1]? = some (.int .i64 p.2)
  | [], k, p, h => by simp at h
  | q :: X, 0, p, h => by
    obtain rfl : q = p := by simpa using h
    exact ⟨rfl, rfl⟩
  | q :: X, k + 1, p, h => by
    have := rpFlat_get10 X k p (by simpa using h)
    have e : ∀ j, (rpFlat (q :: X))[j + 2]? = (rpFlat X)[j]? := fun j => rfl
    exact ⟨by rw [show (k + 1) * 2 = k * 2 + 2 by omega, e]; exact this.1, by rw [show (k + 1) * 2 + 1 = k * 2 + 1 + 2 by omega, e]; exact this.2⟩
theorem rp_at10 {w : World} {A : Option Addr} {X : List (Int × Int)} (h : Reads w 2 A X.length (rpFlat X)) {k : Nat} {p : Int × Int} (hp : X[k]? = some p) : ∃ b off, A = some ⟨b, off, none⟩ ∧ b < w.heap.size ∧ w.cell? ⟨b, off + k * 2, none⟩ = some (.int .i64 p.1) ∧ w.cell? ⟨b, off + k * 2 + 1, none⟩ = some (.int .i64 p.2) := by
  obtain ⟨b, off, e, hb, hc⟩ := reads_lit h (by decide) (by have := (List.getElem?_eq_some_iff.1 hp).1; omega)
  have := rpFlat_get10 X k p hp
  exact ⟨b, off, e, hb, hc _ _ this.1, by have := hc _ _ this.2; rwa [← Nat.add_assoc] at this⟩
set_option maxHeartbeats 4000000 in
theorem sameRefs10_ok (X : List (Int × Int)) (A B : Option Addr) (c d : Nat) (w : World) (hl : X.length ≤ 5000) (h1 : Reads w 2 A X.length (rpFlat X)) (h2 : Reads w 2 B X.length (rpFlat X)) : Calls Try.prog 63 #[.slice A X.length c, .slice B X.length d] w fun e w' => e = .returned (.bool true) ∧ Fr none_ w w' := by
  have H1 := hid_ h1
  have H2 := hid_ h2
  clear h1 h2
  go_enter Try.func63, Try.ntmps63
  go_wp2_with fail
  go_loopw [5] (fun i wr => ∃ k : Nat, k ≤ X.length ∧ i = .int .i64 k ∧ Fr none_ w wr) (fun i _ => X.length - (intOf i).toNat)
  case atStart => exact ⟨0, Nat.zero_le _, rfl, Fr.refl _ _⟩
  case round =>
    obtain ⟨k, hk, rfl, hfr⟩ := hrel
    have FR := hid_ hfr
    have hi0 : (0 : Int) ≤ (k : Int) := Int.natCast_nonneg _
    clear hfr
    by_cases hlt : k < X.length
    · obtain ⟨p, hp⟩ : ∃ p, X[k]? = some p := ⟨_, List.getElem?_eq_getElem hlt⟩
      obtain ⟨b1, o1, rfl, hb1, x0, x1⟩ := rp_at10 (H1.out.none_fr FR.out) hp
      obtain ⟨b2, o2, rfl, hb2, y0, y1⟩ := rp_at10 (H2.out.none_fr FR.out) hp
      have hi1 : (k : Int) < (X.length : Int) := by omega
      have hq : ∀ w', (binOp .neq 33 (.agg #[.int .i64 p.1, .int .i64 p.2]) (.agg #[.int .i64 p.1, .int .i64 p.2])).run Try.prog w' = .ok (.bool false) w' := fun w' => by rw [neq_ref]; simp
      clear hp
      go_wp2_with fail
      go_quiet (fail)
      go_wp2_with fail
      go_roundw
      case rel => exact ⟨k + 1, by omega, by go_num, by repeat (first | exact FR.out | apply Fr.drewN | apply Fr.drew)⟩
      case measure => simp [intOf]; omega
    · have hi1 : ¬ (k : Int) < (X.length : Int) := by omega
      go_wp2_with fail
      go_ret
      exact ⟨rfl, FR.out⟩
set_option maxHeartbeats 2000000 in
theorem sameRows_ok (L : List Rw) (A A2 : Option Addr) (c c2 : Nat) (w : World) (h : Reads w 2 A L.length (rwFlat L)) (h2 : Reads w 2 A2 L.length (rwFlat L)) (hl : L.length ≤ 300000) :
    Calls Try.prog 100 #[.slice A L.length c, .slice A2 L.length c2] w fun e w' => e = .returned (.bool true) ∧ Fr none_ w w' := by
  have H := hid_ (And.intro h h2)
  clear h h2
  go_enter Try.func100, Try.ntmps100
  go_wp2_with fail
  go_loopw [5] (fun i wr => ∃ k : Nat, k ≤ L.length ∧ i = .int .i64 k ∧ Fr none_ w wr) (fun i _ => L.length - (intOf i).toNat)
  case atStart => exact ⟨0, Nat.zero_le _, rfl, Fr.refl _ _⟩
  case round =>
    obtain ⟨k, hk, rfl, hF⟩ := hrel
    have F := hid_ hF
    have R1 := hid_ (H.out.1.none_fr hF)
    have R2 := hid_ (H.out.2.none_fr hF)
    clear hF
    have hi0 : (0 : Int) ≤ (k : Int) := Int.natCast_nonneg _
    by_cases hlt : k < L.length
    · obtain ⟨p, hp⟩ : ∃ p, L[k]? = some p := ⟨_, List.getElem?_eq_getElem hlt⟩
      obtain ⟨b1, o1, rfl, hb1, d0, d1⟩ := rw_at R1.out hp
      obtain ⟨b2, o2, rfl, hb2, e0, e1⟩ := rw_at R2.out hp
      have hi1 : (k : Int) < (L.length : Int) := by omega
      clear hp
      go_wp2_with fail
      go_quiet (fail)
      have FQ := hid_ (F.out.drewN nq)
      clear d0 d1 e0 e1
      go_wp2
      go_roundw
      case rel => exact ⟨k + 1, by omega, by go_num, FQ.out⟩
      case measure => simp [intOf]; omega
    · obtain rfl : k = L.length := by omega
      go_wp2
      go_ret
      exact ⟨rfl, F.out⟩
set_option maxHeartbeats 4000000 in
theorem same7_ok (V : Lw) (A A2 : Option Addr) (c c2 : Nat) (w : World) (h : Reads w 2 A V.rows.length (rwFlat V.rows)) (h2 : Reads w 2 A2 V.rows.length (rwFlat V.rows)) (hl : V.rows.length ≤ 300000) :
    Calls Try.prog 65 #[.agg (lwA V (.slice A V.rows.length c)), .agg (lwA V (.slice A2 V.rows.length c2))] w fun e w' => e = .returned (.bool true) ∧ Fr none_ w w' := by
  have F := ((Fr.refl none_ w).alloc (.cells (lwA V (.slice A V.rows.length c)) 65)).alloc (.cells (lwA V (.slice A2 V.rows.length c2)) 65)
  have HF := hid_ F
  have H := hid_ (And.intro (h.none_fr F) (h2.none_fr F))
  clear h h2 F
  go_enter Try.func65, Try.ntmps65
  go_wp2_with fail
  refine (sameRows_ok V.rows A A2 c c2 _ H.out.1 H.out.2 hl).mono ?_
  rintro e w1 ⟨rfl, hf1⟩
  have F1 := hid_ (HF.out.then_none hf1)
  clear hf1
  go_wp2_with fail
  go_ret
  exact ⟨rfl, F1.out⟩
end Go.Proofs.Ytpjbncbmdfmlpaa
namespace Go.Proofs.Ytpjbncbmdfmlpaa
open Go.RowKit Go.BigFrame
set_option maxRecDepth 100000
set_option linter.unusedVariables false
theorem rec_sz10 : ∀ w, (sizeOf 58).run Try.prog w = .ok 15 w := fun w => by kernel_rfl
theorem ex_index15 {oi : Oper} {a : Act} (t e : TypeId) (x y : Operand) (b off n m c : Nat) (ho : oi.op = .indexAddr t x y) (hx : a.eval x = .slice (some ⟨b, off, none⟩) m c) (hy : a.eval y = .int .i64 n) (hu : Try.prog.underlying t = some (.slice e)) (hs : ∀ w, (sizeOf e).run Try.prog w = .ok 15 w) (hn : n < m) (w : World) :
    (execOp a.eval oi).run Try.prog w = .ok (.value (.pointer (some ⟨b, off + n * 15, none⟩))) w := by
  unfold execOp
  simp only [ho, hx, hy, Sem.run_bind, Sem.run_pure]
  have h0 : (0 : Int) ≤ (n : Int) := Int.natCast_nonneg _
  have h1 : (n : Int) < (m : Int) := by omega
  simp [go_sem, hu, hs, h0, h1]
/-- Two rows of records that hold the same. -/
structure SmCh (w : World) (C C2 : Option Addr) (nc : Nat) (L L2 : List Ch) : Prop where
  a : ChReads w C nc L
  b : ChReads w C2 nc L2
  m : L2.map (·.R) = L.map (·.R)
  rows : ∀ D ∈ L, D.R.rows.length ≤ 1000 ∧ D.R.ents.length ≤ 1000
theorem SmCh.keep {w w' : World} {C C2 : Option Addr} {nc : Nat} {L L2 : List Ch} (h : SmCh w C C2 nc L L2) (hf : Fr none_ w w') : SmCh w' C C2 nc L L2 := ⟨h.a.keep hf, h.b.keep hf, h.m, h.rows⟩
theorem SmCh.at_ {w : World} {C C2 : Option Addr} {nc : Nat} {L L2 : List Ch} (h : SmCh w C C2 nc L L2) {k : Nat} (hk : k < nc) : ∃ (R : Rc) (A1 A2 B1 B2 : Option Addr) (c1 c2 d1 d2 : Nat) (b1 o1 b2 o2 : Nat), C = some ⟨b1, o1, none⟩ ∧ C2 = some ⟨b2, o2, none⟩ ∧ w.rangeAt b1 (o1 + k * 15) (recL ⟨R, A1, c1, B1, d1⟩) ∧ w.rangeAt b2 (o2 + k * 15) (recL ⟨R, A2, c2, B2, d2⟩) ∧ RecReads w R A1 B1 ∧ RecReads w R A2 B2 ∧ R.rows.length ≤ 1000 ∧ R.ents.length ≤ 1000 := by
  obtain ⟨E, hE⟩ : ∃ E, L[k]? = some E := ⟨_, List.getElem?_eq_getElem (by rw [h.a.1]; exact hk)⟩
  obtain ⟨G, hG⟩ : ∃ G, L2[k]? = some G := ⟨_, List.getElem?_eq_getElem (by rw [h.b.1]; exact hk)⟩
  have e : G.R = E.R := by
    have h1 := congrArg (fun l => l[k]?) h.m
    simp only [List.getElem?_map, hE, hG, Option.map_some] at h1
    exact Option.some.inj h1
  obtain ⟨b1, o1, e1, _, r1, k1⟩ := h.a.at_ hE
  obtain ⟨b2, o2, e2, _, r2, k2⟩ := h.b.at_ hG
  obtain ⟨RE, A1, c1, B1, d1⟩ := E
  obtain ⟨RG, A2, c2, B2, d2⟩ := G
  have e' : RG = RE := e
  subst e'
  have hz := h.rows _ (List.mem_of_getElem? hE)
  exact ⟨RG, A1, A2, B1, B2, c1, c2, d1, d2, b1, o1, b2, o2, e1, e2, r1, r2, k1.rd, k2.rd, hz.1, hz.2⟩
/-- Two pages' other rows. -/
structure SmPg (w : World) (refs : List (Int × Int)) (lv : Lw) (iv : Vw) (D D2 A A2 B B2 : Option Addr) : Prop where
  r1 : Reads w 2 D refs.length (rpFlat refs)
  r2 : Reads w 2 D2 refs.length (rpFlat refs)
  l1 : Reads w 2 A lv.rows.length (rwFlat lv.rows)
  l2 : Reads w 2 A2 lv.rows.length (rwFlat lv.rows)
  i1 : Reads w 2 B iv.ents.length (etFlat iv.ents)
  i2 : Reads w 2 B2 iv.ents.length (etFlat iv.ents)
  zr : refs.length ≤ 5000
  zl : lv.rows.length ≤ 300000
  zi : iv.ents.length ≤ 2000
theorem SmPg.keep {w w' : World} {refs : List (Int × Int)} {lv : Lw} {iv : Vw} {D D2 A A2 B B2 : Option Addr} (h : SmPg w refs lv iv D D2 A A2 B B2) (hf : Fr none_ w w') : SmPg w' refs lv iv D D2 A A2 B B2 :=
  ⟨h.r1.none_fr hf, h.r2.none_fr hf, h.l1.none_fr hf, h.l2.none_fr hf, h.i1.none_fr hf, h.i2.none_fr hf, h.zr, h.zl, h.zi⟩
set_option maxHeartbeats 8000000 in
theorem same10_ok (n hs hg : Int) (leaf : Bool) (lv : Lw) (iv : Vw) (refs : List (Int × Int)) (nc : Nat) (L L2 : List Ch) (C C2 D D2 A A2 B B2 : Option Addr) (x x2 y y2 c c2 d d2 : Nat) (w : World) (hnc : nc ≤ 5000) (h : SmCh w C C2 nc L L2) (h2 : SmPg w refs lv iv D D2 A A2 B B2) :
    Calls Try.prog 26 #[.agg (pgA n hs hg (.slice C nc x) (.slice D refs.length y) leaf lv (.slice A lv.rows.length c) iv (.slice B iv.ents.length d)), .agg (pgA n hs hg (.slice C2 nc x2) (.slice D2 refs.length y2) leaf lv (.slice A2 lv.rows.length c2) iv (.slice B2 iv.ents.length d2))] w fun e w' => e = .returned (.bool true) ∧ Fr none_ w w' := by
  obtain ⟨w0, hw0⟩ : ∃ z, z = (w.alloc (.cells (pgA n hs hg (.slice C nc x) (.slice D refs.length y) leaf lv (.slice A lv.rows.length c) iv (.slice B iv.ents.length d)) 45)).alloc (.cells (pgA n hs hg (.slice C2 nc x2) (.slice D2 refs.length y2) leaf lv (.slice A2 lv.rows.length c2) iv (.slice B2 iv.ents.length d2)) 68) := ⟨_, rfl⟩
  have f0 : Fr none_ w w0 := by rw [hw0]; exact ((Fr.refl none_ w).alloc _).alloc _
  have BP : Hid (Blk w0 w.heap.size 45 (pgA n hs hg (.slice C nc x) (.slice D refs.length y) leaf lv (.slice A lv.rows.length c) iv (.slice B iv.ents.length d))) := hid_ (by rw [hw0]; exact (Blk.new w _ _).alloc _)
  have BQ : Hid (Blk w0 (w.heap.size + 1) 68 (pgA n hs hg (.slice C2 nc x2) (.slice D2 refs.length y2) leaf lv (.slice A2 lv.rows.length c2) iv (.slice B2 iv.ents.length d2))) := hid_ (by rw [hw0]; exact Blk.new7 _ _ (by simp))
  have F0 := hid_ f0
  have H := hid_ (h.keep f0)
  have H2 := hid_ (h2.keep f0)
  clear h h2 f0
  go_enter Try.func26, Try.ntmps26
  go_upto_region 1 with fail
  change Code.wp _ _ _ _ ((w.alloc (.cells (pgA n hs hg (.slice C nc x) (.slice D refs.length y) leaf lv (.slice A lv.rows.length c) iv (.slice B iv.ents.length d)) 45)).alloc (.cells (pgA n hs hg (.slice C2 nc x2) (.slice D2 refs.length y2) leaf lv (.slice A2 lv.rows.length c2) iv (.slice B2 iv.ents.length d2)) 68))
  rw [← hw0]
  clear hw0
  obtain ⟨gP, hgP⟩ : ∃ g, g = w.heap.size := ⟨_, rfl⟩
  rw [← hgP] at BP BQ
  rw [← hgP]
  clear hgP
  have p0 : w0.cell? ⟨gP, 0, none⟩ = some (.int .i64 n) := BP.out.cell' rfl
  have q0 : w0.cell? ⟨gP + 1, 0, none⟩ = some (.int .i64 n) := BQ.out.cell' rfl
  have p1 : w0.cell? ⟨gP, 1, none⟩ = some (.int .i64 hs) := BP.out.cell' rfl
  have q1 : w0.cell? ⟨gP + 1, 1, none⟩ = some (.int .i64 hs) := BQ.out.cell' rfl
  have p2 : w0.cell? ⟨gP, 2, none⟩ = some (.int .i64 hg) := BP.out.cell' rfl
  have q2 : w0.cell? ⟨gP + 1, 2, none⟩ = some (.int .i64 hg) := BQ.out.cell' rfl
  have p3 : w0.cell? ⟨gP, 3, none⟩ = some (.slice C nc x) := BP.out.cell' rfl
  have q3 : w0.cell? ⟨gP + 1, 3, none⟩ = some (.slice C2 nc x2) := BQ.out.cell' rfl
  have p4 : w0.cell? ⟨gP, 4, none⟩ = some (.slice D refs.length y) := BP.out.cell' rfl
  have q4 : w0.cell? ⟨gP + 1, 4, none⟩ = some (.slice D2 refs.length y2) := BQ.out.cell' rfl
  have p5 : w0.cell? ⟨gP, 5, none⟩ = some (.bool leaf) := BP.out.cell' rfl
  have q5 : w0.cell? ⟨gP + 1, 5, none⟩ = some (.bool leaf) := BQ.out.cell' rfl
  have hq : ∀ w', (binOp .neq 33 (.agg #[.int .i64 hs, .int .i64 hg]) (.agg #[.int .i64 hs, .int .i64 hg])).run Try.prog w' = .ok (.bool false) w' := fun w' => by rw [neq_ref]; simp
  go_wp2_with fail
  refine (sameRefs10_ok refs D D2 y y2 w0 H2.out.zr H2.out.r1 H2.out.r2).mono ?_
  rintro e w1 ⟨rfl, hf1⟩
  replace BP := hid_ (BP.out.fr hf1 id)
  replace BQ := hid_ (BQ.out.fr hf1 id)
  replace H := hid_ (H.out.keep hf1)
  replace H2 := hid_ (H2.out.keep hf1)
  replace F0 := hid_ (F0.out.then_none hf1)
  clear hf1 p0 p1 p2 p3 p4 p5 q0 q1 q2 q3 q4 q5 hq
  have p3 : w1.cell? ⟨gP, 3, none⟩ = some (.slice C nc x) := BP.out.cell' rfl
  go_wp2_with fail
  go_loopw [47] (fun i wr => ∃ k : Nat, k ≤ nc ∧ i = .int .i64 k ∧ Fr none_ w1 wr) (fun i _ => nc - (intOf i).toNat)
  case atStart => exact ⟨0, Nat.zero_le _, rfl, Fr.refl _ _⟩
  case round =>
    obtain ⟨k, hk, rfl, hfr⟩ := hrel
    obtain ⟨wx, rfl⟩ : ∃ z : World, z = wr := ⟨_, rfl⟩
    have FR := hid_ hfr
    have BPr := hid_ (BP.out.fr hfr id)
    have BQr := hid_ (BQ.out.fr hfr id)
    have Hr := hid_ (H.out.keep hfr)
    have H2r := hid_ (H2.out.keep hfr)
    have hi0 : (0 : Int) ≤ (k : Int) := Int.natCast_nonneg _
    clear hfr p3
    by_cases hlt : k < nc
    · obtain ⟨R, A5, A6, B5, B6, c5, c6, d5, d6, b1, o1, b2, o2, rfl, rfl, r1, r2, e1, e2, z1, z2⟩ := Hr.out.at_ hlt
      have R1 := hid_ r1
      have R2 := hid_ r2
      have E := hid_ (And.intro e1 (And.intro e2 (And.intro z1 z2)))
      have hi1 : (k : Int) < (nc : Int) := by omega
      clear r1 r2 e1 e2 z1 z2
      go_upto_region 6 with fail
      (try go_frame)
      go_cut [61] (fun u wq => u = .bool false ∧ Fr none_ wx wq)
      case first =>
        refine wp_region_q7 (fun w' => Fr none_ wx w') (by kernel_rfl) (by kernel_rfl) (Fr.refl none_ wx).drew ?_
        refine q_val7 (some 50) (.pointer (some ⟨gP, 3, none⟩)) rfl (by kernel_rfl) (fun w' hC => by kernel_rfl) ?_
        refine q_cell7 (some 51) (.slice (some ⟨b1, o1, none⟩) nc x) 34 (.tmp 50) ⟨gP, 3, none⟩ _ rfl (by kernel_rfl) rfl (by kernel_rfl) (fun w' hC => (BPr.out.fr hC id).cell' rfl) Try.underlying34 rfl ?_
        refine q_val7 (some 52) (.int .i64 k) rfl (by kernel_rfl) (fun w' hC => by kernel_rfl) ?_
        refine q_val7 (some 53) (.pointer (some ⟨b1, o1 + k * 15, none⟩)) rfl (by kernel_rfl) (fun w' hC => ex_index15 34 58 (.tmp 51) (.tmp 52) b1 o1 k nc x rfl (by kernel_rfl) (by kernel_rfl) Try.underlying34 rec_sz10 hlt w') ?_
        refine q_mid7 (some 54) (recL ⟨R, A5, c5, B5, d5⟩) 58 (.tmp 53) b1 (o1 + k * 15) _ rfl (by kernel_rfl) rfl (by kernel_rfl) (fun w' hC j v hv => cellFr (R1.out j v hv) hC) Try.underlying58 rfl rec_size8 ?_
        refine q_val7 (some 55) (.pointer (some ⟨gP + 1, 3, none⟩)) rfl (by kernel_rfl) (fun w' hC => by kernel_rfl) ?_
        refine q_cell7 (some 56) (.slice (some ⟨b2, o2, none⟩) nc x2) 34 (.tmp 55) ⟨gP + 1, 3, none⟩ _ rfl (by kernel_rfl) rfl (by kernel_rfl) (fun w' hC => (BQr.out.fr hC id).cell' rfl) Try.underlying34 rfl ?_
        refine q_val7 (some 57) (.int .i64 k) rfl (by kernel_rfl) (fun w' hC => by kernel_rfl) ?_
        refine q_val7 (some 58) (.pointer (some ⟨b2, o2 + k * 15, none⟩)) rfl (by kernel_rfl) (fun w' hC => ex_index15 34 58 (.tmp 56) (.tmp 57) b2 o2 k nc x2 rfl (by kernel_rfl) (by kernel_rfl) Try.underlying34 rec_sz10 hlt w') ?_
        refine q_mid7 (some 59) (recL ⟨R, A6, c6, B6, d6⟩) 58 (.tmp 58) b2 (o2 + k * 15) _ rfl (by kernel_rfl) rfl (by kernel_rfl) (fun w' hC j v hv => cellFr (R2.out j v hv) hC) Try.underlying58 rfl rec_size8 ?_
        refine q_call7 (some 60) (.bool true) 64 #[.agg (recL ⟨R, A5, c5, B5, d5⟩).toArray, .agg (recL ⟨R, A6, c6, B6, d6⟩).toArray] rfl (by kernel_rfl) (fun w' hC => by kernel_rfl) (fun w' hC => (same4_ok R A5 c5 B5 d5 A6 c6 B6 d6 w' (E.out.1.keep hC) (E.out.2.1.keep hC) E.out.2.2.1 E.out.2.2.2).mono (fun e w2 h => ⟨h.1, hC.then_none h.2⟩)) ?_
        refine q_val7 (some 61) (.bool false) rfl (by kernel_rfl) (fun w' hC => by kernel_rfl) ?_
        refine q_done7 ?_
        intro w7 hf7
        (try simp only [Exit.then])
        (try go_frame)
        (first | (rename_i hKm; refine hKm _ _ ?_) | (rename_i hKm _; refine hKm _ _ ?_) | (rename_i hKm _ _; refine hKm _ _ ?_) | (rename_i hKm _ _ _; refine hKm _ _ ?_))
        go_meet
        case rel => exact ⟨rfl, hf7⟩
      case rest =>
        obtain ⟨rfl, hf7⟩ := hcut
        have FQ := hid_ (FR.out.then_none hf7)
        clear hf7
        go_wp2_with fail
        go_roundw
        case rel => exact ⟨k + 1, by omega, by go_num, FQ.out⟩
        case measure => simp [intOf]; omega
    · obtain rfl : k = nc := by omega
      have p6 : wx.cell? ⟨gP, 6, none⟩ = some (.string lv.low) := BPr.out.cell' rfl
      have p7 : wx.cell? ⟨gP, 7, none⟩ = some (.string lv.high) := BPr.out.cell' rfl
      have p8 : wx.cell? ⟨gP, 8, none⟩ = some (.bool lv.unb) := BPr.out.cell' rfl
      have p9 : wx.cell? ⟨gP, 9, none⟩ = some (.int .i64 lv.right) := BPr.out.cell' rfl
      have p10 : wx.cell? ⟨gP, 10, none⟩ = some (.slice A lv.rows.length c) := BPr.out.cell' rfl
      have p11 : wx.cell? ⟨gP, 11, none⟩ = some (.bool lv.gone) := BPr.out.cell' rfl
      have p12 : wx.cell? ⟨gP, 12, none⟩ = some (.string iv.low) := BPr.out.cell' rfl
      have p13 : wx.cell? ⟨gP, 13, none⟩ = some (.string iv.high) := BPr.out.cell' rfl
      have p14 : wx.cell? ⟨gP, 14, none⟩ = some (.bool iv.unb) := BPr.out.cell' rfl
      have p15 : wx.cell? ⟨gP, 15, none⟩ = some (.int .i64 iv.right) := BPr.out.cell' rfl
      have p16 : wx.cell? ⟨gP, 16, none⟩ = some (.slice B iv.ents.length d) := BPr.out.cell' rfl
      have p17 : wx.cell? ⟨gP, 17, none⟩ = some (.bool iv.held) := BPr.out.cell' rfl
      have p18 : wx.cell? ⟨gP, 18, none⟩ = some (.int .i64 iv.hp) := BPr.out.cell' rfl
      have p19 : wx.cell? ⟨gP, 19, none⟩ = some (.int .i64 iv.hl) := BPr.out.cell' rfl
      have p20 : wx.cell? ⟨gP, 20, none⟩ = some (.string iv.hk) := BPr.out.cell' rfl
      go_upto_region 10 with fail
      obtain ⟨w2, hw2⟩ : ∃ z, z = wx.alloc (.cells (lwA lv (.slice A lv.rows.length c)) 65) := ⟨_, rfl⟩
      have K2 : Hid (Blk w2 wx.heap.size 65 (lwA lv (.slice A lv.rows.length c)) ∧ Fr none_ wx w2) := hid_ (by rw [hw2]; exact ⟨Blk.new _ _ _, (Fr.refl none_ _).alloc _⟩)
      change Code.wp _ _ _ _ (wx.alloc (.cells (lwA lv (.slice A lv.rows.length c)) 65))
      rw [← hw2]
      clear hw2
      replace BPr := hid_ (BPr.out.fr K2.out.2 id)
      replace BQr := hid_ (BQr.out.fr K2.out.2 id)
      replace H2r := hid_ (H2r.out.keep K2.out.2)
      replace FR := hid_ (FR.out.then_none K2.out.2)
      have G2 := hid_ K2.out.1
      obtain ⟨g2, hg2⟩ : ∃ g, g = wx.heap.size := ⟨_, rfl⟩
      rw [← hg2] at G2
      rw [← hg2]
      clear hg2 K2 p6 p7 p8 p9 p10 p11 p12 p13 p14 p15 p16 p17 p18 p19 p20
      have p12 : w2.cell? ⟨gP, 12, none⟩ = some (.string iv.low) := BPr.out.cell' rfl
      have p13 : w2.cell? ⟨gP, 13, none⟩ = some (.string iv.high) := BPr.out.cell' rfl
      have p14 : w2.cell? ⟨gP, 14, none⟩ = some (.bool iv.unb) := BPr.out.cell' rfl
      have p15 : w2.cell? ⟨gP, 15, none⟩ = some (.int .i64 iv.right) := BPr.out.cell' rfl
      have p16 : w2.cell? ⟨gP, 16, none⟩ = some (.slice B iv.ents.length d) := BPr.out.cell' rfl
      have p17 : w2.cell? ⟨gP, 17, none⟩ = some (.bool iv.held) := BPr.out.cell' rfl
      have p18 : w2.cell? ⟨gP, 18, none⟩ = some (.int .i64 iv.hp) := BPr.out.cell' rfl
      have p19 : w2.cell? ⟨gP, 19, none⟩ = some (.int .i64 iv.hl) := BPr.out.cell' rfl
      have p20 : w2.cell? ⟨gP, 20, none⟩ = some (.string iv.hk) := BPr.out.cell' rfl
      go_upto_region 11 with fail
      obtain ⟨w3, hw3⟩ : ∃ z, z = w2.alloc (.cells (vwA iv (.slice B iv.ents.length d)) 66) := ⟨_, rfl⟩
      have K3 : Hid (Blk w3 w2.heap.size 66 (vwA iv (.slice B iv.ents.length d)) ∧ Fr none_ w2 w3) := hid_ (by rw [hw3]; exact ⟨Blk.new _ _ _, (Fr.refl none_ _).alloc _⟩)
      change Code.wp _ _ _ _ (w2.alloc (.cells (vwA iv (.slice B iv.ents.length d)) 66))
      rw [← hw3]
      clear hw3
      replace G2 := hid_ (G2.out.fr K3.out.2 id)
      replace BQr := hid_ (BQr.out.fr K3.out.2 id)
      replace H2r := hid_ (H2r.out.keep K3.out.2)
      replace FR := hid_ (FR.out.then_none K3.out.2)
      have G3 := hid_ K3.out.1
      obtain ⟨g3, hg3⟩ : ∃ g, g = w2.heap.size := ⟨_, rfl⟩
      rw [← hg3] at G3
      rw [← hg3]
      clear hg3 K3 BPr p12 p13 p14 p15 p16 p17 p18 p19 p20
      have z0 : w3.cell? ⟨g2, 0, none⟩ = some (.string lv.low) := G2.out.cell' rfl
      have q6 : w3.cell? ⟨gP + 1, 6, none⟩ = some (.string lv.low) := BQr.out.cell' rfl
      have z1 : w3.cell? ⟨g2, 1, none⟩ = some (.string lv.high) := G2.out.cell' rfl
      have q7 : w3.cell? ⟨gP + 1, 7, none⟩ = some (.string lv.high) := BQr.out.cell' rfl
      have z2 : w3.cell? ⟨g2, 2, none⟩ = some (.bool lv.unb) := G2.out.cell' rfl
      have q8 : w3.cell? ⟨gP + 1, 8, none⟩ = some (.bool lv.unb) := BQr.out.cell' rfl
      have z3 : w3.cell? ⟨g2, 3, none⟩ = some (.int .i64 lv.right) := G2.out.cell' rfl
      have q9 : w3.cell? ⟨gP + 1, 9, none⟩ = some (.int .i64 lv.right) := BQr.out.cell' rfl
      have z4 : w3.cell? ⟨g2, 4, none⟩ = some (.slice A lv.rows.length c) := G2.out.cell' rfl
      have q10 : w3.cell? ⟨gP + 1, 10, none⟩ = some (.slice A2 lv.rows.length c2) := BQr.out.cell' rfl
      have z5 : w3.cell? ⟨g2, 5, none⟩ = some (.bool lv.gone) := G2.out.cell' rfl
      have q11 : w3.cell? ⟨gP + 1, 11, none⟩ = some (.bool lv.gone) := BQr.out.cell' rfl
      go_wp2_with fail
      refine (same7_ok lv A A2 c c2 w3 H2r.out.l1 H2r.out.l2 H2r.out.zl).mono ?_
      rintro e w4 ⟨rfl, hf4⟩
      replace G3 := hid_ (G3.out.fr hf4 id)
      replace BQr := hid_ (BQr.out.fr hf4 id)
      replace H2r := hid_ (H2r.out.keep hf4)
      replace FR := hid_ (FR.out.then_none hf4)
      clear hf4
      clear z0 q6 z1 q7 z2 q8 z3 q9 z4 q10 z5 q11
      have z0 : w4.cell? ⟨g3, 0, none⟩ = some (.string iv.low) := G3.out.cell' rfl
      have q12 : w4.cell? ⟨gP + 1, 12, none⟩ = some (.string iv.low) := BQr.out.cell' rfl
      have z1 : w4.cell? ⟨g3, 1, none⟩ = some (.string iv.high) := G3.out.cell' rfl
      have q13 : w4.cell? ⟨gP + 1, 13, none⟩ = some (.string iv.high) := BQr.out.cell' rfl
      have z2 : w4.cell? ⟨g3, 2, none⟩ = some (.bool iv.unb) := G3.out.cell' rfl
      have q14 : w4.cell? ⟨gP + 1, 14, none⟩ = some (.bool iv.unb) := BQr.out.cell' rfl
      have z3 : w4.cell? ⟨g3, 3, none⟩ = some (.int .i64 iv.right) := G3.out.cell' rfl
      have q15 : w4.cell? ⟨gP + 1, 15, none⟩ = some (.int .i64 iv.right) := BQr.out.cell' rfl
      have z4 : w4.cell? ⟨g3, 4, none⟩ = some (.slice B iv.ents.length d) := G3.out.cell' rfl
      have q16 : w4.cell? ⟨gP + 1, 16, none⟩ = some (.slice B2 iv.ents.length d2) := BQr.out.cell' rfl
      have z5 : w4.cell? ⟨g3, 5, none⟩ = some (.bool iv.held) := G3.out.cell' rfl
      have q17 : w4.cell? ⟨gP + 1, 17, none⟩ = some (.bool iv.held) := BQr.out.cell' rfl
      have z6 : w4.cell? ⟨g3, 6, none⟩ = some (.int .i64 iv.hp) := G3.out.cell' rfl
      have q18 : w4.cell? ⟨gP + 1, 18, none⟩ = some (.int .i64 iv.hp) := BQr.out.cell' rfl
      have z7 : w4.cell? ⟨g3, 7, none⟩ = some (.int .i64 iv.hl) := G3.out.cell' rfl
      have q19 : w4.cell? ⟨gP + 1, 19, none⟩ = some (.int .i64 iv.hl) := BQr.out.cell' rfl
      have z8 : w4.cell? ⟨g3, 8, none⟩ = some (.string iv.hk) := G3.out.cell' rfl
      have q20 : w4.cell? ⟨gP + 1, 20, none⟩ = some (.string iv.hk) := BQr.out.cell' rfl
      go_wp2_with fail
      refine (same8_ok iv B B2 d d2 w4 H2r.out.i1 H2r.out.i2 H2r.out.zi).mono ?_
      rintro e w5 ⟨rfl, hf5⟩
      replace FR := hid_ (FR.out.then_none hf5)
      clear hf5
      go_wp2_with fail
      go_ret
      exact ⟨rfl, F0.out.then_none FR.out⟩
end Go.Proofs.Ytpjbncbmdfmlpaa
namespace Go.Proofs.Ytpjbncbmdfmlpaa
open Go.RowKit
set_option maxRecDepth 100000
set_option linter.unusedVariables false

structure Sl where
  gen : Int
  used : Bool
  R : Rc
  vr : Value
  ve : Value
abbrev slL (s : Sl) : List Value := [.int .i64 s.gen, .bool s.used, .int .i64 s.R.kind, .string s.R.low, .string s.R.high, .bool s.R.unb, .int .i64 s.R.right, s.vr, s.ve, .string s.R.key, .string s.R.val, .int .i64 s.R.page, .int .i64 s.R.hpage, .int .i64 s.R.hleft, .string s.R.hkey, .int .i64 s.R.nslot, .int .i64 s.R.ngen]
def Sl.zero : Sl := ⟨0, false, Rc.zero, .slice none 0 0, .slice none 0 0⟩
def SlCells (cs : Array Value) (ss : List Sl) : Prop := cs.size = ss.length * 17 ∧ ∀ i s, ss[i]? = some s → ∀ j v, (slL s)[j]? = some v → cs[i * 17 + j]? = some v

theorem SlCells.set_ {cs : Array Value} {ss : List Sl} (h : SlCells cs ss) {i : Nat} (s : Sl) (hi : i < ss.length) : SlCells (setA cs (i * 17) (slL s)) (ss.set i s) := by
  refine ⟨by rw [setA_size, h.1]; simp, fun k t hk j v hj => ?_⟩
  have hjl : j < 17 := by have := (List.getElem?_eq_some_iff.1 hj).1; simpa using this
  rw [List.getElem?_set] at hk
  split at hk
  · subst_vars
    obtain rfl : s = t := by simpa using hk
    exact setA_in _ _ _ j v hj (by rw [h.1]; omega)
  · rename_i hne
    rw [setA_out _ _ _ _ (by simp; omega)]
    exact h.2 k t hk j v hj

structure Ar (w : World) (a G : Nat) (last : Int) (ss : List Sl) : Prop where
  hA : Blk w a 149 #[.slice (some ⟨G, 0, none⟩) ss.length ss.length, .int .i64 last]
  hG : ∃ cs, Blk w G 158 cs ∧ SlCells cs ss
  own : ∀ (i : Nat) (s : Sl), ss[i]? = some s → RecOwn w 0 s.R s.vr s.ve
  l40 : last ≤ 1099511627776
  len : ss.length ≤ 4096
  gen : ∀ s ∈ ss, 0 ≤ s.gen ∧ s.gen ≤ last
  sz : ∀ s ∈ ss, s.R.rows.length ≤ 1000 ∧ s.R.ents.length ≤ 1000
section
variable {w w' : World} {a G : Nat} {last : Int} {ss : List Sl}
theorem Ar.keep (h : Ar w a G last ss) (hf : Fr none_ w w') : Ar w' a G last ss := by
  obtain ⟨cs, hG, hc⟩ := h.hG
  exact ⟨h.hA.fr hf id, ⟨cs, hG.fr hf id, hc⟩, fun i s hs => (h.own i s hs).keep hf, h.l40, h.len, h.gen, h.sz⟩
theorem Ar.ltA (h : Ar w a G last ss) : a < w.heap.size := h.hA.lt
theorem Ar.ltG (h : Ar w a G last ss) : G < w.heap.size := by obtain ⟨cs, hG, hc⟩ := h.hG; exact hG.lt
theorem Ar.ne (h : Ar w a G last ss) : a ≠ G := by obtain ⟨cs, hG, hc⟩ := h.hG; exact Blk.ne_ h.hA hG (by decide)
/-- A cell of a slot. -/
theorem Ar.cell (h : Ar w a G last ss) {i : Nat} {s : Sl} (hs : ss[i]? = some s) (j : Nat) {v : Value} (hv : (slL s)[j]? = some v) : w.cell? ⟨G, i * 17 + j, none⟩ = some v := by
  obtain ⟨cs, hG, hc⟩ := h.hG
  exact hG.cell' (hc.2 i s hs j v hv)
theorem Ar.frozen (h : Ar w a G last ss) (o : Nat) : w.frozen? ⟨G, o, none⟩ = false := by
  obtain ⟨cs, hG, hc⟩ := h.hG
  exact hG.frozen o
/-- Where a block of another type was turned. -/
theorem Ar.beside (h : Ar w a G last ss) {g : Nat} {t : TypeId} {cs : Array Value} (hf : Fr (only g) w w') (hg : Blk w g t cs) (h1 : 62 ≠ t) (h2 : 64 ≠ t) (h3 : a ≠ g) (h4 : G ≠ g) : Ar w' a G last ss := by
  obtain ⟨cs, hG, hc⟩ := h.hG
  exact ⟨h.hA.fr hf (only_ne h3), ⟨cs, hG.fr hf (only_ne h4), hc⟩, fun i s hs => (h.own i s hs).only hf hg h1 h2, h.l40, h.len, h.gen, h.sz⟩
/-- A slot was written. -/
theorem Ar.put (h : Ar w a G last ss) {i : Nat} {s : Sl} (hi : i < ss.length) (hf : Fr (only G) w w') (hb : ∀ cs, Blk w G 158 cs → Blk w' G 158 (setA cs (i * 17) (slL s))) (ho : RecOwn w' 0 s.R s.vr s.ve) (hg : 0 ≤ s.gen ∧ s.gen ≤ last) (hz : s.R.rows.length ≤ 1000 ∧ s.R.ents.length ≤ 1000) : Ar w' a G last (ss.set i s) := by
  have hne := h.ne
  obtain ⟨cs, hG, hc⟩ := h.hG
  refine ⟨by rw [List.length_set]; exact h.hA.fr hf (only_ne hne), ⟨_, hb cs hG, hc.set_ s hi⟩, fun k t hk => ?_, h.l40, by rw [List.length_set]; exact h.len, fun t ht => ?_, fun t ht => ?_⟩
  · rw [List.getElem?_set] at hk
    split at hk
    · obtain rfl : s = t := by simpa using hk
      exact ho
    · exact (h.own k t hk).only hf hG (by decide) (by decide)
  · rcases List.mem_or_eq_of_mem_set ht with ht | rfl
    · exact h.gen t ht
    · exact hg
  · rcases List.mem_or_eq_of_mem_set ht with ht | rfl
    · exact h.sz t ht
    · exact hz
end

theorem slot_info : (Try.prog.info? 158).map (fun i => (i.zero, i.size, i.bytes)) = some (some (.agg (slL Sl.zero).toArray), 17, 208) := by kernel_rfl
theorem made_slots (n : Nat) : SlCells (madeCells (slL Sl.zero).toArray (n * 17)) (List.replicate n Sl.zero) := by
  refine ⟨by rw [size_madeCells, List.length_replicate], fun i s hs j v hv => ?_⟩
  have hjl : j < 17 := by have := (List.getElem?_eq_some_iff.1 hv).1; simpa using this
  rw [List.getElem?_replicate] at hs
  split at hs
  · rename_i hin
    obtain rfl : Sl.zero = s := by simpa using hs
    have hm : (i * 17 + j) % 17 = j := by omega
    have hz : (slL Sl.zero).toArray.size = 17 := rfl
    have hlt : i * 17 + j < n * 17 := by omega
    unfold madeCells
    rw [Array.getElem?_map, Array.getElem?_range, if_pos hlt]
    simp only [Option.map_some, hz, hm]
    rw [List.getElem?_eq_some_iff] at hv
    obtain ⟨h1, h2⟩ := hv
    rw [← h2]
    congr 1
    exact getElem!_pos _ _ _
  · cases hs
def NewAr (n : Nat) (last : Int) (w : World) (e : Ending) (w' : World) : Prop :=
  ∃ a G, e = .returned (.pointer (some ⟨a, 0, none⟩)) ∧ Ar w' a G last (List.replicate n Sl.zero) ∧ Fr none_ w w' ∧ w.heap.size ≤ a ∧ w.heap.size ≤ G
theorem arNew_ok (n : Nat) (last : Int) (w : World) (h1 : 1 ≤ n) (h2 : n ≤ 4096) (h3 : 1 ≤ last) (h4 : last ≤ 1099511627776) : Calls Try.prog 42 #[.int .i64 n, .int .i64 last] w (NewAr n last w) := by
  obtain ⟨i0, hi0, hz0, hs0, hb0⟩ := info_parts slot_info
  have hmk := fun W : World => run_make (P := Try.prog) W 147 158 i0 _ Try.underlying147 hi0 hz0 .i64 .i64 (n : Int) (n : Int) (by omega) (by omega) (by rw [hb0]; omega) (by omega)
  rw [hs0] at hmk
  simp only [Int.toNat_natCast] at hmk
  clear hi0 hz0 hs0 hb0
  go_enter Try.func42, Try.ntmps42
  go_wp2_with fail
  go_ret
  have hf : Fr none_ w ((w.alloc (.cells (madeCells (slL Sl.zero).toArray (n * 17)) 158)).alloc (.cells #[.slice (some ⟨w.heap.size, 0, none⟩) n n, .int .i64 last] 149)) := ((Fr.refl none_ w).alloc _).alloc _
  have hm : ∀ s ∈ List.replicate n Sl.zero, s = Sl.zero := fun s hs => List.eq_of_mem_replicate hs
  refine ⟨w.heap.size + 1, w.heap.size, rfl, ⟨?_, ⟨madeCells (slL Sl.zero).toArray (n * 17), ?_, made_slots n⟩, fun i s hs => ?_, h4, ?_, fun s hs => ?_, fun s hs => ?_⟩, hf, by omega, by omega⟩
  · have h0 := Blk.new (w.alloc (.cells (madeCells (slL Sl.zero).toArray (n * 17)) 158)) 149 #[.slice (some ⟨w.heap.size, 0, none⟩) n n, .int .i64 last]
    rw [World.size_alloc] at h0
    rw [List.length_replicate]
    exact h0
  · exact (Blk.new w 158 _).alloc _
  · rw [hm s (List.mem_of_getElem? hs)]
    exact RecOwn.zero _ 0
  · rw [List.length_replicate]; omega
  · rw [hm s hs]; exact ⟨by decide, by show (0 : Int) ≤ last; omega⟩
  · rw [hm s hs]; exact ⟨by decide, by decide⟩
end Go.Proofs.Ytpjbncbmdfmlpaa
namespace Go.Proofs.Ytpjbncbmdfmlpaa
open Go.RowKit
set_option maxRecDepth 100000
set_option linter.unusedVariables false

theorem Ar.there {w : World} {a G : Nat} {last : Int} {ss : List Sl} (h : Ar w a G last ss) {i : Nat} (hi : i < ss.length) {o n : Nat} (ho : i * 17 ≤ o) (hn : o + n ≤ i * 17 + 17) : w.there G o n := by
  obtain ⟨cs, hG, hc⟩ := h.hG
  intro j hj
  refine ⟨?_, hG.frozen _⟩
  rw [hG.cell, Array.getElem?_eq_getElem (by rw [hc.1]; omega)]
  rfl
theorem slot_size : (Try.prog.info? 158).map (·.size) = some 17 := by kernel_rfl
theorem rec_size : (Try.prog.info? 58).map (·.size) = some 15 := by kernel_rfl
theorem box2 {w1 : World} {b : Nat} {t : TypeId} {c0 c1 : Value} (h : Blk w1 b t #[c0, c1]) (x0 x1 : Value) : Blk ((w1.setCell ⟨b, 0, none⟩ x0).setCell ⟨b, 1, none⟩ x1) b t #[x0, x1] ∧ Fr (only b) w1 ((w1.setCell ⟨b, 0, none⟩ x0).setCell ⟨b, 1, none⟩ x1) :=
  ⟨(h.set_ 0 x0).set_ 1 x1, ((Fr.refl (only b) w1).setCell (p := ⟨b, 0, none⟩) (.inl (Eq.refl _)) x0).setCell (p := ⟨b, 1, none⟩) (.inl (Eq.refl _)) x1⟩

def allocErr (ss : List Sl) : Int := if ss.all (·.used) then 3 else 5
theorem allocErr_used {ss : List Sl} {k : Nat} {s : Sl} (hs : ss[k]? = some s) (hu : s.used = true) : allocErr (ss.take (k + 1)) = allocErr (ss.take k) := by
  unfold allocErr
  rw [List.take_add_one, hs]
  simp [hu]
theorem allocErr_worn {ss : List Sl} {k : Nat} {s : Sl} (hs : ss[k]? = some s) (hu : s.used = false) : allocErr (ss.take (k + 1)) = 5 := by
  unfold allocErr
  rw [List.take_add_one, hs]
  simp [hu]
def AllocPost (w : World) (a G : Nat) (last : Int) (ss : List Sl) (R : Rc) (e : Ending) (w' : World) : Prop :=
  (∃ (i : Nat) (s : Sl) (vr ve : Value), ss[i]? = some s ∧ (s.used = false ∧ s.gen ≠ last) ∧ (∀ j t, j < i → ss[j]? = some t → t.used = true ∨ t.gen = last) ∧ e = .returned (.tuple #[.agg #[.int .i64 ((i : Int) + 1), .int .i64 (s.gen + 1)], .nilIface]) ∧ Ar w' a G last (ss.set i ⟨s.gen + 1, true, R, vr, ve⟩) ∧ RecOwn w' w.heap.size R vr ve ∧ Fr (only G) w w') ∨
  ((∀ (j : Nat) t, ss[j]? = some t → t.used = true ∨ t.gen = last) ∧ e = .returned (.tuple #[.agg #[.int .i64 0, .int .i64 0], errV (allocErr ss)]) ∧ Fr none_ w w')

set_option maxHeartbeats 4000000 in
theorem alloc_ok (R : Rc) (A : Option Addr) (c : Nat) (B : Option Addr) (d : Nat) (w : World) (a G : Nat) (last : Int) (ss : List Sl) (h : Ar w a G last ss) (hr : RecReads w R A B) (hz : R.rows.length ≤ 1000 ∧ R.ents.length ≤ 1000) :
    Calls Try.prog 45 #[.pointer (some ⟨a, 0, none⟩), recV R (.slice A R.rows.length c) (.slice B R.ents.length d)] w (AllocPost w a G last ss R) := by
  have hlen := h.len
  have hl40 := h.l40
  obtain ⟨w0, hw0⟩ : ∃ w0, w0 = (w.alloc (recB R (.slice A R.rows.length c) (.slice B R.ents.length d))).alloc (.cells #[.int .i64 0, .int .i64 0] 33) := ⟨_, rfl⟩
  have f0 : Fr none_ w w0 := by rw [hw0]; exact ((Fr.refl none_ w).alloc _).alloc _
  have F0 := hid_ f0
  have X0 := hid_ (h.keep f0)
  have R0 := hid_ (hr.keep f0)
  have P0 : Hid (Blk w0 w.heap.size 58 (recA R (.slice A R.rows.length c) (.slice B R.ents.length d))) := hid_ (by rw [hw0]; exact (Blk.new w _ _).alloc _)
  have Q0 : Hid (Blk w0 (w.heap.size + 1) 33 #[.int .i64 0, .int .i64 0]) := hid_ (by have := Blk.new (w.alloc (recB R (.slice A R.rows.length c) (.slice B R.ents.length d))) 33 #[.int .i64 0, .int .i64 0]; rw [World.size_alloc] at this; rw [hw0]; exact this)
  have hltA := h.ltA
  have hltG := h.ltG
  have lA : a < w.heap.size + 1 := by omega
  have lA2 : a < w.heap.size + 1 + 1 := by omega
  have c0 : w.cell? ⟨a, 0, none⟩ = some (.slice (some ⟨G, 0, none⟩) ss.length ss.length) := h.hA.cell' rfl
  clear f0 h hr
  go_enter Try.func45, Try.ntmps45
  go_wp2_with fail
  change Code.wp _ _ _ _ ((w.alloc (recB R (.slice A R.rows.length c) (.slice B R.ents.length d))).alloc (.cells #[.int .i64 0, .int .i64 0] 33))
  rw [← hw0]
  clear hw0 c0
  go_loopw [19, 6] (fun i e wr => ∃ (k : Nat) (ek : Int), k ≤ ss.length ∧ i = .int .i64 k ∧ e = errV ek ∧ ek = allocErr (ss.take k) ∧ (∀ j t, j < k → ss[j]? = some t → t.used = true ∨ t.gen = last) ∧ Fr none_ w0 wr) (fun i _ _ => ss.length - (intOf i).toNat)
  case atStart => exact ⟨0, 3, Nat.zero_le _, rfl, rfl, by simp [allocErr], fun j t hj => by omega, Fr.refl _ _⟩
  case round =>
    obtain ⟨k, ek, hk, rfl, rfl, hek, hno, hF⟩ := hrel
    have Hek := hid_ hek
    have Hno := hid_ hno
    have F := hid_ (F0.out.then_none hF)
    have FL := hid_ hF
    have X := hid_ (X0.out.keep hF)
    have R1 := hid_ (R0.out.keep hF)
    have P := hid_ (P0.out.fr hF id)
    have Q := hid_ (Q0.out.fr hF id)
    clear hek hno hF
    by_cases hlt : k < ss.length
    · obtain ⟨s, hs⟩ : ∃ s, ss[k]? = some s := ⟨_, List.getElem?_eq_getElem hlt⟩
      have hi0 : (0 : Int) ≤ (k : Int) := Int.natCast_nonneg _
      have hi1 : (k : Int) < (ss.length : Int) := by omega
      have a0 : wr.cell? ⟨a, 0, none⟩ = some (.slice (some ⟨G, 0, none⟩) ss.length ss.length) := X.out.hA.cell' rfl
      have a1 : wr.cell? ⟨a, 1, none⟩ = some (.int .i64 last) := X.out.hA.cell' rfl
      have g0 : wr.cell? ⟨G, k * 17, none⟩ = some (.int .i64 s.gen) := X.out.cell hs 0 rfl
      have Hs := hid_ hs
      have hgl := X.out.gen s (List.mem_of_getElem? hs)
      clear hs
      by_cases hu : s.used = true
      · have g1 : wr.cell? ⟨G, k * 17 + 1, none⟩ = some (.bool true) := by rw [← hu]; exact X.out.cell Hs.out 1 rfl
        go_wp2_with fail
        go_roundw
        case rel => exact ⟨k + 1, ek, by omega, by go_num, rfl, by rw [allocErr_used Hs.out hu]; exact Hek.out, fun j t hj ht => by
          rcases Nat.lt_succ_iff_lt_or_eq.1 hj with hj | rfl
          · exact Hno.out j t hj ht
          · obtain rfl := Option.some.inj (Hs.out.symm.trans ht)
            exact .inl hu, FL.out⟩
        case measure => simp [intOf]; omega
      have hu : s.used = false := by simpa using hu
      have g1 : wr.cell? ⟨G, k * 17 + 1, none⟩ = some (.bool false) := by rw [← hu]; exact X.out.cell Hs.out 1 rfl
      by_cases hw : s.gen = last
      · have hwb : (s.gen == last) = true := by simpa using hw
        have Hw := hid_ hw
        clear hw
        go_wp2_with fail
        go_quiet (fail)
        have FQ := hid_ (FL.out.drewN nq)
        clear g0 g1 a0 a1
        go_wp2
        go_roundw
        case rel => exact ⟨k + 1, 5, by omega, by go_num, rfl, by rw [allocErr_worn Hs.out hu], fun j t hj ht => by
          rcases Nat.lt_succ_iff_lt_or_eq.1 hj with hj | rfl
          · exact Hno.out j t hj ht
          · obtain rfl := Option.some.inj (Hs.out.symm.trans ht)
            exact .inr Hw.out, FQ.out⟩
        case measure => simp [intOf]; omega
      · have hwb : (s.gen == last) = false := by simpa using hw
        have Hw := hid_ hw
        have hgt : s.gen < last := by omega
        clear hw
        go_wp2_with fail
        go_quiet (fail)
        obtain ⟨wq, hwq⟩ : ∃ wq, wq = wr.drewN nq := ⟨_, rfl⟩
        rw [← hwq]
        have hfq : Fr none_ wr wq := by rw [hwq]; exact (Fr.refl none_ wr).drewN nq
        have XQ := hid_ (X.out.keep hfq)
        have RQ := hid_ (R1.out.keep hfq)
        have PQ := hid_ (P.out.fr hfq id)
        have QQ := hid_ (Q.out.fr hfq id)
        have FQ := hid_ (F.out.then_none hfq)
        clear g0 g1 a0 a1 hwq hfq
        have hw : IntKind.i64.wrap (s.gen + 1) = s.gen + 1 := IntWalk.i64_in _ (by omega)
        go_wp2_with fail
        have hS0 : (fun w' : World => w'.cell? ⟨G, k * 17, none⟩ = some (.int .i64 s.gen) ∧ w'.cell? ⟨w.heap.size, 0, none⟩ = some (.int .i64 R.kind) ∧ w'.cell? ⟨w.heap.size, 1, none⟩ = some (.string R.low) ∧ w'.cell? ⟨w.heap.size, 2, none⟩ = some (.string R.high) ∧ w'.cell? ⟨w.heap.size, 3, none⟩ = some (.bool R.unb) ∧ w'.cell? ⟨w.heap.size, 4, none⟩ = some (.int .i64 R.right) ∧ w'.cell? ⟨w.heap.size, 5, none⟩ = some (.slice A R.rows.length c) ∧ w'.cell? ⟨w.heap.size, 6, none⟩ = some (.slice B R.ents.length d) ∧ w'.cell? ⟨w.heap.size, 7, none⟩ = some (.string R.key) ∧ w'.cell? ⟨w.heap.size, 8, none⟩ = some (.string R.val) ∧ w'.cell? ⟨w.heap.size, 9, none⟩ = some (.int .i64 R.page) ∧ w'.cell? ⟨w.heap.size, 10, none⟩ = some (.int .i64 R.hpage) ∧ w'.cell? ⟨w.heap.size, 11, none⟩ = some (.int .i64 R.hleft) ∧ w'.cell? ⟨w.heap.size, 12, none⟩ = some (.string R.hkey) ∧ w'.cell? ⟨w.heap.size, 13, none⟩ = some (.int .i64 R.nslot) ∧ w'.cell? ⟨w.heap.size, 14, none⟩ = some (.int .i64 R.ngen)) wq.drew := ⟨XQ.out.cell Hs.out 0 rfl, PQ.out.cell' rfl, PQ.out.cell' rfl, PQ.out.cell' rfl, PQ.out.cell' rfl, PQ.out.cell' rfl, PQ.out.cell' rfl, PQ.out.cell' rfl, PQ.out.cell' rfl, PQ.out.cell' rfl, PQ.out.cell' rfl, PQ.out.cell' rfl, PQ.out.cell' rfl, PQ.out.cell' rfl, PQ.out.cell' rfl, PQ.out.cell' rfl⟩
        refine wp_region_T (m := 10) (S := fun w' : World => w'.cell? ⟨G, k * 17, none⟩ = some (.int .i64 s.gen) ∧ w'.cell? ⟨w.heap.size, 0, none⟩ = some (.int .i64 R.kind) ∧ w'.cell? ⟨w.heap.size, 1, none⟩ = some (.string R.low) ∧ w'.cell? ⟨w.heap.size, 2, none⟩ = some (.string R.high) ∧ w'.cell? ⟨w.heap.size, 3, none⟩ = some (.bool R.unb) ∧ w'.cell? ⟨w.heap.size, 4, none⟩ = some (.int .i64 R.right) ∧ w'.cell? ⟨w.heap.size, 5, none⟩ = some (.slice A R.rows.length c) ∧ w'.cell? ⟨w.heap.size, 6, none⟩ = some (.slice B R.ents.length d) ∧ w'.cell? ⟨w.heap.size, 7, none⟩ = some (.string R.key) ∧ w'.cell? ⟨w.heap.size, 8, none⟩ = some (.string R.val) ∧ w'.cell? ⟨w.heap.size, 9, none⟩ = some (.int .i64 R.page) ∧ w'.cell? ⟨w.heap.size, 10, none⟩ = some (.int .i64 R.hpage) ∧ w'.cell? ⟨w.heap.size, 11, none⟩ = some (.int .i64 R.hleft) ∧ w'.cell? ⟨w.heap.size, 12, none⟩ = some (.string R.hkey) ∧ w'.cell? ⟨w.heap.size, 13, none⟩ = some (.int .i64 R.nslot) ∧ w'.cell? ⟨w.heap.size, 14, none⟩ = some (.int .i64 R.ngen)) (by kernel_rfl) ?_
        refine wpAnyT_take (i := 0) (v := _) rfl (by kernel_rfl) (by kernel_rfl) (by kernel_rfl) (by kernel_rfl) (fun _ _ _ h => h) (.inl ⟨by simp [Region.wanted], fun w' hS => by obtain ⟨s0, s1, s2, s3, s4, s5, s6, s7, s8, s9, s10, s11, s12, s13, s14, s15⟩ := hS; go_simp; rfl⟩) hS0 ?_
        refine wpAnyT_take (i := 1) (v := _) rfl (by kernel_rfl) (by kernel_rfl) (by kernel_rfl) (by kernel_rfl) (fun _ _ _ h => h) (.inl ⟨by simp [Region.wanted], fun w' hS => by obtain ⟨s0, s1, s2, s3, s4, s5, s6, s7, s8, s9, s10, s11, s12, s13, s14, s15⟩ := hS; go_simp; rfl⟩) hS0 ?_
        refine wpAnyT_take (i := 2) (v := _) rfl (by kernel_rfl) (by kernel_rfl) (by kernel_rfl) (by kernel_rfl) (fun _ _ _ h => h) (.inl ⟨by simp [Region.wanted], fun w' hS => by obtain ⟨s0, s1, s2, s3, s4, s5, s6, s7, s8, s9, s10, s11, s12, s13, s14, s15⟩ := hS; go_simp; rfl⟩) hS0 ?_
        refine wpAnyT_take (i := 3) (v := _) rfl (by kernel_rfl) (by kernel_rfl) (by kernel_rfl) (by kernel_rfl) (fun _ _ _ h => h) (.inl ⟨by simp [Region.wanted], fun w' hS => by obtain ⟨s0, s1, s2, s3, s4, s5, s6, s7, s8, s9, s10, s11, s12, s13, s14, s15⟩ := hS; go_simp; rfl⟩) hS0 ?_
        refine wpAnyT_take (i := 4) (v := _) rfl (by kernel_rfl) (by kernel_rfl) (by kernel_rfl) (by kernel_rfl) (fun _ _ _ h => h) (.inl ⟨by simp [Region.wanted], fun w' hS => by obtain ⟨s0, s1, s2, s3, s4, s5, s6, s7, s8, s9, s10, s11, s12, s13, s14, s15⟩ := hS; go_simp; rfl⟩) hS0 ?_
        refine wpAnyT_take (i := 5) (v := _) rfl (by kernel_rfl) (by kernel_rfl) (by kernel_rfl) (by kernel_rfl) (fun _ _ _ h => h) (.inl ⟨by simp [Region.wanted], fun w' hS => by obtain ⟨s0, s1, s2, s3, s4, s5, s6, s7, s8, s9, s10, s11, s12, s13, s14, s15⟩ := hS; go_simp; rfl⟩) hS0 ?_
        refine wpAnyT_take (i := 6) (v := _) rfl (by kernel_rfl) (by kernel_rfl) (by kernel_rfl) (by kernel_rfl) (fun _ _ _ h => h) (.inl ⟨by simp [Region.wanted], fun w' hS => by obtain ⟨s0, s1, s2, s3, s4, s5, s6, s7, s8, s9, s10, s11, s12, s13, s14, s15⟩ := hS; go_simp; rfl⟩) hS0 ?_
        have s0 : wq.drew.cell? ⟨G, k * 17, none⟩ = some (.int .i64 s.gen) := XQ.out.cell Hs.out 0 rfl
        have s1 : wq.drew.cell? ⟨w.heap.size, 0, none⟩ = some (.int .i64 R.kind) := PQ.out.cell' rfl
        have s2 : wq.drew.cell? ⟨w.heap.size, 1, none⟩ = some (.string R.low) := PQ.out.cell' rfl
        have s3 : wq.drew.cell? ⟨w.heap.size, 2, none⟩ = some (.string R.high) := PQ.out.cell' rfl
        have s4 : wq.drew.cell? ⟨w.heap.size, 3, none⟩ = some (.bool R.unb) := PQ.out.cell' rfl
        have s5 : wq.drew.cell? ⟨w.heap.size, 4, none⟩ = some (.int .i64 R.right) := PQ.out.cell' rfl
        have s6 : wq.drew.cell? ⟨w.heap.size, 5, none⟩ = some (.slice A R.rows.length c) := PQ.out.cell' rfl
        have s7 : wq.drew.cell? ⟨w.heap.size, 6, none⟩ = some (.slice B R.ents.length d) := PQ.out.cell' rfl
        have s8 : wq.drew.cell? ⟨w.heap.size, 7, none⟩ = some (.string R.key) := PQ.out.cell' rfl
        have s9 : wq.drew.cell? ⟨w.heap.size, 8, none⟩ = some (.string R.val) := PQ.out.cell' rfl
        have s10 : wq.drew.cell? ⟨w.heap.size, 9, none⟩ = some (.int .i64 R.page) := PQ.out.cell' rfl
        have s11 : wq.drew.cell? ⟨w.heap.size, 10, none⟩ = some (.int .i64 R.hpage) := PQ.out.cell' rfl
        have s12 : wq.drew.cell? ⟨w.heap.size, 11, none⟩ = some (.int .i64 R.hleft) := PQ.out.cell' rfl
        have s13 : wq.drew.cell? ⟨w.heap.size, 12, none⟩ = some (.string R.hkey) := PQ.out.cell' rfl
        have s14 : wq.drew.cell? ⟨w.heap.size, 13, none⟩ = some (.int .i64 R.nslot) := PQ.out.cell' rfl
        have s15 : wq.drew.cell? ⟨w.heap.size, 14, none⟩ = some (.int .i64 R.ngen) := PQ.out.cell' rfl
        clear hS0
        refine wpAnyT_one (i := 7) rfl rfl (by kernel_rfl) ?_
        go_simp
        go_at_call 23
        refine (clone_ok R A c B d _ (RQ.out.keep ((Fr.refl none_ wq).drew)) hz.1 hz.2).mono ?_
        rintro e w5 ⟨A5, c5, B5, d5, rfl, hown, hf5⟩
        have hf5 : Fr none_ wq w5 := ((Fr.refl none_ wq).drew).then_none hf5
        have O5 := hid_ hown
        have X5 := hid_ (XQ.out.keep hf5)
        have P5 := hid_ (PQ.out.fr hf5 id)
        have Q5 := hid_ (QQ.out.fr hf5 id)
        have F5 := hid_ (FQ.out.then_none hf5)
        clear hown hf5 s0 s1 s2 s3 s4 s5 s6 s7 s8 s9 s10 s11 s12 s13 s14 s15
        have s0 : w5.cell? ⟨G, k * 17, none⟩ = some (.int .i64 s.gen) := X5.out.cell Hs.out 0 rfl
        have s1 : w5.cell? ⟨w.heap.size, 0, none⟩ = some (.int .i64 R.kind) := P5.out.cell' rfl
        have s2 : w5.cell? ⟨w.heap.size, 1, none⟩ = some (.string R.low) := P5.out.cell' rfl
        have s3 : w5.cell? ⟨w.heap.size, 2, none⟩ = some (.string R.high) := P5.out.cell' rfl
        have s4 : w5.cell? ⟨w.heap.size, 3, none⟩ = some (.bool R.unb) := P5.out.cell' rfl
        have s5 : w5.cell? ⟨w.heap.size, 4, none⟩ = some (.int .i64 R.right) := P5.out.cell' rfl
        have s6 : w5.cell? ⟨w.heap.size, 5, none⟩ = some (.slice A R.rows.length c) := P5.out.cell' rfl
        have s7 : w5.cell? ⟨w.heap.size, 6, none⟩ = some (.slice B R.ents.length d) := P5.out.cell' rfl
        have s8 : w5.cell? ⟨w.heap.size, 7, none⟩ = some (.string R.key) := P5.out.cell' rfl
        have s9 : w5.cell? ⟨w.heap.size, 8, none⟩ = some (.string R.val) := P5.out.cell' rfl
        have s10 : w5.cell? ⟨w.heap.size, 9, none⟩ = some (.int .i64 R.page) := P5.out.cell' rfl
        have s11 : w5.cell? ⟨w.heap.size, 10, none⟩ = some (.int .i64 R.hpage) := P5.out.cell' rfl
        have s12 : w5.cell? ⟨w.heap.size, 11, none⟩ = some (.int .i64 R.hleft) := P5.out.cell' rfl
        have s13 : w5.cell? ⟨w.heap.size, 12, none⟩ = some (.string R.hkey) := P5.out.cell' rfl
        have s14 : w5.cell? ⟨w.heap.size, 13, none⟩ = some (.int .i64 R.nslot) := P5.out.cell' rfl
        have s15 : w5.cell? ⟨w.heap.size, 14, none⟩ = some (.int .i64 R.ngen) := P5.out.cell' rfl
        refine ⟨⟨s0, s1, s2, s3, s4, s5, s6, s7, s8, s9, s10, s11, s12, s13, s14, s15⟩, ?_⟩
        refine wpAnyT_one (i := 8) rfl rfl (by kernel_rfl) ?_
        go_simp
        refine wpAnyT_one (i := 9) rfl rfl (by kernel_rfl) ?_
        go_simp
        clear s0 s1 s2 s3 s4 s5 s6 s7 s8 s9 s10 s11 s12 s13 s14 s15
        refine wpAnyT_one (i := 10) rfl rfl (by kernel_rfl) ?_
        refine wp_store_mid 158 (.tmp 51) (.tmp 50) rfl G (k * 17) (slL ⟨s.gen + 1, true, R, .slice A5 R.rows.length c5, .slice B5 R.ents.length d5⟩).toArray rfl rfl (X5.out.there hlt (Nat.le_refl _) (Nat.le_refl _)) slot_size (by simp [slL, Value.oneCell']) ?_
        refine ⟨.inl rfl, ?_⟩
        refine wpAnyT_done (by kernel_rfl) ?_ _
        obtain ⟨w9, hw9⟩ : ∃ w9, w9 = w5.setCells G (k * 17) (slL ⟨s.gen + 1, true, R, .slice A5 R.rows.length c5, .slice B5 R.ents.length d5⟩) := ⟨_, rfl⟩
        change Exit.then _ _ _ _ (w5.setCells G (k * 17) (slL ⟨s.gen + 1, true, R, .slice A5 R.rows.length c5, .slice B5 R.ents.length d5⟩))
        rw [← hw9]
        have h9 : Fr (only G) w5 w9 := by rw [hw9]; exact Fr.setCells _ _ _ (Fr.refl _ _) (.inl (Eq.refl _))
        have hG5 : ∃ cs, Blk w5 G 158 cs := by obtain ⟨cs, hG, hc⟩ := X5.out.hG; exact ⟨cs, hG⟩
        obtain ⟨cs5, hG5⟩ := hG5
        have o9 : RecOwn w9 wq.heap.size R (.slice A5 R.rows.length c5) (.slice B5 R.ents.length d5) := O5.out.only h9 hG5 (by decide) (by decide)
        have X9 := hid_ (X5.out.put (s := ⟨s.gen + 1, true, R, .slice A5 R.rows.length c5, .slice B5 R.ents.length d5⟩) hlt h9 (fun cs hb => by rw [hw9]; exact Blk.setCells _ _ _ _ hb) (o9.base (Nat.zero_le _)) ⟨by show 0 ≤ s.gen + 1; omega, by show s.gen + 1 ≤ last; omega⟩ hz)
        have O9 := hid_ (o9.base FQ.out.size)
        have Q9 := hid_ (Q5.out.fr h9 (only_ne (Ne.symm (Blk.ne_ hG5 Q5.out (by decide)))))
        have F9 : Hid (Fr (only G) w w9) := hid_ ((F5.out.mono (fun _ _ e => e.elim)).then_only h9 (.inl (Eq.refl _)))
        clear hw9 h9 hG5 o9
        have g9 : w9.cell? ⟨G, k * 17, none⟩ = some (.int .i64 (s.gen + 1)) := X9.out.cell (List.getElem?_set_self hlt) 0 rfl
        have y0 : w9.cell? ⟨w.heap.size + 1, 0, none⟩ = some (.int .i64 0) := Q9.out.cell' rfl
        have y1 : w9.cell? ⟨w.heap.size + 1, 1, none⟩ = some (.int .i64 0) := Q9.out.cell' rfl
        have f0 := Q9.out.frozen 0
        have f1 := Q9.out.frozen 1
        have hwk : IntKind.i64.wrap ((k : Int) + 1) = (k : Int) + 1 := IntWalk.i64_in _ (by omega)
        go_wp2_with fail
        clear g9 y0 y1 f0 f1
        obtain ⟨qb, qf⟩ := box2 Q9.out (.int .i64 ((k : Int) + 1)) (.int .i64 (s.gen + 1))
        have x0 := qb.cell' (i := 0) rfl
        have x1 := qb.cell' (i := 1) rfl
        have hnG : G ≠ w.heap.size + 1 := by omega
        have hnA : a ≠ w.heap.size + 1 := by omega
        refine bodyPost_ret (v := .tuple #[.agg #[.int .i64 ((k : Int) + 1), .int .i64 (s.gen + 1)], .nilIface]) ?_ rfl (.inl ⟨k, s, _, _, Hs.out, ⟨hu, Hw.out⟩, Hno.out, rfl, X9.out.beside qf Q9.out (by decide) (by decide) hnA hnG, O9.out.only qf Q9.out (by decide) (by decide), F9.out.then_only qf (.inr (by omega))⟩)
        simp [results, Try.results45, go_sem, x0, x1]
    · obtain rfl : k = ss.length := by omega
      have y0 : wr.cell? ⟨w.heap.size + 1, 0, none⟩ = some (.int .i64 0) := Q.out.cell' rfl
      have y1 : wr.cell? ⟨w.heap.size + 1, 1, none⟩ = some (.int .i64 0) := Q.out.cell' rfl
      have f0 := Q.out.frozen 0
      have f1 := Q.out.frozen 1
      go_wp2_with fail
      clear y0 y1 f0 f1
      obtain ⟨qb, qf⟩ := box2 Q.out (.int .i64 0) (.int .i64 0)
      have x0 := qb.cell' (i := 0) rfl
      have x1 := qb.cell' (i := 1) rfl
      have hek := Hek.out
      rw [List.take_length] at hek
      refine bodyPost_ret (v := .tuple #[.agg #[.int .i64 0, .int .i64 0], errV ek]) ?_ rfl (.inr ⟨fun j t ht => Hno.out j t (List.getElem?_eq_some_iff.1 ht).1 ht, by rw [hek], F.out.then_only qf (.inr (by omega))⟩)
      simp [results, Try.results45, go_sem, x0, x1]
end Go.Proofs.Ytpjbncbmdfmlpaa
namespace Go.Proofs.Ytpjbncbmdfmlpaa
open Go.RowKit
set_option maxRecDepth 100000
set_option linter.unusedVariables false

/-- What at says of a ref: 0, it is live; 1, it is no slot's; 4, it is stale. -/
def atC (ss : List Sl) (sl gn : Int) : Int :=
  if sl < 1 ∨ (ss.length : Int) < sl then 1 else
  match ss[(sl - 1).toNat]? with
  | some s => if s.used = true ∧ s.gen = gn then 0 else 4
  | none => 1
theorem atC_cases (ss : List Sl) (sl gn : Int) : (atC ss sl gn = 1 ∧ (sl < 1 ∨ (ss.length : Int) < sl)) ∨ ∃ (i : Nat) (s : Sl), sl = (i : Int) + 1 ∧ ss[i]? = some s ∧ ((atC ss sl gn = 4 ∧ ¬ (s.used = true ∧ s.gen = gn)) ∨ (atC ss sl gn = 0 ∧ s.used = true ∧ s.gen = gn)) := by
  unfold atC
  by_cases h : sl < 1 ∨ (ss.length : Int) < sl
  · exact .inl ⟨if_pos h, h⟩
  · rw [if_neg h]
    have hl : (sl - 1).toNat < ss.length := by omega
    refine .inr ⟨(sl - 1).toNat, ss[(sl - 1).toNat], by omega, List.getElem?_eq_getElem hl, ?_⟩
    rw [List.getElem?_eq_getElem hl]
    by_cases h2 : ss[(sl - 1).toNat].used = true ∧ ss[(sl - 1).toNat].gen = gn
    · exact .inr ⟨if_pos h2, h2⟩
    · exact .inl ⟨if_neg h2, h2⟩

section
variable (w : World) (a G : Nat) (last : Int) (ss : List Sl) (sl gn : Int)
variable {w a G last ss}
theorem at_arg1 (h : Ar w a G last ss) (h1 : sl < 1) : Calls Try.prog 104 #[.pointer (some ⟨a, 0, none⟩), .agg #[.int .i64 sl, .int .i64 gn]] w fun e w' => e = .returned (.tuple #[.pointer none, errV 1]) ∧ Fr none_ w w' := by
  have F0 := hid_ ((Fr.refl none_ w).alloc (.cells #[.int .i64 sl, .int .i64 gn] 33))
  have h1 : decide (sl < 1) = true := by simpa using h1
  clear h
  go_enter Try.func104, Try.ntmps104
  go_wp2_with fail
  go_quiet (fail)
  have FQ := hid_ (F0.out.drewN nq)
  go_wp2
  go_ret2
  exact ⟨rfl, FQ.out⟩
theorem at_arg2 (h : Ar w a G last ss) (h1 : ¬ sl < 1) (h2 : (ss.length : Int) < sl) : Calls Try.prog 104 #[.pointer (some ⟨a, 0, none⟩), .agg #[.int .i64 sl, .int .i64 gn]] w fun e w' => e = .returned (.tuple #[.pointer none, errV 1]) ∧ Fr none_ w w' := by
  have F0 := hid_ ((Fr.refl none_ w).alloc (.cells #[.int .i64 sl, .int .i64 gn] 33))
  have h1 : decide (sl < 1) = false := by simpa using h1
  have h2 : decide ((ss.length : Int) < sl) = true := by simpa using h2
  have lA := h.ltA
  have lA1 : a < w.heap.size + 1 := by omega
  have c0 : w.cell? ⟨a, 0, none⟩ = some (.slice (some ⟨G, 0, none⟩) ss.length ss.length) := h.hA.cell' rfl
  clear h
  go_enter Try.func104, Try.ntmps104
  go_wp2_with fail
  go_quiet (fail)
  have FQ := hid_ (F0.out.drewN nq)
  go_wp2
  go_ret2
  exact ⟨rfl, FQ.out⟩
theorem at_stale {i : Nat} {s : Sl} (h : Ar w a G last ss) (hs : ss[i]? = some s) (hi : sl = (i : Int) + 1) (hb : ¬ (s.used = true ∧ s.gen = gn)) : Calls Try.prog 104 #[.pointer (some ⟨a, 0, none⟩), .agg #[.int .i64 sl, .int .i64 gn]] w fun e w' => e = .returned (.tuple #[.pointer none, errV 4]) ∧ Fr none_ w w' := by
  have hlen := h.len
  have hlt := (List.getElem?_eq_some_iff.1 hs).1
  obtain ⟨w0, hw0⟩ : ∃ w0, w0 = w.alloc (.cells #[.int .i64 sl, .int .i64 gn] 33) := ⟨_, rfl⟩
  have f0 : Fr none_ w w0 := by rw [hw0]; exact (Fr.refl none_ w).alloc _
  have F0 := hid_ f0
  have X0 := h.keep f0
  have p0 : Blk w0 w.heap.size 33 #[.int .i64 sl, .int .i64 gn] := by rw [hw0]; exact Blk.new w _ _
  have x0 : w0.cell? ⟨w.heap.size, 0, none⟩ = some (.int .i64 sl) := p0.cell' rfl
  have x1 : w0.cell? ⟨w.heap.size, 1, none⟩ = some (.int .i64 gn) := p0.cell' rfl
  have h1 : decide (sl < 1) = false := by simp; omega
  have h2 : decide ((ss.length : Int) < sl) = false := by simp; omega
  have hw : IntKind.i64.wrap (sl - 1) = (i : Int) := by rw [show sl - 1 = (i : Int) by omega]; exact IntWalk.i64_in _ (by omega)
  have hi0 : (0 : Int) ≤ (i : Int) := Int.natCast_nonneg _
  have hi1 : (i : Int) < (ss.length : Int) := by omega
  have c0 : w0.cell? ⟨a, 0, none⟩ = some (.slice (some ⟨G, 0, none⟩) ss.length ss.length) := X0.hA.cell' rfl
  have g0 : w0.cell? ⟨G, i * 17, none⟩ = some (.int .i64 s.gen) := X0.cell hs 0 rfl
  have lA := h.ltA
  have lA1 : a < w.heap.size + 1 := by omega
  cases hu : s.used with
  | false =>
    have g1 : w0.cell? ⟨G, i * 17 + 1, none⟩ = some (.bool false) := by rw [← hu]; exact X0.cell hs 1 rfl
    clear h hi f0 hb X0 p0 hs hlt
    go_enter Try.func104, Try.ntmps104
    go_wp2_with fail
    change Code.wp _ _ _ _ (w.alloc (.cells #[.int .i64 sl, .int .i64 gn] 33))
    rw [← hw0]
    clear hw0
    go_quiet (fail)
    go_wp2_with fail
    go_quiet (fail)
    go_wp2_with fail
    go_quiet (fail)
    go_wp2
    go_ret2
    exact ⟨rfl, by repeat (first | exact F0.out | apply Fr.drewN | apply Fr.drew)⟩
  | true =>
    have g1 : w0.cell? ⟨G, i * 17 + 1, none⟩ = some (.bool true) := by rw [← hu]; exact X0.cell hs 1 rfl
    have hg : (s.gen == gn) = false := by
      have : s.gen ≠ gn := fun e => hb ⟨hu, e⟩
      simpa using this
    clear h hi f0 hb X0 p0 hs hlt
    go_enter Try.func104, Try.ntmps104
    go_wp2_with fail
    change Code.wp _ _ _ _ (w.alloc (.cells #[.int .i64 sl, .int .i64 gn] 33))
    rw [← hw0]
    clear hw0
    go_quiet (fail)
    go_wp2_with fail
    go_quiet (fail)
    go_wp2_with fail
    go_quiet (fail)
    go_wp2
    go_ret2
    exact ⟨rfl, by repeat (first | exact F0.out | apply Fr.drewN | apply Fr.drew)⟩
theorem at_ok {i : Nat} {s : Sl} (h : Ar w a G last ss) (hs : ss[i]? = some s) (hi : sl = (i : Int) + 1) (hu : s.used = true) (hg : s.gen = gn) : Calls Try.prog 104 #[.pointer (some ⟨a, 0, none⟩), .agg #[.int .i64 sl, .int .i64 gn]] w fun e w' => e = .returned (.tuple #[.pointer (some ⟨G, i * 17, none⟩), .nilIface]) ∧ Fr none_ w w' := by
  have hlen := h.len
  have hlt := (List.getElem?_eq_some_iff.1 hs).1
  obtain ⟨w0, hw0⟩ : ∃ w0, w0 = w.alloc (.cells #[.int .i64 sl, .int .i64 gn] 33) := ⟨_, rfl⟩
  have f0 : Fr none_ w w0 := by rw [hw0]; exact (Fr.refl none_ w).alloc _
  have F0 := hid_ f0
  have X0 := h.keep f0
  have p0 : Blk w0 w.heap.size 33 #[.int .i64 sl, .int .i64 gn] := by rw [hw0]; exact Blk.new w _ _
  have x0 : w0.cell? ⟨w.heap.size, 0, none⟩ = some (.int .i64 sl) := p0.cell' rfl
  have x1 : w0.cell? ⟨w.heap.size, 1, none⟩ = some (.int .i64 gn) := p0.cell' rfl
  have h1 : decide (sl < 1) = false := by simp; omega
  have h2 : decide ((ss.length : Int) < sl) = false := by simp; omega
  have hw : IntKind.i64.wrap (sl - 1) = (i : Int) := by rw [show sl - 1 = (i : Int) by omega]; exact IntWalk.i64_in _ (by omega)
  have hi0 : (0 : Int) ≤ (i : Int) := Int.natCast_nonneg _
  have hi1 : (i : Int) < (ss.length : Int) := by omega
  have c0 : w0.cell? ⟨a, 0, none⟩ = some (.slice (some ⟨G, 0, none⟩) ss.length ss.length) := X0.hA.cell' rfl
  have g0 : w0.cell? ⟨G, i * 17, none⟩ = some (.int .i64 gn) := by rw [← hg]; exact X0.cell hs 0 rfl
  have g1 : w0.cell? ⟨G, i * 17 + 1, none⟩ = some (.bool true) := by rw [← hu]; exact X0.cell hs 1 rfl
  have lA := h.ltA
  have lA1 : a < w.heap.size + 1 := by omega
  clear h hi f0 X0 p0 hs hlt
  go_enter Try.func104, Try.ntmps104
  go_wp2_with fail
  change Code.wp _ _ _ _ (w.alloc (.cells #[.int .i64 sl, .int .i64 gn] 33))
  rw [← hw0]
  clear hw0
  go_quiet (fail)
  go_wp2_with fail
  go_quiet (fail)
  go_wp2_with fail
  go_quiet (fail)
  go_wp2
  go_ret2
  exact ⟨rfl, by repeat (first | exact F0.out | apply Fr.drewN | apply Fr.drew)⟩
/-- at where it tells an error. -/
theorem at_bad (h : Ar w a G last ss) (hb : atC ss sl gn ≠ 0) : Calls Try.prog 104 #[.pointer (some ⟨a, 0, none⟩), .agg #[.int .i64 sl, .int .i64 gn]] w fun e w' => e = .returned (.tuple #[.pointer none, errV (atC ss sl gn)]) ∧ Fr none_ w w' := by
  rcases atC_cases ss sl gn with ⟨e, h1⟩ | ⟨i, s, hi, hs, ⟨e, hn⟩ | ⟨e, _⟩⟩
  · rw [e]
    by_cases h2 : sl < 1
    · exact at_arg1 sl gn h h2
    · exact at_arg2 sl gn h h2 (by omega)
  · rw [e]
    exact at_stale sl gn h hs hi hn
  · exact absurd e hb
end
end Go.Proofs.Ytpjbncbmdfmlpaa
namespace Go.Proofs.Ytpjbncbmdfmlpaa
open Go.RowKit
set_option maxRecDepth 100000
set_option linter.unusedVariables false

abbrev recZ : Array Value := recA Rc.zero (.slice none 0 0) (.slice none 0 0)
theorem SlCells.free {cs : Array Value} {ss : List Sl} (h : SlCells cs ss) {i : Nat} {s : Sl} (hs : ss[i]? = some s) : SlCells (setA (cs.setIfInBounds (i * 17 + 1) (.bool false)) (i * 17 + 2) recZ.toList) (ss.set i ⟨s.gen, false, Rc.zero, .slice none 0 0, .slice none 0 0⟩) := by
  have hi := (List.getElem?_eq_some_iff.1 hs).1
  have hsz := h.1
  refine ⟨by rw [setA_size]; simp [h.1], fun k t hk j v hj => ?_⟩
  have hjl : j < 17 := by have := (List.getElem?_eq_some_iff.1 hj).1; simpa using this
  rw [List.getElem?_set] at hk
  split at hk
  · rename_i hik
    subst hik
    obtain rfl : (⟨s.gen, false, Rc.zero, .slice none 0 0, .slice none 0 0⟩ : Sl) = t := by simpa using hk
    match j, hj, hjl with
    | 0, hj, _ =>
      rw [setA_out _ _ _ _ (.inl (by omega)), Array.getElem?_setIfInBounds_ne (by omega)]
      obtain rfl : Value.int .i64 s.gen = v := by simpa using hj
      exact h.2 i s hs 0 _ rfl
    | 1, hj, _ =>
      rw [setA_out _ _ _ _ (.inl (by omega))]
      obtain rfl : Value.bool false = v := by simpa using hj
      have hl : i * 17 + 1 < cs.size := by omega
      simp [hl]
    | j + 2, hj, hjl =>
      rw [show i * 17 + (j + 2) = i * 17 + 2 + j by omega]
      exact setA_in _ _ _ j v (by simpa using hj) (by simp; omega)
  · rename_i hne
    rw [setA_out _ _ _ _ (by simp; omega), Array.getElem?_setIfInBounds_ne (by omega)]
    exact h.2 k t hk j v hj
section
variable {w : World} {a G : Nat} {last : Int} {ss : List Sl} (sl gn : Int)
set_option maxHeartbeats 4000000 in
theorem load_bad (h : Ar w a G last ss) (hb : atC ss sl gn ≠ 0) : Calls Try.prog 81 #[.pointer (some ⟨a, 0, none⟩), .agg #[.int .i64 sl, .int .i64 gn]] w fun e w' => e = .returned (.tuple #[recV Rc.zero (.slice none 0 0) (.slice none 0 0), errV (atC ss sl gn)]) ∧ Fr none_ w w' := by
  have K := Blk.new (w.alloc (.cells #[.int .i64 sl, .int .i64 gn] 33)) 58 recZ
  rw [World.size_alloc] at K
  have Z0 := hid_ K
  have F0 := hid_ (((Fr.refl none_ w).alloc (.cells #[.int .i64 sl, .int .i64 gn] 33)).alloc (.cells recZ 58))
  clear K
  have H := hid_ (h.keep F0.out)
  have Hb := hid_ hb
  clear h hb
  go_enter Try.func81, Try.ntmps81
  go_wp2_with fail
  refine (at_bad sl gn H.out Hb.out).mono ?_
  rintro e w1 ⟨rfl, hf1⟩
  have F1 := hid_ (F0.out.then_none hf1)
  have Z1 := hid_ (Z0.out.fr hf1 id)
  clear hf1
  have z0 : w1.cell? ⟨w.heap.size + 1, 0, none⟩ = some (.int .i64 0) := Z1.out.cell' rfl
  have y0 := Z1.out.frozen 0
  have z1 : w1.cell? ⟨w.heap.size + 1, 1, none⟩ = some (.string nilS) := Z1.out.cell' rfl
  have y1 := Z1.out.frozen 1
  have z2 : w1.cell? ⟨w.heap.size + 1, 2, none⟩ = some (.string nilS) := Z1.out.cell' rfl
  have y2 := Z1.out.frozen 2
  have z3 : w1.cell? ⟨w.heap.size + 1, 3, none⟩ = some (.bool false) := Z1.out.cell' rfl
  have y3 := Z1.out.frozen 3
  have z4 : w1.cell? ⟨w.heap.size + 1, 4, none⟩ = some (.int .i64 0) := Z1.out.cell' rfl
  have y4 := Z1.out.frozen 4
  have z5 : w1.cell? ⟨w.heap.size + 1, 5, none⟩ = some (.slice none 0 0) := Z1.out.cell' rfl
  have y5 := Z1.out.frozen 5
  have z6 : w1.cell? ⟨w.heap.size + 1, 6, none⟩ = some (.slice none 0 0) := Z1.out.cell' rfl
  have y6 := Z1.out.frozen 6
  have z7 : w1.cell? ⟨w.heap.size + 1, 7, none⟩ = some (.string nilS) := Z1.out.cell' rfl
  have y7 := Z1.out.frozen 7
  have z8 : w1.cell? ⟨w.heap.size + 1, 8, none⟩ = some (.string nilS) := Z1.out.cell' rfl
  have y8 := Z1.out.frozen 8
  have z9 : w1.cell? ⟨w.heap.size + 1, 9, none⟩ = some (.int .i64 0) := Z1.out.cell' rfl
  have y9 := Z1.out.frozen 9
  have z10 : w1.cell? ⟨w.heap.size + 1, 10, none⟩ = some (.int .i64 0) := Z1.out.cell' rfl
  have y10 := Z1.out.frozen 10
  have z11 : w1.cell? ⟨w.heap.size + 1, 11, none⟩ = some (.int .i64 0) := Z1.out.cell' rfl
  have y11 := Z1.out.frozen 11
  have z12 : w1.cell? ⟨w.heap.size + 1, 12, none⟩ = some (.string nilS) := Z1.out.cell' rfl
  have y12 := Z1.out.frozen 12
  have z13 : w1.cell? ⟨w.heap.size + 1, 13, none⟩ = some (.int .i64 0) := Z1.out.cell' rfl
  have y13 := Z1.out.frozen 13
  have z14 : w1.cell? ⟨w.heap.size + 1, 14, none⟩ = some (.int .i64 0) := Z1.out.cell' rfl
  have y14 := Z1.out.frozen 14
  go_wp2
  clear z0 y0 z1 y1 z2 y2 z3 y3 z4 y4 z5 y5 z6 y6 z7 y7 z8 y8 z9 y9 z10 y10 z11 y11 z12 y12 z13 y13 z14 y14
  obtain ⟨qb, qf⟩ := box15 Z1.out (.int .i64 0) (.string nilS) (.string nilS) (.bool false) (.int .i64 0) (.slice none 0 0) (.slice none 0 0) (.string nilS) (.string nilS) (.int .i64 0) (.int .i64 0) (.int .i64 0) (.string nilS) (.int .i64 0) (.int .i64 0)
  have q0 := qb.cell' (i := 0) rfl
  have q1 := qb.cell' (i := 1) rfl
  have q2 := qb.cell' (i := 2) rfl
  have q3 := qb.cell' (i := 3) rfl
  have q4 := qb.cell' (i := 4) rfl
  have q5 := qb.cell' (i := 5) rfl
  have q6 := qb.cell' (i := 6) rfl
  have q7 := qb.cell' (i := 7) rfl
  have q8 := qb.cell' (i := 8) rfl
  have q9 := qb.cell' (i := 9) rfl
  have q10 := qb.cell' (i := 10) rfl
  have q11 := qb.cell' (i := 11) rfl
  have q12 := qb.cell' (i := 12) rfl
  have q13 := qb.cell' (i := 13) rfl
  have q14 := qb.cell' (i := 14) rfl
  refine bodyPost_ret (v := .tuple #[recV Rc.zero (.slice none 0 0) (.slice none 0 0), errV (atC ss sl gn)]) ?_ rfl ⟨rfl, F1.out.then_only qf (.inr (by omega))⟩
  simp [results, Try.results81, go_sem, Rc.zero, q0, q1, q2, q3, q4, q5, q6, q7, q8, q9, q10, q11, q12, q13, q14]
def LoadPost (w : World) (R : Rc) (e : Ending) (w' : World) : Prop :=
  ∃ A c B d, e = .returned (.tuple #[recV R (.slice A R.rows.length c) (.slice B R.ents.length d), .nilIface]) ∧ RecOwn w' w.heap.size R (.slice A R.rows.length c) (.slice B R.ents.length d) ∧ Fr none_ w w'
set_option maxHeartbeats 4000000 in
theorem load_ok {i : Nat} {s : Sl} (h : Ar w a G last ss) (hs : ss[i]? = some s) (hi : sl = (i : Int) + 1) (hu : s.used = true) (hg : s.gen = gn) : Calls Try.prog 81 #[.pointer (some ⟨a, 0, none⟩), .agg #[.int .i64 sl, .int .i64 gn]] w (LoadPost w s.R) := by
  have K := Blk.new (w.alloc (.cells #[.int .i64 sl, .int .i64 gn] 33)) 58 recZ
  rw [World.size_alloc] at K
  have Z0 := hid_ K
  have F0 := hid_ (((Fr.refl none_ w).alloc (.cells #[.int .i64 sl, .int .i64 gn] 33)).alloc (.cells recZ 58))
  clear K
  have H := hid_ (h.keep F0.out)
  have Hs := hid_ (And.intro hs (And.intro hi (And.intro hu hg)))
  clear h hs hi hu hg
  go_enter Try.func81, Try.ntmps81
  go_wp2_with fail
  refine (at_ok sl gn H.out Hs.out.1 Hs.out.2.1 Hs.out.2.2.1 Hs.out.2.2.2).mono ?_
  rintro e w1 ⟨rfl, hf1⟩
  have X := hid_ (H.out.keep hf1)
  have F1 := hid_ (F0.out.then_none hf1)
  have Z1 := hid_ (Z0.out.fr hf1 id)
  clear hf1
  obtain ⟨A, c, B, d, hvr, hve⟩ := (X.out.own i s Hs.out.1).shape
  have hz := X.out.sz s (List.mem_of_getElem? Hs.out.1)
  have HO : Hid (RecReads w1 s.R A B) := hid_ (by have := X.out.own i s Hs.out.1; rw [hvr, hve] at this; exact this.reads)
  have g0 : w1.cell? ⟨G, i * 17 + 2, none⟩ = some (.int .i64 s.R.kind) := by exact X.out.cell Hs.out.1 2 rfl
  have g1 : w1.cell? ⟨G, i * 17 + 2 + 1, none⟩ = some (.string s.R.low) := by exact X.out.cell Hs.out.1 3 rfl
  have g2 : w1.cell? ⟨G, i * 17 + 2 + 2, none⟩ = some (.string s.R.high) := by exact X.out.cell Hs.out.1 4 rfl
  have g3 : w1.cell? ⟨G, i * 17 + 2 + 3, none⟩ = some (.bool s.R.unb) := by exact X.out.cell Hs.out.1 5 rfl
  have g4 : w1.cell? ⟨G, i * 17 + 2 + 4, none⟩ = some (.int .i64 s.R.right) := by exact X.out.cell Hs.out.1 6 rfl
  have g5 : w1.cell? ⟨G, i * 17 + 2 + 5, none⟩ = some (.slice A s.R.rows.length c) := by rw [← hvr]; exact X.out.cell Hs.out.1 7 rfl
  have g6 : w1.cell? ⟨G, i * 17 + 2 + 6, none⟩ = some (.slice B s.R.ents.length d) := by rw [← hve]; exact X.out.cell Hs.out.1 8 rfl
  have g7 : w1.cell? ⟨G, i * 17 + 2 + 7, none⟩ = some (.string s.R.key) := by exact X.out.cell Hs.out.1 9 rfl
  have g8 : w1.cell? ⟨G, i * 17 + 2 + 8, none⟩ = some (.string s.R.val) := by exact X.out.cell Hs.out.1 10 rfl
  have g9 : w1.cell? ⟨G, i * 17 + 2 + 9, none⟩ = some (.int .i64 s.R.page) := by exact X.out.cell Hs.out.1 11 rfl
  have g10 : w1.cell? ⟨G, i * 17 + 2 + 10, none⟩ = some (.int .i64 s.R.hpage) := by exact X.out.cell Hs.out.1 12 rfl
  have g11 : w1.cell? ⟨G, i * 17 + 2 + 11, none⟩ = some (.int .i64 s.R.hleft) := by exact X.out.cell Hs.out.1 13 rfl
  have g12 : w1.cell? ⟨G, i * 17 + 2 + 12, none⟩ = some (.string s.R.hkey) := by exact X.out.cell Hs.out.1 14 rfl
  have g13 : w1.cell? ⟨G, i * 17 + 2 + 13, none⟩ = some (.int .i64 s.R.nslot) := by exact X.out.cell Hs.out.1 15 rfl
  have g14 : w1.cell? ⟨G, i * 17 + 2 + 14, none⟩ = some (.int .i64 s.R.ngen) := by exact X.out.cell Hs.out.1 16 rfl
  clear hvr hve
  go_wp2_with (go_at_call 23; refine (clone_ok s.R A c B d _ HO.out hz.1 hz.2).mono ?_; rintro e w5 ⟨A5, c5, B5, d5, rfl, hown, hf5⟩; have O5 := hid_ (hown.base F1.out.size); have F5 := hid_ (F1.out.then_none hf5); have Z5 := hid_ (Z1.out.fr hf5 id); clear hown hf5; have z0 : w5.cell? ⟨w.heap.size + 1, 0, none⟩ = some (.int .i64 0) := Z5.out.cell' rfl; have y0 := Z5.out.frozen 0; have z1 : w5.cell? ⟨w.heap.size + 1, 1, none⟩ = some (.string nilS) := Z5.out.cell' rfl; have y1 := Z5.out.frozen 1; have z2 : w5.cell? ⟨w.heap.size + 1, 2, none⟩ = some (.string nilS) := Z5.out.cell' rfl; have y2 := Z5.out.frozen 2; have z3 : w5.cell? ⟨w.heap.size + 1, 3, none⟩ = some (.bool false) := Z5.out.cell' rfl; have y3 := Z5.out.frozen 3; have z4 : w5.cell? ⟨w.heap.size + 1, 4, none⟩ = some (.int .i64 0) := Z5.out.cell' rfl; have y4 := Z5.out.frozen 4; have z5 : w5.cell? ⟨w.heap.size + 1, 5, none⟩ = some (.slice none 0 0) := Z5.out.cell' rfl; have y5 := Z5.out.frozen 5; have z6 : w5.cell? ⟨w.heap.size + 1, 6, none⟩ = some (.slice none 0 0) := Z5.out.cell' rfl; have y6 := Z5.out.frozen 6; have z7 : w5.cell? ⟨w.heap.size + 1, 7, none⟩ = some (.string nilS) := Z5.out.cell' rfl; have y7 := Z5.out.frozen 7; have z8 : w5.cell? ⟨w.heap.size + 1, 8, none⟩ = some (.string nilS) := Z5.out.cell' rfl; have y8 := Z5.out.frozen 8; have z9 : w5.cell? ⟨w.heap.size + 1, 9, none⟩ = some (.int .i64 0) := Z5.out.cell' rfl; have y9 := Z5.out.frozen 9; have z10 : w5.cell? ⟨w.heap.size + 1, 10, none⟩ = some (.int .i64 0) := Z5.out.cell' rfl; have y10 := Z5.out.frozen 10; have z11 : w5.cell? ⟨w.heap.size + 1, 11, none⟩ = some (.int .i64 0) := Z5.out.cell' rfl; have y11 := Z5.out.frozen 11; have z12 : w5.cell? ⟨w.heap.size + 1, 12, none⟩ = some (.string nilS) := Z5.out.cell' rfl; have y12 := Z5.out.frozen 12; have z13 : w5.cell? ⟨w.heap.size + 1, 13, none⟩ = some (.int .i64 0) := Z5.out.cell' rfl; have y13 := Z5.out.frozen 13; have z14 : w5.cell? ⟨w.heap.size + 1, 14, none⟩ = some (.int .i64 0) := Z5.out.cell' rfl; have y14 := Z5.out.frozen 14)
  clear z0 y0 z1 y1 z2 y2 z3 y3 z4 y4 z5 y5 z6 y6 z7 y7 z8 y8 z9 y9 z10 y10 z11 y11 z12 y12 z13 y13 z14 y14
  obtain ⟨qb, qf⟩ := box15 Z5.out (.int .i64 s.R.kind) (.string s.R.low) (.string s.R.high) (.bool s.R.unb) (.int .i64 s.R.right) (.slice A5 s.R.rows.length c5) (.slice B5 s.R.ents.length d5) (.string s.R.key) (.string s.R.val) (.int .i64 s.R.page) (.int .i64 s.R.hpage) (.int .i64 s.R.hleft) (.string s.R.hkey) (.int .i64 s.R.nslot) (.int .i64 s.R.ngen)
  have q0 := qb.cell' (i := 0) rfl
  have q1 := qb.cell' (i := 1) rfl
  have q2 := qb.cell' (i := 2) rfl
  have q3 := qb.cell' (i := 3) rfl
  have q4 := qb.cell' (i := 4) rfl
  have q5 := qb.cell' (i := 5) rfl
  have q6 := qb.cell' (i := 6) rfl
  have q7 := qb.cell' (i := 7) rfl
  have q8 := qb.cell' (i := 8) rfl
  have q9 := qb.cell' (i := 9) rfl
  have q10 := qb.cell' (i := 10) rfl
  have q11 := qb.cell' (i := 11) rfl
  have q12 := qb.cell' (i := 12) rfl
  have q13 := qb.cell' (i := 13) rfl
  have q14 := qb.cell' (i := 14) rfl
  refine bodyPost_ret (v := .tuple #[recV s.R (.slice A5 s.R.rows.length c5) (.slice B5 s.R.ents.length d5), .nilIface]) ?_ rfl ⟨_, _, _, _, rfl, O5.out.only qf Z5.out (by decide) (by decide), F5.out.then_only qf (.inr (by omega))⟩
  simp [results, Try.results81, go_sem, q0, q1, q2, q3, q4, q5, q6, q7, q8, q9, q10, q11, q12, q13, q14]
end
end Go.Proofs.Ytpjbncbmdfmlpaa
namespace Go.Proofs.Ytpjbncbmdfmlpaa
open Go.RowKit
set_option maxRecDepth 100000
set_option linter.unusedVariables false

theorem AllocPost.first {w w' : World} {a G : Nat} {last : Int} {ss : List Sl} {R : Rc} {e : Ending} (h : AllocPost w a G last ss R e w') {i : Nat} {s : Sl} (hs : ss[i]? = some s) (hu : s.used = false) (hg : s.gen ≠ last) (hno : ∀ j t, j < i → ss[j]? = some t → t.used = true ∨ t.gen = last) :
    ∃ vr ve, e = .returned (.tuple #[.agg #[.int .i64 ((i : Int) + 1), .int .i64 (s.gen + 1)], .nilIface]) ∧ Ar w' a G last (ss.set i ⟨s.gen + 1, true, R, vr, ve⟩) ∧ RecOwn w' w.heap.size R vr ve ∧ Fr (only G) w w' := by
  rcases h with ⟨k, t, vr, ve, ht, ⟨h1, h2⟩, h3, he, hA, hO, hF⟩ | ⟨h1, _⟩
  · obtain rfl : k = i := by
      rcases Nat.lt_trichotomy k i with hl | hl | hl
      · rcases hno k t hl ht with h | h
        · rw [h1] at h; cases h
        · exact absurd h h2
      · exact hl
      · rcases h3 i s hl hs with h | h
        · rw [hu] at h; cases h
        · exact absurd h hg
    obtain rfl := Option.some.inj (hs.symm.trans ht)
    exact ⟨vr, ve, he, hA, hO, hF⟩
  · rcases h1 i s hs with h | h
    · rw [hu] at h; cases h
    · exact absurd h hg
theorem AllocPost.none {w w' : World} {a G : Nat} {last : Int} {ss : List Sl} {R : Rc} {e : Ending} (h : AllocPost w a G last ss R e w') (hno : ∀ (j : Nat) t, ss[j]? = some t → t.used = true ∨ t.gen = last) :
    e = .returned (.tuple #[.agg #[.int .i64 0, .int .i64 0], errV (allocErr ss)]) ∧ Fr none_ w w' := by
  rcases h with ⟨k, t, vr, ve, ht, ⟨h1, h2⟩, _⟩ | ⟨_, h2⟩
  · rcases hno k t ht with h | h
    · rw [h1] at h; cases h
    · exact absurd h h2
  · exact h2
end Go.Proofs.Ytpjbncbmdfmlpaa
namespace Go.Proofs.Ytpjbncbmdfmlpaa
open Go.RowKit

theorem page_info : (Try.prog.info? 160).map (fun i => (i.zero, i.size, i.bytes)) = some (some (.agg #[.bool false, .int .i64 0, .int .i64 0]), 3, 24) := by kernel_rfl

theorem run_make_rowN {P : Program} (t e : TypeId) (i : TypeInfo) (z : Value) (ht : P.underlying t = some (.slice e)) (hi : P.info? e = some i) (hz : i.zero = some z)
    (kl kc : IntKind) (n c : Nat) (hnc : n ≤ c) (hbytes : i.bytes * c ≤ 281474976710656) (h63 : c ≤ 9223372036854775807) (w : World) :
    (Instr.makeSlice t (.int kl (n : Int)) (.int kc (c : Int))).run P w = .ok (.slice (some ⟨w.heap.size, 0, none⟩) n c) (w.alloc (.cells (madeCells z.cells (c * i.size)) e)) := by
  have hb : (i.bytes : Int) * (c : Int) ≤ 281474976710656 := by
    have h : ((i.bytes * c : Nat) : Int) ≤ 281474976710656 := by omega
    rwa [Int.natCast_mul] at h
  have hr := run_make (P := P) w t e i z ht hi hz kl kc n c (by omega) (by omega) hb (by omega)
  simp only [Int.toNat_natCast] at hr
  exact hr

theorem madeCells3 (a b c : Value) (n i : Nat) (hi : i < n) : (madeCells #[a, b, c] (n * 3))[i * 3]? = some a ∧ (madeCells #[a, b, c] (n * 3))[i * 3 + 1]? = some b ∧ (madeCells #[a, b, c] (n * 3))[i * 3 + 1 + 1]? = some c := by
  have h0 : i * 3 < n * 3 := by omega
  have h1 : i * 3 + 1 < n * 3 := by omega
  have h2 : i * 3 + 1 + 1 < n * 3 := by omega
  refine ⟨?_, ?_, ?_⟩
  · simp [madeCells, h0]
  · have : (i * 3 + 1) % 3 = 1 := by omega
    simp [madeCells, h1, this]
  · have : (i * 3 + 1 + 1) % 3 = 2 := by omega
    simp [madeCells, h2, this]

def NewPost (n : Nat) (w : World) (e : Ending) (w' : World) : Prop :=
  e = .returned (.pointer (some ⟨w.heap.size + 1, 0, none⟩)) ∧ Tbl w' (w.heap.size + 1) w.heap.size (List.replicate n (false, 0, 0)) ∧ Fr none_ w w' ∧ w'.heap.size = w.heap.size + 2

theorem mapNew_ok (n : Nat) (w : World) (h1 : 1 ≤ n) (h2 : n ≤ 256) : Calls Try.prog 43 #[.int .i64 n] w (NewPost n w) := by
  have hfin : NewPost n w (.returned (.pointer (some ⟨w.heap.size + 1, 0, none⟩))) ((w.alloc (.cells (madeCells #[.bool false, .int .i64 0, .int .i64 0] (n * 3)) 160)).alloc (.cells #[.slice (some ⟨w.heap.size, 0, none⟩) n n] 152)) := by
    refine ⟨rfl, ⟨n, madeCells #[.bool false, .int .i64 0, .int .i64 0] (n * 3), ?_, ?_, by simpa using h2, by simp, by unfold maxLen; omega, by simp [size_madeCells], ?_⟩, ((Fr.refl _ _).alloc _).alloc _, by simp⟩
    · have := Blk.new (w.alloc (.cells (madeCells #[.bool false, .int .i64 0, .int .i64 0] (n * 3)) 160)) 152 #[.slice (some ⟨w.heap.size, 0, none⟩) n n]
      simpa using this
    · exact (Blk.new w _ _).alloc _
    · intro i p hi
      obtain ⟨hlt, rfl⟩ : i < n ∧ p = (false, 0, 0) := by
        rw [List.getElem?_replicate] at hi
        split at hi
        · exact ⟨by assumption, by simpa using hi.symm⟩
        · cases hi
      exact madeCells3 _ _ _ n i hlt
  obtain ⟨i0, hi0, hz0, hs0, hb0⟩ := info_parts page_info
  have hmk := fun W => run_make_rowN (P := Try.prog) 150 160 i0 _ Try.underlying150 hi0 hz0 .i64 .i64 n n (Nat.le_refl _) (by rw [hb0]; omega) (by omega) W
  rw [hs0] at hmk
  simp only [Value.cells] at hmk
  have H := hid_ hfin
  clear hfin hi0 hz0 hs0 hb0
  go_enter Try.func43, Try.ntmps43
  go_wp2
  go_ret
  exact H.out

theorem mtake_ok (T G : Nat) (ps : List Pg) (n : Nat) (s g : Int) (w : World) (h : Tbl w T G ps) (hn : ps[n]? = some (false, s, g)) (hu : ∀ (j : Nat) (p : Pg), j < n → ps[j]? = some p → p.1 = true) :
    Calls Try.prog 46 #[.pointer (some ⟨T, 0, none⟩)] w fun e w' => e = .returned (.tuple #[.int .i64 n, .nilIface]) ∧ w' = setPg w G n (true, 0, 0) := by
  obtain ⟨cap, cur, hT, hG, h1, h2, h3, h4, h5⟩ := h
  have hnl : n < ps.length := (List.getElem?_eq_some_iff.1 hn).1
  have c0 : w.cell? ⟨T, 0, none⟩ = some (.slice (some ⟨G, 0, none⟩) ps.length cap) := hT.cell' (i := 0) rfl
  have hc : ∀ k, k < n → w.cell? ⟨G, k * 3, none⟩ = some (.bool true) := fun k hk => by
    have hi : ps[k]? = some ps[k] := List.getElem?_eq_getElem (by omega)
    have := hG.cell' (h5 k _ hi).1
    rwa [hu k _ hk hi] at this
  obtain ⟨d0, d1, d2⟩ := h5 n _ hn
  have e0 := hG.cell' d0
  have e1 := hG.cell' d1
  have e2 := hG.cell' d2
  have f := hG.frozen
  have f0 := f (n * 3)
  have f1 := f (n * 3 + 1)
  have f2 := f (n * 3 + 1 + 1)
  have Hc := hid_ hc
  clear hT hG h5 hu hc hn f d0 d1 d2
  go_enter Try.func46, Try.ntmps46
  go_wp2
  go_loop [13] (fun i => ∃ k : Nat, k ≤ n ∧ i = .int .i64 k) (fun i => ps.length - (intOf i).toNat)
  case atStart => exact ⟨0, Nat.zero_le _, rfl⟩
  case round =>
    obtain ⟨k, hk, rfl⟩ := hrel
    by_cases hlt : k < n
    · have hcx := Hc.out k hlt
      go_wp2
      go_round
      case rel => exact ⟨k + 1, by omega, by go_num⟩
      case measure => simp [intOf]; omega
    · obtain rfl : k = n := by omega
      go_wp2
      go_ret2
      exact ⟨rfl, rfl⟩
end Go.Proofs.Ytpjbncbmdfmlpaa
namespace Go.Proofs.Ytpjbncbmdfmlpaa
open Go.RowKit
open Go.Maps (Keyed int_keyed keyOf_int_mk)
set_option maxRecDepth 100000
set_option linter.unusedVariables false

/-- What is kept of where threads are inside. -/
abbrev Ins := DataW Unit
structure Clk (w : World) (C M : Nat) (now last threads : Int) (n : Nat) (D : Ins) : Prop where
  hC : Blk w C 155 #[.int .i64 now, .int .i64 last, .int .i64 threads, .map (some M)]
  hM : w.ownsMap Try.prog 3 (plainElem (H := Unit) Try.prog 3) M n D

theorem map_fr {w w' : World} {S : Nat → Prop} {M n : Nat} {D : Ins} (h : w.ownsMap Try.prog 3 (plainElem (H := Unit) Try.prog 3) M n D) (hf : Fr S w w') (hS : ¬ S M) : w'.ownsMap Try.prog 3 (plainElem (H := Unit) Try.prog 3) M n D := by
  have hl := h.lt
  obtain ⟨es, clock, hb, r⟩ := h
  exact ⟨es, clock, (hf.block M hl hS).trans hb, r⟩
theorem Clk.fr {w w' : World} {S : Nat → Prop} {C M n : Nat} {now last threads : Int} {D : Ins} (h : Clk w C M now last threads n D) (hf : Fr S w w') (hC : ¬ S C) (hM : ¬ S M) : Clk w' C M now last threads n D :=
  ⟨h.hC.fr hf hC, map_fr h.hM hf hM⟩
theorem Clk.ne {w : World} {C M n : Nat} {now last threads : Int} {D : Ins} (h : Clk w C M now last threads n D) : C ≠ M := by
  rintro rfl
  obtain ⟨es, clock, hb, r⟩ := h.hM
  have := h.hC
  unfold Blk at this
  rw [this] at hb
  cases hb

def NewClk (threads last : Int) (w : World) (e : Ending) (w' : World) : Prop :=
  ∃ C M, e = .returned (.pointer (some ⟨C, 0, none⟩)) ∧ Clk w' C M 1 last threads 0 (.map []) ∧ Fr none_ w w' ∧ w.heap.size ≤ C ∧ w.heap.size ≤ M

set_option maxHeartbeats 1000000 in
theorem clkNew_ok (threads last : Int) (w : World) (h1 : 1 ≤ threads) (h2 : threads ≤ 64) (h3 : 1 ≤ last) (h4 : last ≤ 1099511627776) : Calls Try.prog 44 #[.int .i64 threads, .int .i64 last] w (NewClk threads last w) := by
  have hmm := @run_makeMap Try.prog
  have d1 : decide (threads < 1) = false := by simp; omega
  have d2 : decide (64 < threads) = false := by simp; omega
  have d3 : decide (last < 1) = false := by simp; omega
  go_enter Try.func44, Try.ntmps44
  go_wp2_with fail
  go_ret
  refine ⟨w.heap.size + 1, w.heap.size, rfl, ⟨?_, (World.ownsMap_made w _ _ _).alloc _⟩, ((Fr.refl none_ w).alloc _).alloc _, by omega, Nat.le_refl _⟩
  have := Blk.new (w.alloc (.map #[] 0)) 155 #[.int .i64 1, .int .i64 last, .int .i64 threads, .map (some w.heap.size)]
  simpa using this

end Go.Proofs.Ytpjbncbmdfmlpaa
namespace Go.Proofs.Ytpjbncbmdfmlpaa
open Go.RowKit
set_option maxRecDepth 100000
set_option linter.unusedVariables false

section
variable {P : Program} {md : Region.Mode} {ops : Array Oper} {Q : Exit → Act → World → Prop} {S : World → Prop}
/-- The one operation that is ready, guarded or not. -/
theorem wpAnyU_oneW {m i : Nat} {oi : Oper} {fuel : Nat} {listed : Array Bool} {a : Act} {w : World} (hi : ops[i]? = some oi) (hw : Region.wanted oi (yielded ops a.tmps) = true) (hr : Region.ready md ops listed = [i])
    (h : Oper.wp P oi a w (fun a' w' => (m ≤ i ∨ S w') ∧ wpAnyU P md ops Q S m fuel (listed.setIfInBounds i true) a' w') Q) : wpAnyU P md ops Q S m (fuel + 1) listed a w := by
  refine wpAnyU_all hr (by simp) (fun j hj => ?_)
  obtain rfl : j = i := by simpa using hj
  unfold wpOp
  simp only [hi, hw, if_true]
  exact .inl h
end
structure Lm where
  s : Nat
  p : Nat
  t : Int
  r : Int
  c : Int
  n : Int
abbrev lmA (l : Lm) : Array Value := #[.int .i64 (l.s : Int), .int .i64 (l.p : Int), .int .i64 l.t, .int .i64 l.r, .int .i64 l.c, .int .i64 l.n]
structure Lm.Right (l : Lm) : Prop where
  s : 4 ≤ (l.s : Int) ∧ (l.s : Int) ≤ 4096
  p : 3 ≤ (l.p : Int) ∧ (l.p : Int) ≤ 256
  t : 1 ≤ l.t ∧ l.t ≤ 64
  r : 2 ≤ l.r ∧ l.r ≤ 64
  c : 2 ≤ l.c ∧ l.c ≤ 64
  n : 8 ≤ l.n ∧ l.n ≤ 1099511627776
/-- What a memory's parts hold, and where they lie. -/
structure St where
  a : Nat
  G : Nat
  ss : List Sl
  T : Nat
  H : Nat
  ps : List Pg
  C : Nat
  M : Nat
  now : Int
  n : Nat
  D : Ins
abbrev mmA (k : Int) (l : Lm) (x : St) : Array Value := #[.int .i64 k, .int .i64 (l.s : Int), .int .i64 (l.p : Int), .int .i64 l.t, .int .i64 l.r, .int .i64 l.c, .int .i64 l.n, .pointer (some ⟨x.a, 0, none⟩), .pointer (some ⟨x.T, 0, none⟩), .pointer (some ⟨x.C, 0, none⟩)]
structure Mm (w : World) (m : Nat) (k : Int) (l : Lm) (x : St) : Prop where
  b : Blk w m 108 (mmA k l x)
  ar : Ar w x.a x.G l.n x.ss
  tb : Tbl w x.T x.H x.ps
  ck : Clk w x.C x.M x.now l.n l.t x.n x.D
theorem Tbl.keep {w w' : World} {T G : Nat} {ps : List Pg} (h : Tbl w T G ps) (hf : Fr none_ w w') : Tbl w' T G ps := h.fr hf id id
theorem Clk.keep {w w' : World} {C M n : Nat} {now last threads : Int} {D : Ins} (h : Clk w C M now last threads n D) (hf : Fr none_ w w') : Clk w' C M now last threads n D := h.fr hf id id
theorem Mm.keep {w w' : World} {m : Nat} {k : Int} {l : Lm} {x : St} (h : Mm w m k l x) (hf : Fr none_ w w') : Mm w' m k l x := ⟨h.b.fr hf id, h.ar.keep hf, h.tb.keep hf, h.ck.keep hf⟩
section
variable {w w' : World} {m : Nat} {k : Int} {l : Lm} {x : St}
theorem Ar.gne {a G : Nat} {last : Int} {ss : List Sl} (h : Ar w a G last ss) {g : Nat} {t : TypeId} {cs : Array Value} (hb : Blk w g t cs) (ht : 158 ≠ t) : g ≠ G := by
  obtain ⟨cs', hG, _⟩ := h.hG
  exact (Blk.ne_ hG hb ht).symm
theorem Clk.mne {C M n : Nat} {now last threads : Int} {D : Ins} (h : Clk w C M now last threads n D) {g : Nat} {t : TypeId} {cs : Array Value} (hb : Blk w g t cs) : M ≠ g := by
  rintro rfl
  obtain ⟨es, clock, hm, r⟩ := h.hM
  unfold Blk at hb
  rw [hb] at hm
  cases hm
/-- The arena alone was turned. -/
theorem Mm.arPut (h : Mm w m k l x) {ss' : List Sl} (hA : Ar w' x.a x.G l.n ss') (hf : Fr (only x.G) w w') : Mm w' m k l { x with ss := ss' } := by
  obtain ⟨cs, hG, _⟩ := h.ar.hG
  obtain ⟨cap, cur, hT, hH, _⟩ := id h.tb
  exact ⟨h.b.fr hf (only_ne (h.ar.gne h.b (by decide))), hA, h.tb.fr hf (only_ne (h.ar.gne hT (by decide))) (only_ne (h.ar.gne hH (by decide))), h.ck.fr hf (only_ne (h.ar.gne h.ck.hC (by decide))) (only_ne (h.ck.mne hG))⟩
/-- The table alone was turned. -/
theorem Mm.tbPut (h : Mm w m k l x) {ps' : List Pg} (hT : Tbl w' x.T x.H ps') (hf : Fr (only x.H) w w') : Mm w' m k l { x with ps := ps' } := by
  obtain ⟨cs, hG, _⟩ := h.ar.hG
  obtain ⟨cap, cur, hT0, hH, _⟩ := id h.tb
  exact ⟨h.b.fr hf (only_ne (Blk.ne_ h.b hH (by decide))), h.ar.beside hf hH (by decide) (by decide) (Blk.ne_ h.ar.hA hH (by decide)) (Blk.ne_ hG hH (by decide)), hT, h.ck.fr hf (only_ne (Blk.ne_ h.ck.hC hH (by decide))) (only_ne (h.ck.mne hH))⟩
/-- One more access. -/
theorem Mm.count (h : Mm w m k l x) (k' : Int) : Mm (w.setCell ⟨m, 0, none⟩ (.int .i64 k')) m k' l x := by
  obtain ⟨cs, hG, _⟩ := h.ar.hG
  obtain ⟨cap, cur, hT0, hH, _⟩ := id h.tb
  have hf := Fr.only1 w ⟨m, 0, none⟩ (.int .i64 k')
  exact ⟨h.b.set_ 0 _, h.ar.beside hf h.b (by decide) (by decide) (Blk.ne_ h.ar.hA h.b (by decide)) (Blk.ne_ hG h.b (by decide)), h.tb.fr hf (only_ne (Blk.ne_ hT0 h.b (by decide))) (only_ne (Blk.ne_ hH h.b (by decide))), h.ck.fr hf (only_ne (Blk.ne_ h.ck.hC h.b (by decide))) (only_ne (h.ck.mne h.b))⟩
end
theorem rep_set {α : Type} {n : Nat} (h : 0 < n) (z y : α) : (List.replicate n z).set 0 y = y :: List.replicate (n - 1) z := by
  cases n with
  | zero => omega
  | succ n => simp [List.replicate_succ]
theorem rep_get {α : Type} {n : Nat} (h : 0 < n) (z : α) : (List.replicate n z)[0]? = some z := by
  cases n with
  | zero => omega
  | succ n => simp [List.replicate_succ]
abbrev leafR : Rc := ⟨1, nilS, nilS, true, 0, [], [], nilS, nilS, 0, 0, 0, nilS, 0, 0⟩
theorem reads_leaf (w : World) : RecReads w leafR none none := ⟨⟨rfl, fun h => absurd h (Nat.lt_irrefl 0)⟩, ⟨rfl, fun h => absurd h (Nat.lt_irrefl 0)⟩⟩
/-- A memory as it is at first. -/
def NewMem (l : Lm) (w : World) (e : Ending) (w' : World) : Prop :=
  ∃ (m a G : Nat) (vr ve : Value) (T H C M : Nat), e = .returned (.tuple #[.pointer (some ⟨m, 0, none⟩), .nilIface]) ∧ Mm w' m 0 l ⟨a, G, ⟨1, true, leafR, vr, ve⟩ :: List.replicate (l.s - 1) Sl.zero, T, H, (true, 1, 1) :: List.replicate (l.p - 1) (false, 0, 0), C, M, 1, 0, .map []⟩ ∧ Fr none_ w w' ∧ w.heap.size ≤ m ∧ w.heap.size ≤ C ∧ w.heap.size ≤ M ∧ w.heap.size ≤ G ∧ w.heap.size ≤ H
theorem within_yes (n a b : Int) (w : World) (h1 : a ≤ n) (h2 : n ≤ b) : Calls Try.prog 78 #[.int .i64 n, .int .i64 a, .int .i64 b] w fun e w' => e = .returned (.bool true) ∧ w = w' := by
  have d1 : decide (a ≤ n) = true := by simpa using h1
  have d2 : decide (n ≤ b) = true := by simpa using h2
  clear h1 h2
  go_enter Try.func78, Try.ntmps78
  go_wp2
  go_ret
  exact ⟨rfl, rfl⟩
set_option maxHeartbeats 4000000 in
theorem right_yes (l : Lm) (w : World) (hl : l.Right) : Calls Try.prog 41 #[.agg (lmA l)] w fun e w' => e = .returned (.bool true) ∧ Fr none_ w w' := by
  have HL := hid_ hl
  clear hl
  go_enter Try.func41, Try.ntmps41
  go_wp2_with fail
  refine (within_yes _ _ _ _ HL.out.s.1 HL.out.s.2).mono ?_
  rintro e w1 ⟨rfl, rfl⟩
  go_wp2_with fail
  refine (within_yes _ _ _ _ HL.out.p.1 HL.out.p.2).mono ?_
  rintro e w1 ⟨rfl, rfl⟩
  go_wp2_with fail
  refine (within_yes _ _ _ _ HL.out.t.1 HL.out.t.2).mono ?_
  rintro e w1 ⟨rfl, rfl⟩
  go_wp2_with fail
  refine (within_yes _ _ _ _ HL.out.r.1 HL.out.r.2).mono ?_
  rintro e w1 ⟨rfl, rfl⟩
  go_wp2_with fail
  refine (within_yes _ _ _ _ HL.out.c.1 HL.out.c.2).mono ?_
  rintro e w1 ⟨rfl, rfl⟩
  go_wp2_with fail
  refine (within_yes _ _ _ _ HL.out.n.1 HL.out.n.2).mono ?_
  rintro e w1 ⟨rfl, rfl⟩
  go_wp2_with fail
  go_ret
  exact ⟨rfl, (Fr.refl none_ w).alloc _⟩
set_option maxHeartbeats 8000000 in
theorem memNew_ok (l : Lm) (w : World) (hl : l.Right) : Calls Try.prog 12 #[.agg (lmA l)] w (NewMem l w) := by
  have HL := hid_ hl
  clear hl
  have F := hid_ (Fr.refl none_ w)
  go_enter Try.func12, Try.ntmps12
  go_upto_region 1 with fail
  obtain ⟨w0, hw0⟩ : ∃ z, z = w.alloc (.cells (lmA l) 28) := ⟨_, rfl⟩
  have fw0 : Fr none_ w w0 := by rw [hw0]; exact (Fr.refl none_ w).alloc _
  have BL : Hid (Blk w0 w.heap.size 28 (lmA l)) := hid_ (by rw [hw0]; exact Blk.new w _ _)
  replace F := hid_ (F.out.then_none fw0)
  change Code.wp _ _ _ _ (w.alloc (.cells (lmA l) 28))
  rw [← hw0]
  clear hw0 fw0
  have v0 : w0.cell? ⟨w.heap.size, 0, none⟩ = some (.int .i64 (l.s : Int)) := BL.out.cell' rfl
  have v1 : w0.cell? ⟨w.heap.size, 1, none⟩ = some (.int .i64 (l.p : Int)) := BL.out.cell' rfl
  have v2 : w0.cell? ⟨w.heap.size, 2, none⟩ = some (.int .i64 l.t) := BL.out.cell' rfl
  have v3 : w0.cell? ⟨w.heap.size, 3, none⟩ = some (.int .i64 l.r) := BL.out.cell' rfl
  have v4 : w0.cell? ⟨w.heap.size, 4, none⟩ = some (.int .i64 l.c) := BL.out.cell' rfl
  have v5 : w0.cell? ⟨w.heap.size, 5, none⟩ = some (.int .i64 l.n) := BL.out.cell' rfl
  go_wp2_with fail
  refine (right_yes l _ HL.out).mono ?_
  rintro e w1 ⟨rfl, hf1⟩
  replace F := hid_ (F.out.then_none hf1)
  replace BL := hid_ (BL.out.fr hf1 id)
  clear hf1
  clear v0 v1 v2 v3 v4 v5
  have v0 : w1.cell? ⟨w.heap.size, 0, none⟩ = some (.int .i64 (l.s : Int)) := BL.out.cell' rfl
  have v1 : w1.cell? ⟨w.heap.size, 1, none⟩ = some (.int .i64 (l.p : Int)) := BL.out.cell' rfl
  have v2 : w1.cell? ⟨w.heap.size, 2, none⟩ = some (.int .i64 l.t) := BL.out.cell' rfl
  have v3 : w1.cell? ⟨w.heap.size, 3, none⟩ = some (.int .i64 l.r) := BL.out.cell' rfl
  have v4 : w1.cell? ⟨w.heap.size, 4, none⟩ = some (.int .i64 l.c) := BL.out.cell' rfl
  have v5 : w1.cell? ⟨w.heap.size, 5, none⟩ = some (.int .i64 l.n) := BL.out.cell' rfl
  go_upto_region 3 with fail
  have hS0 : (fun w' : World => Fr none_ w1 w') w1.drew := (Fr.refl none_ w1).drew
  refine wp_region_U (m := 14) (S := fun w' : World => Fr none_ w1 w') (by kernel_rfl) ?_
  refine wpAnyU_take2 (i := 0) (v := _) rfl (by kernel_rfl) (by kernel_rfl) (by kernel_rfl) (by kernel_rfl) (fun _ _ _ h => h) (.inl ⟨by kernel_rfl, fun w' hS => by have s_0 := cellFr v0 hS; have s_1 := cellFr v1 hS; have s_2 := cellFr v2 hS; have s_3 := cellFr v3 hS; have s_4 := cellFr v4 hS; have s_5 := cellFr v5 hS; go_simp; rfl⟩) hS0 ?_
  refine wpAnyU_take2 (i := 1) (v := _) rfl (by kernel_rfl) (by kernel_rfl) (by kernel_rfl) (by kernel_rfl) (fun _ _ _ h => h) (.inl ⟨by kernel_rfl, fun w' hS => by go_simp; rfl⟩) hS0 ?_
  refine wpAnyU_take2 (i := 2) (v := _) rfl (by kernel_rfl) (by kernel_rfl) (by kernel_rfl) (by kernel_rfl) (fun _ _ _ h => h) (.inl ⟨by kernel_rfl, fun w' hS => by have s_0 := cellFr v0 hS; have s_1 := cellFr v1 hS; have s_2 := cellFr v2 hS; have s_3 := cellFr v3 hS; have s_4 := cellFr v4 hS; have s_5 := cellFr v5 hS; go_simp; rfl⟩) hS0 ?_
  refine wpAnyU_take2 (i := 3) (v := _) rfl (by kernel_rfl) (by kernel_rfl) (by kernel_rfl) (by kernel_rfl) (fun _ _ _ h => h) (.inl ⟨by kernel_rfl, fun w' hS => by go_simp; rfl⟩) hS0 ?_
  refine wpAnyU_take2 (i := 4) (v := _) rfl (by kernel_rfl) (by kernel_rfl) (by kernel_rfl) (by kernel_rfl) (fun _ _ _ h => h) (.inl ⟨by kernel_rfl, fun w' hS => by have s_0 := cellFr v0 hS; have s_1 := cellFr v1 hS; have s_2 := cellFr v2 hS; have s_3 := cellFr v3 hS; have s_4 := cellFr v4 hS; have s_5 := cellFr v5 hS; go_simp; rfl⟩) hS0 ?_
  refine wpAnyU_take2 (i := 6) (v := _) rfl (by kernel_rfl) (by kernel_rfl) (by kernel_rfl) (by kernel_rfl) (fun _ _ _ h => h) (.inl ⟨by kernel_rfl, fun w' hS => by go_simp; rfl⟩) hS0 ?_
  refine wpAnyU_take2 (i := 7) (v := _) rfl (by kernel_rfl) (by kernel_rfl) (by kernel_rfl) (by kernel_rfl) (fun _ _ _ h => h) (.inl ⟨by kernel_rfl, fun w' hS => by have s_0 := cellFr v0 hS; have s_1 := cellFr v1 hS; have s_2 := cellFr v2 hS; have s_3 := cellFr v3 hS; have s_4 := cellFr v4 hS; have s_5 := cellFr v5 hS; go_simp; rfl⟩) hS0 ?_
  refine wpAnyU_take2 (i := 9) (v := _) rfl (by kernel_rfl) (by kernel_rfl) (by kernel_rfl) (by kernel_rfl) (fun _ _ _ h => h) (.inl ⟨by kernel_rfl, fun w' hS => by go_simp; rfl⟩) hS0 ?_
  refine wpAnyU_take2 (i := 10) (v := _) rfl (by kernel_rfl) (by kernel_rfl) (by kernel_rfl) (by kernel_rfl) (fun _ _ _ h => h) (.inl ⟨by kernel_rfl, fun w' hS => by have s_0 := cellFr v0 hS; have s_1 := cellFr v1 hS; have s_2 := cellFr v2 hS; have s_3 := cellFr v3 hS; have s_4 := cellFr v4 hS; have s_5 := cellFr v5 hS; go_simp; rfl⟩) hS0 ?_
  refine wpAnyU_take2 (i := 11) (v := _) rfl (by kernel_rfl) (by kernel_rfl) (by kernel_rfl) (by kernel_rfl) (fun _ _ _ h => h) (.inl ⟨by kernel_rfl, fun w' hS => by go_simp; rfl⟩) hS0 ?_
  refine wpAnyU_take2 (i := 12) (v := _) rfl (by kernel_rfl) (by kernel_rfl) (by kernel_rfl) (by kernel_rfl) (fun _ _ _ h => h) (.inl ⟨by kernel_rfl, fun w' hS => by have s_0 := cellFr v0 hS; have s_1 := cellFr v1 hS; have s_2 := cellFr v2 hS; have s_3 := cellFr v3 hS; have s_4 := cellFr v4 hS; have s_5 := cellFr v5 hS; go_simp; rfl⟩) hS0 ?_
  refine wpAnyU_oneW (i := 5) rfl (by kernel_rfl) (by kernel_rfl) ?_
  go_simp
  refine (arNew_ok l.s l.n _ (by have := HL.out.s; omega) (by have := HL.out.s; omega) (by have := HL.out.n; omega) HL.out.n.2).mono ?_
  rintro e w2 ⟨a, G, rfl, hA, hf2, ha, hG⟩
  have HGw := hid_ (show w.heap.size ≤ G by have := F.out.size; simp at hG; omega)
  have HHw := hid_ (show w.heap.size ≤ w2.heap.size by have := F.out.size; have := hf2.size; simp at this; omega)
  have fS := (Fr.refl none_ w1).drew.then_none hf2
  refine ⟨fS, ?_⟩
  have A1 := hid_ hA
  clear hA hf2 hS0
  clear v0 v1 v2 v3 v4 v5
  refine wpAnyU_oneW (i := 8) rfl (by kernel_rfl) (by kernel_rfl) ?_
  go_simp
  refine (mapNew_ok l.p _ (by have := HL.out.p; omega) (by have := HL.out.p; omega)).mono ?_
  rintro e w3 ⟨rfl, hT, hf3, -⟩
  have fS := fS.then_none hf3
  refine ⟨fS, ?_⟩
  replace A1 := hid_ (A1.out.keep hf3)
  have T1 := hid_ hT
  clear hT hf3
  refine wpAnyU_oneW (i := 13) rfl (by kernel_rfl) (by kernel_rfl) ?_
  go_simp
  refine (clkNew_ok l.t l.n _ HL.out.t.1 HL.out.t.2 (by have := HL.out.n; omega) HL.out.n.2).mono ?_
  rintro e w4 ⟨C, M, rfl, hC, hf4, hc1, hc2⟩
  have HCw := hid_ (show w.heap.size ≤ C ∧ w.heap.size ≤ M by have := F.out.size; have := fS.size; omega)
  have fS := fS.then_none hf4
  refine ⟨fS, ?_⟩
  replace A1 := hid_ (A1.out.keep hf4)
  replace T1 := hid_ (T1.out.keep hf4)
  have C1 := hid_ hC
  clear hC hf4
  refine wpAnyU_oneW (i := 14) rfl (by kernel_rfl) (by kernel_rfl) ?_
  go_simp
  refine wpAnyU_oneW (i := 15) rfl (by kernel_rfl) (by kernel_rfl) ?_
  go_simp
  refine wpAnyU_oneW (i := 16) rfl (by kernel_rfl) (by kernel_rfl) ?_
  go_simp
  refine wpAnyU_done (by kernel_rfl) ?_ _
  replace F := hid_ (F.out.then_none fS)
  clear fS
  go_upto_region 4 with fail
  have HMw := hid_ F.out.size
  obtain ⟨w5, hw5⟩ : ∃ z, z = w4.alloc (.cells #[.int .i64 0, .int .i64 (l.s : Int), .int .i64 (l.p : Int), .int .i64 l.t, .int .i64 l.r, .int .i64 l.c, .int .i64 l.n, .pointer (some ⟨a, 0, none⟩), .pointer (some ⟨w2.heap.size + 1, 0, none⟩), .pointer (some ⟨C, 0, none⟩)] 108) := ⟨_, rfl⟩
  have fw5 : Fr none_ w4 w5 := by rw [hw5]; exact (Fr.refl none_ w4).alloc _
  have BM : Hid (Blk w5 w4.heap.size 108 (#[.int .i64 0, .int .i64 (l.s : Int), .int .i64 (l.p : Int), .int .i64 l.t, .int .i64 l.r, .int .i64 l.c, .int .i64 l.n, .pointer (some ⟨a, 0, none⟩), .pointer (some ⟨w2.heap.size + 1, 0, none⟩), .pointer (some ⟨C, 0, none⟩)])) := hid_ (by rw [hw5]; exact Blk.new w4 _ _)
  replace F := hid_ (F.out.then_none fw5)
  replace A1 := hid_ (A1.out.keep fw5)
  replace T1 := hid_ (T1.out.keep fw5)
  replace C1 := hid_ (C1.out.keep fw5)
  change Code.wp _ _ _ _ (w4.alloc (.cells #[.int .i64 0, .int .i64 (l.s : Int), .int .i64 (l.p : Int), .int .i64 l.t, .int .i64 l.r, .int .i64 l.c, .int .i64 l.n, .pointer (some ⟨a, 0, none⟩), .pointer (some ⟨w2.heap.size + 1, 0, none⟩), .pointer (some ⟨C, 0, none⟩)] 108))
  rw [← hw5]
  clear hw5 fw5
  have M5 : Hid (Mm w5 w4.heap.size 0 l ⟨a, G, List.replicate l.s Sl.zero, w2.heap.size + 1, w2.heap.size, List.replicate l.p (false, 0, 0), C, M, 1, 0, .map []⟩) := hid_ ⟨BM.out, A1.out, T1.out, C1.out⟩
  have hw1 := F.out.size
  have m7 : w5.cell? ⟨w4.heap.size, 7, none⟩ = some (.pointer (some ⟨a, 0, none⟩)) := BM.out.cell' rfl
  go_wp2_with fail
  refine (alloc_ok leafR none 0 none 0 _ a G l.n _ M5.out.ar (reads_leaf _) ⟨by decide, by decide⟩).mono ?_
  rintro e w6 h6
  obtain ⟨vr, ve, rfl, hA6, -, hf6⟩ := h6.first (i := 0) (s := Sl.zero) (rep_get (by have := HL.out.s; omega) _) rfl (by show (0 : Int) ≠ l.n; have := HL.out.n; omega) (fun j t hj => by omega)
  rw [rep_set (by have := HL.out.s; omega)] at hA6
  have M6 : Hid (Mm w6 w4.heap.size 0 l ⟨a, G, ⟨1, true, leafR, vr, ve⟩ :: List.replicate (l.s - 1) Sl.zero, w2.heap.size + 1, w2.heap.size, List.replicate l.p (false, 0, 0), C, M, 1, 0, .map []⟩) := hid_ (M5.out.arPut hA6 hf6)
  have F6 := hid_ (F.out.then_only hf6 (.inr HGw.out))
  clear h6 hA6 hf6 m7 M5 BM A1 T1 C1 F
  go_upto_region 5 with fail
  obtain ⟨w7, hw7⟩ : ∃ z, z = w6.alloc (.cells #[.int .i64 1, .int .i64 1] 33) := ⟨_, rfl⟩
  have fw7 : Fr none_ w6 w7 := by rw [hw7]; exact (Fr.refl none_ w6).alloc _
  have BX : Hid (Blk w7 w6.heap.size 33 (#[.int .i64 1, .int .i64 1])) := hid_ (by rw [hw7]; exact Blk.new w6 _ _)
  replace F6 := hid_ (F6.out.then_none fw7)
  replace M6 := hid_ (M6.out.keep fw7)
  change Code.wp _ _ _ _ (w6.alloc (.cells #[.int .i64 1, .int .i64 1] 33))
  rw [← hw7]
  clear hw7 fw7
  have m8 : w7.cell? ⟨w4.heap.size, 8, none⟩ = some (.pointer (some ⟨w2.heap.size + 1, 0, none⟩)) := M6.out.b.cell' rfl
  go_wp2_with fail
  refine (mtake_ok _ _ _ 0 0 0 _ M6.out.tb (rep_get (by have := HL.out.p; omega) _) (fun j p hj => by omega)).mono ?_
  rintro e w8 ⟨rfl, h8⟩
  have hT8 : Tbl w8 (w2.heap.size + 1) w2.heap.size ((List.replicate l.p (false, 0, 0)).set 0 (true, 0, 0)) := by rw [h8]; exact M6.out.tb.set_ (by simp; have := HL.out.p; omega) _
  have hf8 : Fr (only w2.heap.size) w7 w8 := by rw [h8]; exact setPg_only _ _ _ _
  rw [rep_set (by have := HL.out.p; omega)] at hT8
  replace BX := hid_ (BX.out.fr hf8 (only_ne (by obtain ⟨cap, cur, hT0, hH, _⟩ := id M6.out.tb; exact Blk.ne_ BX.out hH (by decide))))
  replace M6 := hid_ (M6.out.tbPut hT8 hf8)
  replace F6 := hid_ (F6.out.then_only hf8 (.inr HHw.out))
  clear h8 hT8 hf8 m8
  have m8 : w8.cell? ⟨w4.heap.size, 8, none⟩ = some (.pointer (some ⟨w2.heap.size + 1, 0, none⟩)) := M6.out.b.cell' rfl
  have x0 : w8.cell? ⟨w6.heap.size, 0, none⟩ = some (.int .i64 1) := BX.out.cell' rfl
  have x1 : w8.cell? ⟨w6.heap.size, 1, none⟩ = some (.int .i64 1) := BX.out.cell' rfl
  go_upto_region 10 with fail
  have nH : ¬ only w2.heap.size w4.heap.size ∧ ¬ only w2.heap.size w6.heap.size := by
    obtain ⟨cap, cur, hT0, hH, _⟩ := id M6.out.tb
    exact ⟨only_ne (Blk.ne_ M6.out.b hH (by decide)), only_ne (Blk.ne_ BX.out hH (by decide))⟩
  have hS1 : (fun w' : World => Fr (only w2.heap.size) w8 w') w8.drew := (Fr.refl _ w8).drew
  refine wp_region_U (m := 13) (S := fun w' : World => Fr (only w2.heap.size) w8 w') (by kernel_rfl) ?_
  refine wpAnyU_take2 (i := 0) (v := _) rfl (by kernel_rfl) (by kernel_rfl) (by kernel_rfl) (by kernel_rfl) (fun _ _ _ h => h) (.inl ⟨by kernel_rfl, fun w' hS => by go_simp; rfl⟩) hS1 ?_
  refine wpAnyU_take2 (i := 1) (v := _) rfl (by kernel_rfl) (by kernel_rfl) (by kernel_rfl) (by kernel_rfl) (fun _ _ _ h => h) (.inl ⟨by kernel_rfl, fun w' hS => by go_simp; rfl⟩) hS1 ?_
  refine wpAnyU_take2 (i := 2) (v := _) rfl (by kernel_rfl) (by kernel_rfl) (by kernel_rfl) (by kernel_rfl) (fun _ _ _ h => h) (.inl ⟨by kernel_rfl, fun w' hS => by go_simp; rfl⟩) hS1 ?_
  refine wpAnyU_take2 (i := 3) (v := _) rfl (by kernel_rfl) (by kernel_rfl) (by kernel_rfl) (by kernel_rfl) (fun _ _ _ h => h) (.inl ⟨by kernel_rfl, fun w' hS => by have s_8 := cellFrS m8 hS nH.1; go_simp; rfl⟩) hS1 ?_
  refine wpAnyU_take2 (i := 4) (v := _) rfl (by kernel_rfl) (by kernel_rfl) (by kernel_rfl) (by kernel_rfl) (fun _ _ _ h => h) (.inl ⟨by kernel_rfl, fun w' hS => by go_simp; rfl⟩) hS1 ?_
  refine wpAnyU_take2 (i := 5) (v := _) rfl (by kernel_rfl) (by kernel_rfl) (by kernel_rfl) (by kernel_rfl) (fun _ _ _ h => h) (.inl ⟨by kernel_rfl, fun w' hS => by go_simp; rfl⟩) hS1 ?_
  refine wpAnyU_take2 (i := 6) (v := _) rfl (by kernel_rfl) (by kernel_rfl) (by kernel_rfl) (by kernel_rfl) (fun _ _ _ h => h) (.inl ⟨by kernel_rfl, fun w' hS => by have s_0 := cellFrS x0 hS nH.2; have s_1 := cellFrS x1 hS nH.2; go_simp; rfl⟩) hS1 ?_
  clear m8 x0 x1
  refine wpAnyU_oneW (i := 7) rfl (by kernel_rfl) (by kernel_rfl) ?_
  go_simp
  refine (swap_ok _ _ _ 0 0 0 0 0 1 1 _ (M6.out.tb.keep (Fr.refl none_ _).drew) rfl).mono ?_
  rintro e w9 ⟨rfl, hT9, hf9⟩
  have hT9' : Tbl w9 (w2.heap.size + 1) w2.heap.size ((true, 1, 1) :: List.replicate (l.p - 1) (false, 0, 0)) := by simpa using hT9
  have M9 := hid_ ((M6.out.keep (Fr.refl none_ w8).drew).tbPut hT9' hf9)
  have fS9 : (fun w' : World => Fr (only w2.heap.size) w8 w') w9 := (Fr.refl (only w2.heap.size) w8).drew.then_only hf9 (.inl (Eq.refl _))
  have F9 := hid_ (F6.out.drew.then_only hf9 (.inr HHw.out))
  clear hT9 hT9' hf9 hS1
  simp only [beq_self_eq_true, Bool.and_self]
  refine ⟨fS9, ?_⟩
  refine wpAnyU_take2 (i := 8) (v := _) rfl (by kernel_rfl) (by kernel_rfl) (by kernel_rfl) (by kernel_rfl) (fun _ _ _ h => h) (.inl ⟨by kernel_rfl, fun w' hS => by go_simp; rfl⟩) fS9 ?_
  refine wpAnyU_take2 (i := 9) (v := _) rfl (by kernel_rfl) (by kernel_rfl) (by kernel_rfl) (by kernel_rfl) (fun _ _ _ h => h) (.inl ⟨by kernel_rfl, fun w' hS => by go_simp; rfl⟩) fS9 ?_
  refine wpAnyU_take2 (i := 10) (v := _) rfl (by kernel_rfl) (by kernel_rfl) (by kernel_rfl) (by kernel_rfl) (fun _ _ _ h => h) (.inl ⟨by kernel_rfl, fun w' hS => by go_simp; rfl⟩) fS9 ?_
  refine wpAnyU_take2 (i := 11) (v := _) rfl (by kernel_rfl) (by kernel_rfl) (by kernel_rfl) (by kernel_rfl) (fun _ _ _ h => h) (.inl ⟨by kernel_rfl, fun w' hS => by go_simp; rfl⟩) fS9 ?_
  refine wpAnyU_take2 (i := 12) (v := _) rfl (by kernel_rfl) (by kernel_rfl) (by kernel_rfl) (by kernel_rfl) (fun _ _ _ h => h) (.inl ⟨by kernel_rfl, fun w' hS => by go_simp; rfl⟩) fS9 ?_
  refine wpAnyU_done (by kernel_rfl) ?_ _
  go_wp2_with fail
  go_ret2
  exact ⟨_, _, _, _, _, _, _, _, _, rfl, M9.out, F9.out, HMw.out, HCw.out.1, HCw.out.2, HGw.out, HHw.out⟩
end Go.Proofs.Ytpjbncbmdfmlpaa
namespace Go.Proofs.Ytpjbncbmdfmlpaa
open Go.RowKit
set_option maxRecDepth 100000
set_option linter.unusedVariables false

/-- A record in a row: what its slices are. -/
structure Cr where
  R : Rc
  A : Option Addr
  c : Nat
  B : Option Addr
  d : Nat
abbrev crA (C : Cr) : Array Value := recA C.R (.slice C.A C.R.rows.length C.c) (.slice C.B C.R.ents.length C.d)
def crFlat (L : List Cr) : List Value := (L.map fun C => (crA C).toList).flatten
theorem crFlat_snoc (L : List Cr) (C : Cr) : crFlat (L ++ [C]) = crFlat L ++ (crA C).toList := by simp [crFlat]
def rf9Flat (L : List (Int × Int)) : List Value := (L.map fun p => [Value.int .i64 p.1, Value.int .i64 p.2]).flatten
theorem rf9Flat_snoc (L : List (Int × Int)) (p : Int × Int) : rf9Flat (L ++ [p]) = rf9Flat L ++ [Value.int .i64 p.1, Value.int .i64 p.2] := by simp [rf9Flat]
theorem rec_info9 : (Try.prog.info? 58).map (fun i => (i.zero, i.size, i.bytes)) = some (some (.agg recZ), 15, 192) := by kernel_rfl
theorem ref_info9 : (Try.prog.info? 33).map (fun i => (i.zero, i.size, i.bytes)) = some (some (.agg #[.int .i64 0, .int .i64 0]), 2, 16) := by kernel_rfl
theorem cr_one (C : Cr) : ∀ u ∈ (crA C).toList, u.oneCell' = true := by
  intro u hu
  simp only [List.mem_cons, List.not_mem_nil, or_false] at hu
  rcases hu with rfl | rfl | rfl | rfl | rfl | rfl | rfl | rfl | rfl | rfl | rfl | rfl | rfl | rfl | rfl <;> rfl
theorem RecOwn.grown {w w' : World} {base : Nat} {R : Rc} {vr ve : Value} (h : RecOwn w base R vr ve) {b size n : Nat} {e : TypeId} {v : Value} {xs : List Value} (ho : w.ownsRow b e size v n xs) (h1 : 62 ≠ e) (h2 : 64 ≠ e) (hg : w.grownBy w' v.ownBlock) : RecOwn w' base R vr ve := by
  refine ⟨h.r.kept hg ?_, h.e.kept hg ?_⟩
  · cases hk : vr.ownBlock with
    | none => exact .inl rfl
    | some k => exact .inr (fun e' => own_own_ne h.r ho h1 k hk e'.symm)
  · cases hk : ve.ownBlock with
    | none => exact .inl rfl
    | some k => exact .inr (fun e' => own_own_ne h.e ho h2 k hk e'.symm)
theorem own_kept {w w' : World} {base size n base' size' n' : Nat} {e e' : TypeId} {v v' : Value} {xs xs' : List Value} (h : w.ownsRow base e size v n xs) (ho : w.ownsRow base' e' size' v' n' xs') (hne : e ≠ e') (hg : w.grownBy w' v'.ownBlock) : w'.ownsRow base e size v n xs := by
  refine h.kept hg ?_
  cases hk : v.ownBlock with
  | none => exact .inl rfl
  | some k => exact .inr (fun e' => own_own_ne h ho hne k hk e'.symm)
theorem Blk.there9 {w : World} {g n : Nat} {t : TypeId} {cs : Array Value} (h : Blk w g t cs) (hn : cs.size = n) : w.there g 0 n := by
  subst hn
  intro j hj
  refine ⟨?_, h.frozen _⟩
  rw [h.cell, Nat.zero_add, Array.getElem?_eq_getElem hj]
  rfl
theorem Blk.over9 {w : World} {g : Nat} {t : TypeId} {zs : Array Value} (h : Blk w g t zs) (vs : List Value) (hz : zs.size = vs.length) : Blk (w.setCells g 0 vs) g t vs.toArray ∧ Fr (only g) w (w.setCells g 0 vs) := by
  refine ⟨?_, Fr.setCells _ _ _ (Fr.refl _ _) (.inl rfl)⟩
  have h := Blk.setCells vs 0 _ _ h
  have e : setA zs 0 vs = vs.toArray := by
    apply Array.ext_getElem?
    intro k
    rcases Nat.lt_or_ge k vs.length with h1 | h1
    · have := setA_in vs zs 0 k vs[k] (List.getElem?_eq_getElem h1) (by omega)
      rw [Nat.zero_add] at this
      rw [this, List.getElem?_toArray, List.getElem?_eq_getElem h1]
    · rw [Array.getElem?_eq_none (by rw [setA_size]; omega), Array.getElem?_eq_none (by simpa using h1)]
  rwa [e] at h
theorem reads_blk9 {w : World} {t : TypeId} {cs : List Value} {b : Nat} (h : Blk w b t cs.toArray) : Reads w cs.length (some ⟨b, 0, none⟩) 1 cs :=
  ⟨by simp, fun _ => ⟨_, rfl, fun j u hu => by rw [add_lit, Nat.zero_add]; exact h.cell' (by simpa using hu)⟩⟩
/-- What the loop holds. -/
structure Ch9 (w : World) (bx b : Nat) (cx cb : Array Value) (vl : Value) (nl : Nat) (xl : List Value) (vr : Value) (nr : Nat) (xr : List Value) (Cs : List Cr) (wr : World) : Prop where
  l : wr.ownsRow w.heap.size 58 15 vl nl xl
  r : wr.ownsRow w.heap.size 33 2 vr nr xr
  nl : ∀ k, vl.ownBlock = some k → k ≠ b
  nr : ∀ k, vr.ownBlock = some k → k ≠ bx
  bx : Blk wr bx 33 cx
  bt : Blk wr b 58 cb
  own : ∀ C ∈ Cs, RecOwn wr 0 C.R (.slice C.A C.R.rows.length C.c) (.slice C.B C.R.ents.length C.d)
  f : Fr none_ w wr
section
variable {w wr w' : World} {bx b : Nat} {cx cb : Array Value} {vl : Value} {nl : Nat} {xl : List Value} {vr : Value} {nr : Nat} {xr : List Value} {Cs : List Cr}
theorem Ch9.keep (h : Ch9 w bx b cx cb vl nl xl vr nr xr Cs wr) (hf : Fr none_ wr w') : Ch9 w bx b cx cb vl nl xl vr nr xr Cs w' :=
  ⟨own_none h.l hf, own_none h.r hf, h.nl, h.nr, h.bx.fr hf id, h.bt.fr hf id, fun C hC => (h.own C hC).keep hf, h.f.then_none hf⟩
theorem Ch9.putL (h : Ch9 w bx b cx cb vl nl xl vr nr xr Cs wr) {v' : Value} {m : Nat} {ys : List Value} (ho : w'.ownsRow w.heap.size 58 15 v' (nl + m) (xl ++ ys)) (hg : wr.grownBy w' vl.ownBlock) (hat : v'.ownBlock = vl.ownBlock ∨ v'.ownBlock = some wr.heap.size) : Ch9 w bx b cx cb v' (nl + m) (xl ++ ys) vr nr xr Cs w' :=
  ⟨ho, own_kept h.r h.l (by decide) hg, fun k hk => by
      rcases hat with e | e
      · exact h.nl k (e ▸ hk)
      · have h1 := h.bt.lt
        have : wr.heap.size = k := Option.some.inj (e.symm.trans hk)
        omega, h.nr, h.bx.grown hg (fun e => own_blk_ne h.l h.bx (by decide) e.symm), h.bt.grown hg (fun e => h.nl b e.symm rfl), fun C hC => (h.own C hC).grown h.l (by decide) (by decide) hg, h.f.grown hg (fun k hk => .inr (h.l.lt k hk).1)⟩
theorem Ch9.putR (h : Ch9 w bx b cx cb vl nl xl vr nr xr Cs wr) {v' : Value} {m : Nat} {ys : List Value} (ho : w'.ownsRow w.heap.size 33 2 v' (nr + m) (xr ++ ys)) (hg : wr.grownBy w' vr.ownBlock) (hat : v'.ownBlock = vr.ownBlock ∨ v'.ownBlock = some wr.heap.size) : Ch9 w bx b cx cb vl nl xl v' (nr + m) (xr ++ ys) Cs w' :=
  ⟨own_kept h.l h.r (by decide) hg, ho, h.nl, fun k hk => by
      rcases hat with e | e
      · exact h.nr k (e ▸ hk)
      · have h1 := h.bx.lt
        have : wr.heap.size = k := Option.some.inj (e.symm.trans hk)
        omega, h.bx.grown hg (fun e => h.nr bx e.symm rfl), h.bt.grown hg (fun e => own_blk_ne h.r h.bt (by decide) e.symm), fun C hC => (h.own C hC).grown h.r (by decide) (by decide) hg, h.f.grown hg (fun k hk => .inr (h.r.lt k hk).1)⟩
end
/-- A slice's length, for the measure. -/
def lenOf : Value → Nat
  | .slice _ n _ => n
  | _ => 0
end Go.Proofs.Ytpjbncbmdfmlpaa
namespace Go.Proofs.Ytpjbncbmdfmlpaa
open Go.RowKit
set_option linter.unusedVariables false

def errOf (k : Int) : Value := if k = 0 then .nilIface else errV k
theorem errOf_pos {k : Int} (h : k ≠ 0) : errOf k = errV k := if_neg h
end Go.Proofs.Ytpjbncbmdfmlpaa
namespace Go.Proofs.Ytpjbncbmdfmlpaa
open Go.RowKit
set_option maxRecDepth 100000
set_option linter.unusedVariables false

theorem fat_nil (p : ByteArray) (s : Int) (w : World) : Calls Try.prog 56 #[.string p, .int .i64 s, .nilIface] w fun e w' => e = .returned .nilIface ∧ w = w' := by
  go_enter Try.func56, Try.ntmps56
  go_wp2
  go_ret
  exact ⟨rfl, rfl⟩
abbrev sArena9 : ByteArray := ⟨#[97, 114, 101, 110, 97]⟩
theorem fat_err (p : ByteArray) (s k : Int) (w : World) : Calls Try.prog 56 #[.string p, .int .i64 s, errV k] w fun e w' => e = .returned (.iface 169 (.pointer (some ⟨w.heap.size, 0, none⟩))) ∧ Blk w' w.heap.size 171 #[.string p, .int .i64 s, errV k] ∧ Fr none_ w w' := by
  go_enter Try.func56, Try.ntmps56
  go_wp2
  go_ret
  exact ⟨rfl, Blk.new w _ _, (Fr.refl none_ w).alloc _⟩
abbrev sTable9 : ByteArray := ⟨#[116, 97, 98, 108, 101]⟩
/-- What the table tells of a page. -/
def pgC (ps : List Pg) (n : Int) : Int := if n < 0 ∨ (ps.length : Int) ≤ n then 1 else if (ps[n.toNat]?.map (·.1)).getD false = true then 0 else 6
theorem head_bad {T H : Nat} {ps : List Pg} (n : Int) (w : World) (h : Tbl w T H ps) (hb : pgC ps n ≠ 0) : Calls Try.prog 80 #[.pointer (some ⟨T, 0, none⟩), .int .i64 n] w fun e w' => e = .returned (.tuple #[.agg #[.int .i64 0, .int .i64 0], errV (pgC ps n)]) ∧ Fr none_ w w' := by
  by_cases h1 : n < 0 ∨ (ps.length : Int) ≤ n
  · have e : pgC ps n = 1 := if_pos h1
    rw [e]
    exact head_err (some ⟨T, 0, none⟩) n 1 w (fun w' hf => mapAt_arg T H ps n w' (h.keep hf) h1)
  · obtain ⟨i, rfl⟩ : ∃ i : Nat, n = (i : Int) := ⟨n.toNat, by omega⟩
    obtain ⟨⟨u, s, g⟩, hp⟩ : ∃ p, ps[i]? = some p := ⟨_, List.getElem?_eq_getElem (by omega)⟩
    cases u with
    | true =>
      have e : pgC ps (i : Int) = 0 := by unfold pgC; rw [if_neg h1]; simp [hp]
      exact absurd e hb
    | false =>
      have e : pgC ps (i : Int) = 6 := by unfold pgC; rw [if_neg h1]; simp [hp]
      rw [e]
      exact head_err (some ⟨T, 0, none⟩) i 6 w (fun w' hf => mapAt_none T H ps i s g w' (h.keep hf) hp)
/-- What an access may turn: the memory's own blocks. -/
def mall (m : Nat) (x : St) : Nat → Prop := fun i => i = m ∨ i = x.G ∨ i = x.H ∨ i = x.C ∨ i = x.M
theorem mall_m {m : Nat} {x : St} {w w' : World} (h : Fr (only m) w w') : Fr (mall m x) w w' := h.mono (fun _ _ e => .inl e)
theorem tick_mm (m : Nat) (k : Int) (l : Lm) (x : St) (w : World) (h : Mm w m k l x) (h0 : 0 ≤ k) (h1 : k ≤ 100000) : Calls Try.prog 55 #[.pointer (some ⟨m, 0, none⟩)] w fun e w' => e = .returned (.tuple #[]) ∧ Mm w' m (k + 1) l x ∧ Fr (mall m x) w w' := by
  have c0 : w.cell? ⟨m, 0, none⟩ = some (.int .i64 k) := h.b.cell' rfl
  have y0 := h.b.frozen 0
  have H := hid_ h
  clear h
  go_enter Try.func55, Try.ntmps55
  go_wp2
  exact bodyPost_end (v := .tuple #[]) (by simp [results, Try.results55, go_sem]) rfl ⟨rfl, H.out.count _, mall_m (Fr.only1 w ⟨m, 0, none⟩ _)⟩
theorem tick_mo (m : Nat) (k : Int) (l : Lm) (x : St) (w : World) (h : Mm w m k l x) (h0 : 0 ≤ k) (h1 : k ≤ 100000) : Calls Try.prog 55 #[.pointer (some ⟨m, 0, none⟩)] w fun e w' => e = .returned (.tuple #[]) ∧ Mm w' m (k + 1) l x ∧ Fr (only m) w w' := by
  have c0 : w.cell? ⟨m, 0, none⟩ = some (.int .i64 k) := h.b.cell' rfl
  have y0 := h.b.frozen 0
  have H := hid_ h
  clear h
  go_enter Try.func55, Try.ntmps55
  go_wp2
  exact bodyPost_end (v := .tuple #[]) (by simp [results, Try.results55, go_sem]) rfl ⟨rfl, H.out.count _, Fr.only1 w ⟨m, 0, none⟩ _⟩
/-- A box of the call's own was turned. -/
theorem Mm.ref {w w' : World} {m : Nat} {k : Int} {l : Lm} {x : St} {b : Nat} {cs : Array Value} (h : Mm w m k l x) (hb : Blk w b 33 cs) (hf : Fr (only b) w w') : Mm w' m k l x := by
  obtain ⟨cs', hG, _⟩ := h.ar.hG
  obtain ⟨cap, cur, hT0, hH, _⟩ := id h.tb
  exact ⟨h.b.fr hf (only_ne (Blk.ne_ h.b hb (by decide))), h.ar.beside hf hb (by decide) (by decide) (Blk.ne_ h.ar.hA hb (by decide)) (Blk.ne_ hG hb (by decide)), h.tb.fr hf (only_ne (Blk.ne_ hT0 hb (by decide))) (only_ne (Blk.ne_ hH hb (by decide))), h.ck.fr hf (only_ne (Blk.ne_ h.ck.hC hb (by decide))) (only_ne (h.ck.mne hb))⟩
theorem Mm.nref {w : World} {m : Nat} {k : Int} {l : Lm} {x : St} {b : Nat} {cs : Array Value} (h : Mm w m k l x) (hb : Blk w b 33 cs) : ¬ mall m x b := by
  obtain ⟨cs, hG, _⟩ := h.ar.hG
  obtain ⟨cap, cur, hT0, hH, _⟩ := id h.tb
  rintro (e | e | e | e | e)
  · exact Blk.ne_ hb h.b (by decide) e
  · exact Blk.ne_ hb hG (by decide) e
  · exact Blk.ne_ hb hH (by decide) e
  · exact Blk.ne_ hb h.ck.hC (by decide) e
  · exact h.ck.mne hb e.symm
theorem Mm.rec9 {w w' : World} {m : Nat} {k : Int} {l : Lm} {x : St} {b : Nat} {cs : Array Value} (h : Mm w m k l x) (hb : Blk w b 58 cs) (hf : Fr (only b) w w') : Mm w' m k l x := by
  obtain ⟨cs', hG, _⟩ := h.ar.hG
  obtain ⟨cap, cur, hT0, hH, _⟩ := id h.tb
  exact ⟨h.b.fr hf (only_ne (Blk.ne_ h.b hb (by decide))), h.ar.beside hf hb (by decide) (by decide) (Blk.ne_ h.ar.hA hb (by decide)) (Blk.ne_ hG hb (by decide)), h.tb.fr hf (only_ne (Blk.ne_ hT0 hb (by decide))) (only_ne (Blk.ne_ hH hb (by decide))), h.ck.fr hf (only_ne (Blk.ne_ h.ck.hC hb (by decide))) (only_ne (h.ck.mne hb))⟩
theorem at_live {ss : List Sl} {s g : Int} (h : atC ss s g = 0) : ∃ (j : Nat) (y : Sl), s = (j : Int) + 1 ∧ ss[j]? = some y ∧ y.used = true ∧ y.gen = g := by
  rcases atC_cases ss s g with ⟨h1, _⟩ | ⟨i, y, h1, h2, h3⟩
  · rw [h1] at h; cases h
  · rcases h3 with ⟨h3, _⟩ | ⟨_, h4, h5⟩
    · rw [h3] at h; cases h
    · exact ⟨i, y, h1, h2, h4, h5⟩
/-- An error as a memory tells it: none, or a fault round a code. -/
def Ev (w : World) (v : Value) (p : ByteArray) (s c : Int) : Prop :=
  (c = 0 ∧ v = .nilIface) ∨ (c ≠ 0 ∧ ∃ b, v = .iface 169 (.pointer (some ⟨b, 0, none⟩)) ∧ Blk w b 171 #[.string p, .int .i64 s, errV c])
theorem Ev.fr {w w' : World} {v : Value} {p : ByteArray} {s c : Int} {S : Nat → Prop} (h : Ev w v p s c) (hf : Fr S w w') (hS : ∀ b cs, Blk w b 171 cs → ¬ S b) : Ev w' v p s c := by
  rcases h with h | ⟨h, b, hv, hb⟩
  · exact .inl h
  · exact .inr ⟨h, b, hv, hb.fr hf (hS b _ hb)⟩
theorem Ev.keep {w w' : World} {v : Value} {p : ByteArray} {s c : Int} (h : Ev w v p s c) (hf : Fr none_ w w') : Ev w' v p s c := h.fr hf (fun _ _ _ => id)
theorem Ev.only {w w' : World} {v : Value} {p : ByteArray} {s c : Int} {g : Nat} {t : TypeId} {cs : Array Value} (h : Ev w v p s c) (hf : Fr (only g) w w') (hg : Blk w g t cs) (hne : 171 ≠ t) : Ev w' v p s c :=
  h.fr hf (fun b _ hb => only_ne (Blk.ne_ hb hg hne))
theorem fat_ev (p : ByteArray) (s k : Int) (w : World) : Calls Try.prog 56 #[.string p, .int .i64 s, errOf k] w fun e w' => ∃ v, e = .returned v ∧ Ev w' v p s k ∧ Fr none_ w w' := by
  by_cases h : k = 0
  · subst h
    exact (fat_nil p s w).mono fun e w' h => ⟨_, h.1, .inl ⟨rfl, rfl⟩, by rw [← h.2]; exact Fr.refl _ _⟩
  · rw [errOf_pos h]
    exact (fat_err p s k w).mono fun e w' hh => ⟨_, hh.1, .inr ⟨h, _, rfl, hh.2.1⟩, hh.2.2⟩
end Go.Proofs.Ytpjbncbmdfmlpaa
namespace Go.Proofs.Ytpjbncbmdfmlpaa
open Go.RowKit
set_option maxRecDepth 100000
set_option linter.unusedVariables false

theorem pgC_zero {ps : List Pg} {n : Int} (h : pgC ps n = 0) : ∃ (i : Nat) (s g : Int), n = (i : Int) ∧ ps[i]? = some (true, s, g) := by
  unfold pgC at h
  split at h
  · cases h
  · rename_i h1
    split at h
    · rename_i h2
      obtain ⟨⟨u, s, g⟩, hp⟩ : ∃ p, ps[n.toNat]? = some p := ⟨_, List.getElem?_eq_getElem (by omega)⟩
      rw [hp] at h2
      obtain rfl : u = true := by simpa using h2
      exact ⟨n.toNat, s, g, by omega, hp⟩
    · cases h
theorem pgC_used {ps : List Pg} {i : Nat} {s g : Int} (h : ps[i]? = some (true, s, g)) : pgC ps (i : Int) = 0 := by
  have hlt := (List.getElem?_eq_some_iff.1 h).1
  unfold pgC
  rw [if_neg (by omega)]
  simp [h]
def HeadR (ps : List Pg) (n s g c : Int) : Prop := (∃ i : Nat, n = (i : Int) ∧ ps[i]? = some (true, s, g) ∧ c = 0) ∨ (pgC ps n ≠ 0 ∧ s = 0 ∧ g = 0 ∧ c = pgC ps n)
theorem head_any {T H : Nat} {ps : List Pg} (n : Int) (w : World) (h : Tbl w T H ps) : Calls Try.prog 80 #[.pointer (some ⟨T, 0, none⟩), .int .i64 n] w fun e w' => ∃ s g c, e = .returned (.tuple #[.agg #[.int .i64 s, .int .i64 g], errOf c]) ∧ HeadR ps n s g c ∧ Fr none_ w w' := by
  by_cases hb : pgC ps n = 0
  · obtain ⟨i, s, g, rfl, hp⟩ := pgC_zero hb
    exact (head_ok T H ps i s g w h hp).mono fun e w' hh => ⟨s, g, 0, hh.1, .inl ⟨i, rfl, hp, rfl⟩, hh.2⟩
  · exact (head_bad n w h hb).mono fun e w' hh => ⟨0, 0, pgC ps n, by rw [errOf_pos hb]; exact hh.1, .inr ⟨hb, rfl, rfl, rfl⟩, hh.2⟩
def LoadR (ss : List Sl) (sl gn : Int) (R : Rc) (c : Int) : Prop :=
  (∃ (i : Nat) (s : Sl), sl = (i : Int) + 1 ∧ ss[i]? = some s ∧ s.used = true ∧ s.gen = gn ∧ c = 0 ∧ R = s.R) ∨ (atC ss sl gn ≠ 0 ∧ c = atC ss sl gn ∧ R = Rc.zero)
theorem load_any (sl gn : Int) {w : World} {a G : Nat} {last : Int} {ss : List Sl} (h : Ar w a G last ss) : Calls Try.prog 81 #[.pointer (some ⟨a, 0, none⟩), .agg #[.int .i64 sl, .int .i64 gn]] w fun e w' => ∃ R A c B d k, e = .returned (.tuple #[recV R (.slice A R.rows.length c) (.slice B R.ents.length d), errOf k]) ∧ LoadR ss sl gn R k ∧ RecOwn w' w.heap.size R (.slice A R.rows.length c) (.slice B R.ents.length d) ∧ Fr none_ w w' := by
  by_cases hb : atC ss sl gn = 0
  · obtain ⟨i, s, h1, h2, h3, h4⟩ := at_live hb
    refine (load_ok sl gn h h2 h1 h3 h4).mono ?_
    rintro e w' ⟨A, c, B, d, rfl, hO, hf⟩
    exact ⟨s.R, A, c, B, d, 0, rfl, .inl ⟨i, s, h1, h2, h3, h4, rfl, rfl⟩, hO, hf⟩
  · refine (load_bad sl gn h hb).mono ?_
    rintro e w' ⟨rfl, hf⟩
    exact ⟨Rc.zero, none, 0, none, 0, atC ss sl gn, by rw [errOf_pos hb]; rfl, .inr ⟨hb, rfl, rfl⟩, RecOwn.zero _ _, hf⟩
section
variable (m : Nat) (k : Int) (l : Lm) (x : St) (w : World)
theorem memHead_any (h : Mm w m k l x) (h0 : 0 ≤ k) (h1 : k ≤ 100000) (n : Int) : Calls Try.prog 49 #[.pointer (some ⟨m, 0, none⟩), .int .i64 n] w fun e w' => ∃ s g c v, e = .returned (.tuple #[.agg #[.int .i64 s, .int .i64 g], v]) ∧ HeadR x.ps n s g c ∧ Ev w' v sTable9 n c ∧ Mm w' m (k + 1) l x ∧ Fr (mall m x) w w' := by
  have H := hid_ (h.keep ((Fr.refl none_ w).alloc (.cells #[.int .i64 0, .int .i64 0] 33)))
  have hltm := h.b.lt
  have B0 := hid_ (Blk.new w 33 #[.int .i64 0, .int .i64 0])
  have F0 := hid_ ((Fr.refl none_ w).alloc (.cells #[.int .i64 0, .int .i64 0] 33))
  clear h
  go_enter Try.func49, Try.ntmps49
  go_wp2_with fail
  refine (tick_mm m k l x _ H.out h0 h1).mono ?_
  rintro e w1 ⟨rfl, hM1, hf1⟩
  have M1 := hid_ hM1
  have nB : ¬ mall m x w.heap.size := H.out.nref B0.out
  have B4 := hid_ (B0.out.fr hf1 nB)
  have F1 := hid_ ((F0.out.mono (fun _ _ e => e.elim)).trans (S' := mall m x) (S'' := mall m x) hf1 (fun _ _ => id) (fun _ _ => id) : Fr (mall m x) w w1)
  clear hM1 hf1 nB
  have c8 : w1.cell? ⟨m, 8, none⟩ = some (.pointer (some ⟨x.T, 0, none⟩)) := M1.out.b.cell' rfl
  go_wp2_with fail
  refine (head_any n _ M1.out.tb).mono ?_
  rintro e w2 ⟨s, g, c, rfl, hR, hf2⟩
  have R2 := hid_ hR
  clear hR
  replace M1 := hid_ (M1.out.keep hf2)
  replace F1 := hid_ (F1.out.then_none hf2)
  replace B4 := hid_ (B4.out.fr hf2 id)
  clear hf2 c8
  go_upto_region 5 with fail
  obtain ⟨w3, hw3⟩ : ∃ z, z = w2.alloc (.cells #[.int .i64 s, .int .i64 g] 33) := ⟨_, rfl⟩
  have fw3 : Fr none_ w2 w3 := by rw [hw3]; exact (Fr.refl none_ w2).alloc _
  have B6 : Hid (Blk w3 w2.heap.size 33 (#[.int .i64 s, .int .i64 g])) := hid_ (by rw [hw3]; exact Blk.new w2 _ _)
  replace M1 := hid_ (M1.out.keep fw3)
  replace F1 := hid_ (F1.out.then_none fw3)
  replace B4 := hid_ (B4.out.fr fw3 id)
  change Code.wp _ _ _ _ (w2.alloc (.cells #[.int .i64 s, .int .i64 g] 33))
  rw [← hw3]
  clear hw3 fw3
  have x0 : w3.cell? ⟨w2.heap.size, 0, none⟩ = some (.int .i64 s) := B6.out.cell' rfl
  have x1 : w3.cell? ⟨w2.heap.size, 1, none⟩ = some (.int .i64 g) := B6.out.cell' rfl
  have hS1 : (fun w' : World => Fr none_ w3 w') w3.drew := (Fr.refl none_ w3).drew
  refine wp_region_U (m := 4) (S := fun w' : World => Fr none_ w3 w') (by kernel_rfl) ?_
  refine wpAnyU_take2 (i := 0) (v := _) rfl (by kernel_rfl) (by kernel_rfl) (by kernel_rfl) (by kernel_rfl) (fun _ _ _ h => h) (.inl ⟨by kernel_rfl, fun w' hS => by have s_0 := cellFr x0 hS; have s_1 := cellFr x1 hS; go_simp; rfl⟩) hS1 ?_
  refine wpAnyU_take2 (i := 1) (v := _) rfl (by kernel_rfl) (by kernel_rfl) (by kernel_rfl) (by kernel_rfl) (fun _ _ _ h => h) (.inl ⟨by kernel_rfl, fun w' hS => by go_simp; rfl⟩) hS1 ?_
  refine wpAnyU_take2 (i := 2) (v := _) rfl (by kernel_rfl) (by kernel_rfl) (by kernel_rfl) (by kernel_rfl) (fun _ _ _ h => h) (.inl ⟨by kernel_rfl, fun w' hS => by go_simp; rfl⟩) hS1 ?_
  refine wpAnyU_oneW (i := 3) rfl (by kernel_rfl) (by kernel_rfl) ?_
  go_simp
  refine (fat_ev sTable9 n c _).mono ?_
  rintro e w4 ⟨v, rfl, hev, hf4⟩
  have fS4 := hS1.then_none hf4
  refine ⟨fS4, ?_⟩
  have E4 := hid_ hev
  replace M1 := hid_ (M1.out.keep fS4)
  replace F1 := hid_ (F1.out.then_none fS4)
  replace B4 := hid_ (B4.out.fr fS4 id)
  replace B6 := hid_ (B6.out.fr fS4 id)
  have y0 := B4.out.frozen 0
  have y1 := B4.out.frozen 1
  have z0 : w4.cell? ⟨w.heap.size, 0, none⟩ = some (.int .i64 0) := B4.out.cell' rfl
  have z1 : w4.cell? ⟨w.heap.size, 1, none⟩ = some (.int .i64 0) := B4.out.cell' rfl
  clear hS1 x0 x1 hev hf4 fS4
  refine wpAnyU_oneW (i := 4) rfl (by kernel_rfl) (by kernel_rfl) ?_
  go_simp
  clear y0 y1 z0 z1
  obtain ⟨qb, qf⟩ := box2 B4.out (.int .i64 s) (.int .i64 g)
  obtain ⟨w5, hw5⟩ : ∃ z, z = ((w4.setCell ⟨w.heap.size, 0, none⟩ (.int .i64 s)).setCell ⟨w.heap.size, 1, none⟩ (.int .i64 g)) := ⟨_, rfl⟩
  have qb2 : Blk w5 w.heap.size 33 #[.int .i64 s, .int .i64 g] := by rw [hw5]; exact qb
  have qf2 : Fr (only w.heap.size) w4 w5 := by rw [hw5]; exact qf
  rw [← hw5]
  clear hw5 qb qf
  have q0 := qb2.cell' (i := 0) rfl
  have q1 := qb2.cell' (i := 1) rfl
  refine wpAnyU_oneW (i := 5) rfl (by kernel_rfl) (by kernel_rfl) ?_
  go_simp
  refine wpAnyU_done (by kernel_rfl) ?_ _
  go_wp2_with fail
  refine bodyPost_ret (v := .tuple #[.agg #[.int .i64 s, .int .i64 g], v]) ?_ rfl ⟨s, g, c, v, rfl, R2.out, E4.out.only qf2 B4.out (by decide), M1.out.ref B4.out qf2, F1.out.then_only qf2 (.inr (Nat.le_refl _))⟩
  simp [results, Try.results49, go_sem, q0, q1]
set_option maxHeartbeats 4000000 in
theorem memLoad_any (h : Mm w m k l x) (h0 : 0 ≤ k) (h1 : k ≤ 100000) (sl gn : Int) :
    Calls Try.prog 51 #[.pointer (some ⟨m, 0, none⟩), .agg #[.int .i64 sl, .int .i64 gn]] w fun e w' => ∃ R A c B d kk v, e = .returned (.tuple #[recV R (.slice A R.rows.length c) (.slice B R.ents.length d), v]) ∧ LoadR x.ss sl gn R kk ∧ Ev w' v sArena9 sl kk ∧ Mm w' m (k + 1) l x ∧ RecOwn w' w.heap.size R (.slice A R.rows.length c) (.slice B R.ents.length d) ∧ Fr (mall m x) w w' := by
  obtain ⟨w0, hw0⟩ : ∃ z, z = (w.alloc (.cells #[.int .i64 sl, .int .i64 gn] 33)).alloc (.cells recZ 58) := ⟨_, rfl⟩
  have f0 : Fr none_ w w0 := by rw [hw0]; exact ((Fr.refl none_ w).alloc _).alloc _
  have B0 := hid_ (show Blk w0 w.heap.size 33 #[.int .i64 sl, .int .i64 gn] by rw [hw0]; exact (Blk.new w _ _).alloc _)
  have B1 := hid_ (show Blk w0 (w.heap.size + 1) 58 recZ by rw [hw0]; have := Blk.new (w.alloc (.cells #[.int .i64 sl, .int .i64 gn] 33)) 58 recZ; rwa [World.size_alloc] at this)
  have H := hid_ (h.keep f0)
  have F0 := hid_ f0
  clear h f0
  go_enter Try.func51, Try.ntmps51
  go_upto_region 1 with fail
  change Code.wp _ _ _ _ ((w.alloc (.cells #[.int .i64 sl, .int .i64 gn] 33)).alloc (.cells recZ 58))
  rw [← hw0]
  clear hw0
  go_wp2_with fail
  refine (tick_mo m k l x _ H.out h0 h1).mono ?_
  rintro e w1 ⟨rfl, hM1, hf1⟩
  have M1 := hid_ hM1
  have B4 := hid_ (B0.out.fr hf1 (only_ne (Blk.ne_ B0.out H.out.b (by decide))))
  have B5 := hid_ (B1.out.fr hf1 (only_ne (Blk.ne_ B1.out H.out.b (by decide))))
  have FO : Hid (Fr (only m) w w1) := hid_ ((F0.out.mono (fun _ _ e => e.elim)).trans (S' := only m) (S'' := only m) hf1 (fun _ _ => id) (fun _ _ => id))
  have F1 : Hid (Fr (mall m x) w w1) := hid_ (mall_m FO.out)
  have hszw := FO.out.size
  clear hM1 hf1
  have c7 : w1.cell? ⟨m, 7, none⟩ = some (.pointer (some ⟨x.a, 0, none⟩)) := M1.out.b.cell' rfl
  have x0 : w1.cell? ⟨w.heap.size, 0, none⟩ = some (.int .i64 sl) := B4.out.cell' rfl
  have x1 : w1.cell? ⟨w.heap.size, 1, none⟩ = some (.int .i64 gn) := B4.out.cell' rfl
  go_upto_region 4 with fail
  go_cut [6, 7] (fun u v wq => ∃ (b : Nat) (R : Rc) (A : Option Addr) (c : Nat) (B : Option Addr) (d : Nat) (kk : Int), u = .pointer (some ⟨b, 0, none⟩) ∧ v = errOf kk ∧ w1.heap.size ≤ b ∧ Blk wq b 58 (recA R (.slice A R.rows.length c) (.slice B R.ents.length d)) ∧ LoadR x.ss sl gn R kk ∧ RecOwn wq w1.heap.size R (.slice A R.rows.length c) (.slice B R.ents.length d) ∧ Fr none_ w1 wq)
  case first =>
    have hS1 : (fun w' : World => Fr none_ w1 w') w1.drew := (Fr.refl none_ w1).drew
    refine wp_region_U (m := 12) (S := fun w' : World => Fr none_ w1 w') (by kernel_rfl) ?_
    refine wpAnyU_take2 (i := 0) (v := _) rfl (by kernel_rfl) (by kernel_rfl) (by kernel_rfl) (by kernel_rfl) (fun _ _ _ h => h) (.inl ⟨by kernel_rfl, fun w' hS => by go_simp; rfl⟩) hS1 ?_
    refine wpAnyU_take2 (i := 1) (v := _) rfl (by kernel_rfl) (by kernel_rfl) (by kernel_rfl) (by kernel_rfl) (fun _ _ _ h => h) (.inl ⟨by kernel_rfl, fun w' hS => by go_simp; rfl⟩) hS1 ?_
    refine wpAnyU_take2 (i := 2) (v := _) rfl (by kernel_rfl) (by kernel_rfl) (by kernel_rfl) (by kernel_rfl) (fun _ _ _ h => h) (.inl ⟨by kernel_rfl, fun w' hS => by go_simp; rfl⟩) hS1 ?_
    refine wpAnyU_take2 (i := 3) (v := _) rfl (by kernel_rfl) (by kernel_rfl) (by kernel_rfl) (by kernel_rfl) (fun _ _ _ h => h) (.inl ⟨by kernel_rfl, fun w' hS => by have s_ := cellFr c7 hS; go_simp; rfl⟩) hS1 ?_
    refine wpAnyU_take2 (i := 4) (v := _) rfl (by kernel_rfl) (by kernel_rfl) (by kernel_rfl) (by kernel_rfl) (fun _ _ _ h => h) (.inl ⟨by kernel_rfl, fun w' hS => by have s_0 := cellFr x0 hS; have s_1 := cellFr x1 hS; go_simp; rfl⟩) hS1 ?_
    clear c7 x0 x1
    refine wpAnyU_two (i := 5) (j := 9) rfl rfl rfl rfl (by kernel_rfl) ?_ ?_
    · go_simp
      refine (load_any sl gn (M1.out.ar.keep ((Fr.refl none_ w1).drew))).mono ?_
      rintro e w3 ⟨R, A, c, B, d, kk, rfl, hR, hO3, hf3⟩
      have R3 := hid_ hR
      have O3 := hid_ (hO3.base (b' := w1.heap.size) ((Fr.refl none_ w1).drew).size)
      have fS := ((Fr.refl none_ w1).drew).then_none hf3
      refine ⟨fS, ?_⟩
      clear hR hO3 hf3 hS1
      have hb : w1.heap.size ≤ w3.heap.size := fS.size
      refine wpAnyU_take2 (i := 6) (v := _) rfl (by kernel_rfl) (by kernel_rfl) (by kernel_rfl) (by kernel_rfl) (fun _ _ _ h => h) (.inl ⟨by kernel_rfl, fun w' hS => by go_simp; rfl⟩) fS ?_
      refine wpAnyU_take2 (i := 7) (v := _) rfl (by kernel_rfl) (by kernel_rfl) (by kernel_rfl) (by kernel_rfl) (fun _ _ _ h => h) (.inl ⟨by kernel_rfl, fun w' hS => by go_simp; rfl⟩) fS ?_
      refine wpAnyU_take2 (i := 8) (v := _) rfl (by kernel_rfl) (by kernel_rfl) (by kernel_rfl) (by kernel_rfl) (fun _ _ _ h => h) (.inl ⟨by kernel_rfl, fun w' hS => by go_simp; rfl⟩) fS ?_
      refine wpAnyU_oneW (i := 9) rfl (by kernel_rfl) (by kernel_rfl) ?_
      go_simp
      refine ⟨fS.alloc _, ?_⟩
      obtain ⟨w4, hw4⟩ : ∃ z, z = w3.alloc (.cells recZ 58) := ⟨_, rfl⟩
      have f4 : Fr none_ w3 w4 := by rw [hw4]; exact (Fr.refl none_ w3).alloc _
      have BA := hid_ (show Blk w4 w3.heap.size 58 recZ by rw [hw4]; exact Blk.new w3 _ _)
      replace O3 := hid_ (O3.out.keep f4)
      replace fS := fS.then_none f4
      change wpAnyU _ _ _ _ _ _ _ _ _ (w3.alloc (.cells recZ 58))
      rw [← hw4]
      clear hw4 f4
      refine wpAnyU_oneW (i := 10) rfl (by kernel_rfl) (by kernel_rfl) ?_
      refine wp_store_mid 58 (.tmp 6) (.tmp 23) rfl w3.heap.size 0 (recA R (.slice A R.rows.length c) (.slice B R.ents.length d)) rfl rfl (BA.out.there9 rfl) rec_size (by simp [Value.oneCell']) ?_
      obtain ⟨w5, hw5⟩ : ∃ z, z = w4.setCells (w3.heap.size) 0 (recA R (.slice A R.rows.length c) (.slice B R.ents.length d)).toList := ⟨_, rfl⟩
      have ov := BA.out.over9 (recA R (.slice A R.rows.length c) (.slice B R.ents.length d)).toList rfl
      rw [← hw5] at ov
      have fS5 := fS.then_only ov.2 (.inr hb)
      have O5 := hid_ (O3.out.only ov.2 BA.out (by decide) (by decide))
      have Q5 := hid_ (show Blk w5 (w3.heap.size) 58 (recA R (.slice A R.rows.length c) (.slice B R.ents.length d)) from ov.1)
      refine ⟨.inr (by rw [← hw5]; exact fS5), ?_⟩
      change wpAnyU _ _ _ _ _ _ _ _ _ (w4.setCells (w3.heap.size) 0 (recA R (.slice A R.rows.length c) (.slice B R.ents.length d)).toList)
      rw [← hw5]
      clear hw5 ov
      refine wpAnyU_take2 (i := 11) (v := _) rfl (by kernel_rfl) (by kernel_rfl) (by kernel_rfl) (by kernel_rfl) (fun _ _ _ h => h) (.inl ⟨by kernel_rfl, fun w' hS => by go_simp; rfl⟩) fS5 ?_
      refine wpAnyU_done (by kernel_rfl) ?_ _
      go_wp2_with fail
      go_meet
      exact ⟨_, R, A, c, B, d, kk, rfl, rfl, hb, Q5.out, R3.out, O5.out, fS5⟩
    · go_simp
      refine ⟨((Fr.refl none_ w1).alloc _).drew, ?_⟩
      obtain ⟨w2, hw2⟩ : ∃ z, z = (w1.alloc (.cells recZ 58)).drew := ⟨_, rfl⟩
      have f2 : Fr none_ w1 w2 := by rw [hw2]; exact ((Fr.refl none_ w1).alloc _).drew
      have BA := hid_ (show Blk w2 w1.heap.size 58 recZ by rw [hw2]; exact (Blk.new w1 _ _).drew)
      change wpAnyU _ _ _ _ _ _ _ _ _ ((w1.alloc (.cells recZ 58)).drew)
      rw [← hw2]
      clear hw2 hS1
      refine wpAnyU_oneW (i := 5) rfl (by kernel_rfl) (by kernel_rfl) ?_
      go_simp
      refine (load_any sl gn (M1.out.ar.keep (f2))).mono ?_
      rintro e w3 ⟨R, A, c, B, d, kk, rfl, hR, hO3, hf3⟩
      have R3 := hid_ hR
      have O3 := hid_ (hO3.base (b' := w1.heap.size) (f2).size)
      have fS := (f2).then_none hf3
      refine ⟨fS, ?_⟩
      have hb : w1.heap.size ≤ w1.heap.size := Nat.le_refl _
      replace BA := hid_ (BA.out.fr hf3 id)
      clear hR hO3 hf3 f2
      refine wpAnyU_take2 (i := 6) (v := _) rfl (by kernel_rfl) (by kernel_rfl) (by kernel_rfl) (by kernel_rfl) (fun _ _ _ h => h) (.inl ⟨by kernel_rfl, fun w' hS => by go_simp; rfl⟩) fS ?_
      refine wpAnyU_take2 (i := 7) (v := _) rfl (by kernel_rfl) (by kernel_rfl) (by kernel_rfl) (by kernel_rfl) (fun _ _ _ h => h) (.inl ⟨by kernel_rfl, fun w' hS => by go_simp; rfl⟩) fS ?_
      refine wpAnyU_take2 (i := 8) (v := _) rfl (by kernel_rfl) (by kernel_rfl) (by kernel_rfl) (by kernel_rfl) (fun _ _ _ h => h) (.inl ⟨by kernel_rfl, fun w' hS => by go_simp; rfl⟩) fS ?_
      refine wpAnyU_oneW (i := 10) rfl (by kernel_rfl) (by kernel_rfl) ?_
      refine wp_store_mid 58 (.tmp 6) (.tmp 23) rfl w1.heap.size 0 (recA R (.slice A R.rows.length c) (.slice B R.ents.length d)) rfl rfl (BA.out.there9 rfl) rec_size (by simp [Value.oneCell']) ?_
      obtain ⟨w5, hw5⟩ : ∃ z, z = w3.setCells (w1.heap.size) 0 (recA R (.slice A R.rows.length c) (.slice B R.ents.length d)).toList := ⟨_, rfl⟩
      have ov := BA.out.over9 (recA R (.slice A R.rows.length c) (.slice B R.ents.length d)).toList rfl
      rw [← hw5] at ov
      have fS5 := fS.then_only ov.2 (.inr hb)
      have O5 := hid_ (O3.out.only ov.2 BA.out (by decide) (by decide))
      have Q5 := hid_ (show Blk w5 (w1.heap.size) 58 (recA R (.slice A R.rows.length c) (.slice B R.ents.length d)) from ov.1)
      refine ⟨.inr (by rw [← hw5]; exact fS5), ?_⟩
      change wpAnyU _ _ _ _ _ _ _ _ _ (w3.setCells (w1.heap.size) 0 (recA R (.slice A R.rows.length c) (.slice B R.ents.length d)).toList)
      rw [← hw5]
      clear hw5 ov
      refine wpAnyU_take2 (i := 11) (v := _) rfl (by kernel_rfl) (by kernel_rfl) (by kernel_rfl) (by kernel_rfl) (fun _ _ _ h => h) (.inl ⟨by kernel_rfl, fun w' hS => by go_simp; rfl⟩) fS5 ?_
      refine wpAnyU_done (by kernel_rfl) ?_ _
      go_wp2_with fail
      go_meet
      exact ⟨_, R, A, c, B, d, kk, rfl, rfl, hb, Q5.out, R3.out, O5.out, fS5⟩
  case rest =>
    obtain ⟨b, R, A, c, B, d, kk, rfl, rfl, hb, hbb, hR, hO, hf⟩ := hcut
    have R6 := hid_ hR
    have M6 := hid_ (M1.out.keep hf)
    have O6 := hid_ hO
    have B6 := hid_ hbb
    have F6 := hid_ (F1.out.then_none hf)
    have B7 := hid_ (B5.out.fr hf id)
    have B8 := hid_ (B4.out.fr hf id)
    clear hO hbb hf hR
    go_upto_region 5 with fail
    have hS1 : (fun w' : World => Fr none_ wc w') wc.drew := (Fr.refl none_ wc).drew
    refine wp_region_U (m := 5) (S := fun w' : World => Fr none_ wc w') (by kernel_rfl) ?_
    refine wpAnyU_take2 (i := 0) (v := _) rfl (by kernel_rfl) (by kernel_rfl) (by kernel_rfl) (by kernel_rfl) (fun _ _ _ h => h) (.inl ⟨by kernel_rfl, fun w' hS => by have s_0 : w'.cell? ⟨b, 0, none⟩ = some (.int .i64 R.kind) := cellFr (B6.out.cell' rfl) hS; have s_1 : w'.cell? ⟨b, 1, none⟩ = some (.string R.low) := cellFr (B6.out.cell' rfl) hS; have s_2 : w'.cell? ⟨b, 2, none⟩ = some (.string R.high) := cellFr (B6.out.cell' rfl) hS; have s_3 : w'.cell? ⟨b, 3, none⟩ = some (.bool R.unb) := cellFr (B6.out.cell' rfl) hS; have s_4 : w'.cell? ⟨b, 4, none⟩ = some (.int .i64 R.right) := cellFr (B6.out.cell' rfl) hS; have s_5 : w'.cell? ⟨b, 5, none⟩ = some (.slice A R.rows.length c) := cellFr (B6.out.cell' rfl) hS; have s_6 : w'.cell? ⟨b, 6, none⟩ = some (.slice B R.ents.length d) := cellFr (B6.out.cell' rfl) hS; have s_7 : w'.cell? ⟨b, 7, none⟩ = some (.string R.key) := cellFr (B6.out.cell' rfl) hS; have s_8 : w'.cell? ⟨b, 8, none⟩ = some (.string R.val) := cellFr (B6.out.cell' rfl) hS; have s_9 : w'.cell? ⟨b, 9, none⟩ = some (.int .i64 R.page) := cellFr (B6.out.cell' rfl) hS; have s_10 : w'.cell? ⟨b, 10, none⟩ = some (.int .i64 R.hpage) := cellFr (B6.out.cell' rfl) hS; have s_11 : w'.cell? ⟨b, 11, none⟩ = some (.int .i64 R.hleft) := cellFr (B6.out.cell' rfl) hS; have s_12 : w'.cell? ⟨b, 12, none⟩ = some (.string R.hkey) := cellFr (B6.out.cell' rfl) hS; have s_13 : w'.cell? ⟨b, 13, none⟩ = some (.int .i64 R.nslot) := cellFr (B6.out.cell' rfl) hS; have s_14 : w'.cell? ⟨b, 14, none⟩ = some (.int .i64 R.ngen) := cellFr (B6.out.cell' rfl) hS; go_simp; rfl⟩) hS1 ?_
    refine wpAnyU_take2 (i := 1) (v := _) rfl (by kernel_rfl) (by kernel_rfl) (by kernel_rfl) (by kernel_rfl) (fun _ _ _ h => h) (.inl ⟨by kernel_rfl, fun w' hS => by go_simp; rfl⟩) hS1 ?_
    refine wpAnyU_take2 (i := 2) (v := _) rfl (by kernel_rfl) (by kernel_rfl) (by kernel_rfl) (by kernel_rfl) (fun _ _ _ h => h) (.inl ⟨by kernel_rfl, fun w' hS => by have s_ : w'.cell? ⟨w.heap.size, 0, none⟩ = some (.int .i64 sl) := cellFr (B8.out.cell' rfl) hS; go_simp; rfl⟩) hS1 ?_
    refine wpAnyU_take2 (i := 3) (v := _) rfl (by kernel_rfl) (by kernel_rfl) (by kernel_rfl) (by kernel_rfl) (fun _ _ _ h => h) (.inl ⟨by kernel_rfl, fun w' hS => by go_simp; rfl⟩) hS1 ?_
    refine wpAnyU_oneW (i := 4) rfl (by kernel_rfl) (by kernel_rfl) ?_
    go_simp
    refine (fat_ev sArena9 sl kk _).mono ?_
    rintro e w4 ⟨v, rfl, hev, hf4⟩
    have fS4 := hS1.then_none hf4
    refine ⟨fS4, ?_⟩
    have E4 := hid_ hev
    replace M6 := hid_ (M6.out.keep fS4)
    replace F6 := hid_ (F6.out.then_none fS4)
    replace B7 := hid_ (B7.out.fr fS4 id)
    replace O6 := hid_ (O6.out.keep fS4)
    clear hev hf4 fS4
    refine wpAnyU_oneW (i := 5) rfl (by kernel_rfl) (by kernel_rfl) ?_
    refine wp_store_mid 58 (.tmp 4) (.tmp 25) rfl (w.heap.size + 1) 0 (recA R (.slice A R.rows.length c) (.slice B R.ents.length d)) rfl rfl (B7.out.there9 rfl) rec_size (by simp [Value.oneCell']) ?_
    obtain ⟨w5, hw5⟩ : ∃ z, z = w4.setCells (w.heap.size + 1) 0 (recA R (.slice A R.rows.length c) (.slice B R.ents.length d)).toList := ⟨_, rfl⟩
    have ov := B7.out.over9 (recA R (.slice A R.rows.length c) (.slice B R.ents.length d)).toList rfl
    rw [← hw5] at ov
    have qb2 : Blk w5 (w.heap.size + 1) 58 (recA R (.slice A R.rows.length c) (.slice B R.ents.length d)) := ov.1
    have qf2 : Fr (only (w.heap.size + 1)) w4 w5 := ov.2
    refine ⟨.inl (by decide), ?_⟩
    change wpAnyU _ _ _ _ _ _ _ _ _ (w4.setCells (w.heap.size + 1) 0 (recA R (.slice A R.rows.length c) (.slice B R.ents.length d)).toList)
    rw [← hw5]
    clear hw5 ov hS1
    refine wpAnyU_oneW (i := 6) rfl (by kernel_rfl) (by kernel_rfl) ?_
    go_simp
    refine wpAnyU_done (by kernel_rfl) ?_ _
    go_wp2_with fail
    have q0 := qb2.cell' (i := 0) rfl
    have q1 := qb2.cell' (i := 1) rfl
    have q2 := qb2.cell' (i := 2) rfl
    have q3 := qb2.cell' (i := 3) rfl
    have q4 := qb2.cell' (i := 4) rfl
    have q5 := qb2.cell' (i := 5) rfl
    have q6 := qb2.cell' (i := 6) rfl
    have q7 := qb2.cell' (i := 7) rfl
    have q8 := qb2.cell' (i := 8) rfl
    have q9 := qb2.cell' (i := 9) rfl
    have q10 := qb2.cell' (i := 10) rfl
    have q11 := qb2.cell' (i := 11) rfl
    have q12 := qb2.cell' (i := 12) rfl
    have q13 := qb2.cell' (i := 13) rfl
    have q14 := qb2.cell' (i := 14) rfl
    refine bodyPost_ret (v := .tuple #[recV R (.slice A R.rows.length c) (.slice B R.ents.length d), v]) ?_ rfl ⟨R, A, c, B, d, kk, v, rfl, R6.out, E4.out.only qf2 B7.out (by decide), M6.out.rec9 B7.out qf2, (O6.out.only qf2 B7.out (by decide) (by decide)).base hszw, F6.out.then_only qf2 (.inr (by omega))⟩
    simp [results, Try.results51, go_sem, q0, q1, q2, q3, q4, q5, q6, q7, q8, q9, q10, q11, q12, q13, q14]
end
end Go.Proofs.Ytpjbncbmdfmlpaa
namespace Go.Proofs.Ytpjbncbmdfmlpaa
open Go.RowKit Go.BigFrame
set_option maxRecDepth 100000
set_option linter.unusedVariables false

/-- What a loader holds. -/
structure LdS where
  n : Int
  begun : Bool
  over : Bool
  hs : Int
  hg : Int
  ns : Int
  ng : Int
  A : Option Addr
  c : Nat
  L : List Cr
  B : Option Addr
  e : Nat
  refs : List (Int × Int)
  ve : Value
abbrev ldA (s : LdS) : Array Value := #[.int .i64 s.n, .bool s.begun, .bool s.over, .int .i64 s.hs, .int .i64 s.hg, .int .i64 s.ns, .int .i64 s.ng, .slice s.A s.L.length s.c, .slice s.B s.refs.length s.e, s.ve]
abbrev LdS.new (n : Int) : LdS := ⟨n, false, false, 0, 0, 0, 0, none, 0, [], none, 0, [], .nilIface⟩
structure Ldr (b0 : Nat) (w : World) (g : Nat) (s : LdS) : Prop where
  b : Blk w g 114 (ldA s)
  lb : b0 ≤ g
  l : w.ownsRow b0 58 15 (.slice s.A s.L.length s.c) s.L.length (crFlat s.L)
  r : w.ownsRow b0 33 2 (.slice s.B s.refs.length s.e) s.refs.length (rf9Flat s.refs)
  own : ∀ C ∈ s.L, RecOwn w b0 C.R (.slice C.A C.R.rows.length C.c) (.slice C.B C.R.ents.length C.d)
theorem Ldr.fr {b0 g : Nat} {w w' : World} {s : LdS} {S : Nat → Prop} (h : Ldr b0 w g s) (hf : Fr S w w') (hS : ∀ i, S i → i < b0) : Ldr b0 w' g s :=
  ⟨h.b.fr hf (fun e => by have := hS g e; have := h.lb; omega), h.lb,
   own_fr h.l hf (fun k hk e => by have := hS k e; have := (h.l.lt k hk).1; omega),
   own_fr h.r hf (fun k hk e => by have := hS k e; have := (h.r.lt k hk).1; omega),
   fun C hC => (h.own C hC).fr hf (fun k hk e => by have := hS k e; have := ((h.own C hC).r.lt k hk).1; omega) (fun k hk e => by have := hS k e; have := ((h.own C hC).e.lt k hk).1; omega)⟩
theorem Ldr.keep {b0 g : Nat} {w w' : World} {s : LdS} (h : Ldr b0 w g s) (hf : Fr none_ w w') : Ldr b0 w' g s := h.fr hf (fun _ e => e.elim)
/-- The loader's own block alone was turned. -/
theorem Ldr.upd {b0 g : Nat} {w w' : World} {s s' : LdS} (h : Ldr b0 w g s) (hb : Blk w' g 114 (ldA s')) (hf : Fr (only g) w w') (e : (s'.A, s'.c, s'.L, s'.B, s'.e, s'.refs) = (s.A, s.c, s.L, s.B, s.e, s.refs)) : Ldr b0 w' g s' := by
  obtain ⟨n', bg', ov', hs', hg', ns', ng', A', c', L', B', e', refs', ve'⟩ := s'
  obtain ⟨n, bg, ov, hs, hg, ns, ng, A, c, L, B, e0, refs, ve⟩ := s
  simp only [Prod.mk.injEq] at e
  obtain ⟨rfl, rfl, rfl, rfl, rfl, rfl⟩ := e
  have hl := h.l
  have hr := h.r
  have ho := h.own
  exact ⟨hb, h.lb, own_fr hl hf (fun k hk e => own_blk_ne hl h.b (by decide) (by rw [hk, show k = g from e])), own_fr hr hf (fun k hk e => own_blk_ne hr h.b (by decide) (by rw [hk, show k = g from e])), fun C hC => (ho C hC).only hf h.b (by decide) (by decide)⟩
/-- A loader's block was turned: a memory is as it was. -/
theorem Mm.ldr {w w' : World} {m : Nat} {k : Int} {l : Lm} {x : St} {b : Nat} {cs : Array Value} (h : Mm w m k l x) (hb : Blk w b 114 cs) (hf : Fr (only b) w w') : Mm w' m k l x := by
  obtain ⟨cs', hG, _⟩ := h.ar.hG
  obtain ⟨cap, cur, hT0, hH, _⟩ := id h.tb
  exact ⟨h.b.fr hf (only_ne (Blk.ne_ h.b hb (by decide))), h.ar.beside hf hb (by decide) (by decide) (Blk.ne_ h.ar.hA hb (by decide)) (Blk.ne_ hG hb (by decide)), h.tb.fr hf (only_ne (Blk.ne_ hT0 hb (by decide))) (only_ne (Blk.ne_ hH hb (by decide))), h.ck.fr hf (only_ne (Blk.ne_ h.ck.hC hb (by decide))) (only_ne (h.ck.mne hb))⟩
/-- An own row of records, or of refs, has grown: a memory is as it was. -/
theorem Mm.grown {w w' : World} {m : Nat} {k : Int} {l : Lm} {x : St} {base size n : Nat} {e : TypeId} {v : Value} {xs : List Value} (h : Mm w m k l x) (ho : w.ownsRow base e size v n xs) (he : e = 58 ∨ e = 33) (hg : w.grownBy w' v.ownBlock) : Mm w' m k l x := by
  obtain ⟨cs', hG, hc⟩ := h.ar.hG
  obtain ⟨cap, cur, hT0, hH, _⟩ := id h.tb
  have hf : Fr (fun b => v.ownBlock = some b) w w' := Fr.grown (Fr.refl _ _) hg (fun k hk => .inl hk)
  have hM : ¬ v.ownBlock = some x.M := by
    rcases ho.2 with ⟨rfl, _⟩ | ⟨g', cap, cur, rfl, _, hh, _⟩
    · simp [Value.ownBlock]
    · intro e'
      have e2 : g' = x.M := by simpa [Value.ownBlock] using e'
      exact h.ck.mne (show Blk w g' e _ from hh) e2.symm
  have n1 : e ≠ 108 := by rcases he with rfl | rfl <;> decide
  have n2 : e ≠ 149 := by rcases he with rfl | rfl <;> decide
  have n3 : e ≠ 158 := by rcases he with rfl | rfl <;> decide
  have n4 : 62 ≠ e := by rcases he with rfl | rfl <;> decide
  have n5 : 64 ≠ e := by rcases he with rfl | rfl <;> decide
  exact ⟨h.b.fr hf (own_blk_ne ho h.b n1), ⟨h.ar.hA.fr hf (own_blk_ne ho h.ar.hA n2), ⟨cs', hG.fr hf (own_blk_ne ho hG n3), hc⟩, fun i s hs => (h.ar.own i s hs).grown ho n4 n5 hg, h.ar.l40, h.ar.len, h.ar.gen, h.ar.sz⟩,
    h.tb.fr hf (own_blk_ne ho hT0 (by rcases he with rfl | rfl <;> decide)) (own_blk_ne ho hH (by rcases he with rfl | rfl <;> decide)), h.ck.fr hf (own_blk_ne ho h.ck.hC (by rcases he with rfl | rfl <;> decide)) hM⟩
/-- What an access of a memory turns, and what a loader turns. -/
def lall (m : Nat) (x : St) (b0 : Nat) : Nat → Prop := fun i => mall m x i ∨ b0 ≤ i
theorem ldBegin_ok (n : Int) (w : World) : Calls Try.prog 14 #[.int .i64 n] w fun e w' => e = .returned (.pointer (some ⟨w.heap.size, 0, none⟩)) ∧ Ldr w.heap.size w' w.heap.size (LdS.new n) ∧ Fr none_ w w' := by
  go_enter Try.func14, Try.ntmps14
  go_wp2
  go_ret
  exact ⟨rfl, ⟨Blk.new w _ _, Nat.le_refl _, World.ownsRow_nil _ _ _ _, World.ownsRow_nil _ _ _ _, fun C hC => by cases hC⟩, (Fr.refl none_ w).alloc _⟩
theorem ldOver_ok {b0 g : Nat} {w : World} {s : LdS} (h : Ldr b0 w g s) : Calls Try.prog 16 #[.pointer (some ⟨g, 0, none⟩)] w fun e w' => e = .returned (.bool s.over) ∧ w = w' := by
  have c2 : w.cell? ⟨g, 2, none⟩ = some (.bool s.over) := h.b.cell' rfl
  clear h
  go_enter Try.func16, Try.ntmps16
  go_wp2
  go_ret
  exact ⟨rfl, rfl⟩
theorem ldStop_ok {b0 g : Nat} {w : World} {s : LdS} (v : Value) (hv : v = .nilIface ∨ ∃ t u, v = .iface t u) (h : Ldr b0 w g s) : Calls Try.prog 50 #[.pointer (some ⟨g, 0, none⟩), v] w fun e w' => e = .returned (.bool true) ∧ Ldr b0 w' g { s with over := true, ve := v } ∧ Fr (only g) w w' := by
  have H := hid_ h
  have c2 : w.cell? ⟨g, 2, none⟩ = some (.bool s.over) := h.b.cell' rfl
  have c9 : w.cell? ⟨g, 9, none⟩ = some s.ve := h.b.cell' rfl
  have y2 := h.b.frozen 2
  have y9 := h.b.frozen 9
  have hs0 := h.b.lt
  clear h
  go_enter Try.func50, Try.ntmps50
  rcases hv with rfl | ⟨t, u, rfl⟩
  · go_wp2
    go_ret
    have b1 := (H.out.b.set_ 2 (.bool true)).set_ 9 .nilIface
    have f1 : Fr (only g) w ((w.setCell ⟨g, 2, none⟩ (.bool true)).setCell ⟨g, 9, none⟩ .nilIface) := Fr.setCell (p := ⟨g, 9, none⟩) (Fr.only1 w ⟨g, 2, none⟩ _) (.inl rfl) _
    exact ⟨rfl, H.out.upd b1 f1 rfl, f1⟩
  · go_wp2
    go_ret
    have b1 := (H.out.b.set_ 2 (.bool true)).set_ 9 (.iface t u)
    have f1 : Fr (only g) w ((w.setCell ⟨g, 2, none⟩ (.bool true)).setCell ⟨g, 9, none⟩ (.iface t u)) := Fr.setCell (p := ⟨g, 9, none⟩) (Fr.only1 w ⟨g, 2, none⟩ _) (.inl rfl) _
    exact ⟨rfl, H.out.upd b1 f1 rfl, f1⟩
end Go.Proofs.Ytpjbncbmdfmlpaa
namespace Go.Proofs.Ytpjbncbmdfmlpaa
open Go.RowKit Go.BigFrame
set_option maxRecDepth 100000
set_option linter.unusedVariables false

/-- What Step's first access tells. -/
def LdFirst (b0 g m : Nat) (k : Int) (l : Lm) (x : St) (s : LdS) (w : World) (e : Ending) (w' : World) : Prop :=
  ∃ (a b c : Int) (v : Value), HeadR x.ps s.n a b c ∧ Ev w' v sTable9 s.n c ∧ Mm w' m (k + 1) l x ∧ Fr (lall m x b0) w w' ∧
    ((c ≠ 0 ∧ e = .returned (.bool true) ∧ Ldr b0 w' g { s with over := true, ve := v }) ∨
     (c = 0 ∧ a = 0 ∧ b = 0 ∧ e = .returned (.bool true) ∧ Ldr b0 w' g { s with over := true, ve := errV 10 }) ∨
     (c = 0 ∧ ¬ (a = 0 ∧ b = 0) ∧ e = .returned (.bool false) ∧ Ldr b0 w' g { s with begun := true, hs := a, hg := b, ns := a, ng := b }))
set_option maxHeartbeats 4000000 in
theorem step_first {b0 g m : Nat} {k : Int} {l : Lm} {x : St} {w : World} {s : LdS} (h : Ldr b0 w g s) (hm : Mm w m k l x) (hb : ∀ i, mall m x i → i < b0) (h0 : 0 ≤ k) (h1 : k ≤ 100000) (ho : s.over = false) (hg : s.begun = false) :
    Calls Try.prog 17 #[.pointer (some ⟨g, 0, none⟩), .pointer (some ⟨m, 0, none⟩)] w (LdFirst b0 g m k l x s w) := by
  have H := hid_ h
  have HM := hid_ hm
  have HB := hid_ hb
  have HO := hid_ ho
  have c1 : w.cell? ⟨g, 1, none⟩ = some (.bool false) := by rw [← hg]; exact h.b.cell' rfl
  have c0 : w.cell? ⟨g, 0, none⟩ = some (.int .i64 s.n) := h.b.cell' rfl
  have hsg := h.b.lt
  have HG := hid_ hg
  clear h hm hb ho hg
  go_enter Try.func17, Try.ntmps17
  go_wp2_with fail
  refine (ldOver_ok H.out).mono ?_
  rintro e w' ⟨rfl, rfl⟩
  rw [HO.out]
  go_wp2_with fail
  refine (memHead_any m k l x _ HM.out h0 h1 s.n).mono ?_
  rintro e w1 ⟨a, b, c, v, rfl, hhd, hev, hmm, hf1⟩
  have HD := hid_ hhd
  have EV := hid_ hev
  replace H := hid_ (H.out.fr hf1 HB.out)
  replace HM := hid_ hmm
  have F1 := hid_ (hf1.mono (S' := lall m x b0) (fun i _ e => .inl e))
  have hsz1 := hf1.size
  clear hhd hev hmm hf1 c0 c1
  go_upto_region 5 with fail
  obtain ⟨w2, hw2⟩ : ∃ z, z = w1.alloc (.cells #[.int .i64 a, .int .i64 b] 33) := ⟨_, rfl⟩
  have f2 : Fr none_ w1 w2 := by rw [hw2]; exact (Fr.refl none_ w1).alloc _
  have BR : Hid (Blk w2 w1.heap.size 33 #[.int .i64 a, .int .i64 b]) := hid_ (by rw [hw2]; exact Blk.new w1 _ _)
  change Code.wp _ _ _ _ (w1.alloc (.cells #[.int .i64 a, .int .i64 b] 33))
  rw [← hw2]
  clear hw2
  replace H := hid_ (H.out.keep f2)
  replace HM := hid_ (HM.out.keep f2)
  replace EV := hid_ (EV.out.keep f2)
  replace F1 := hid_ (F1.out.then_none f2)
  clear f2
  have hlb := H.out.lb
  have r0 : w2.cell? ⟨w1.heap.size, 0, none⟩ = some (.int .i64 a) := BR.out.cell' rfl
  have r1 : w2.cell? ⟨w1.heap.size, 1, none⟩ = some (.int .i64 b) := BR.out.cell' rfl
  have hgl : g < w1.heap.size := by omega
  have hq := eql_ref
  rcases EV.out with ⟨hc, rfl⟩ | ⟨hc, q, rfl, -⟩
  · have HC := hid_ hc
    clear hc
    by_cases hz : a = 0 ∧ b = 0
    · obtain ⟨rfl, rfl⟩ := hz
      go_wp2_with fail
      refine (ldStop_ok (errV 10) (.inr ⟨_, _, rfl⟩) H.out).mono ?_
      rintro e w3 ⟨rfl, hl3, hf3⟩
      go_wp2_with fail
      go_ret
      exact ⟨0, 0, c, .nilIface, HD.out, .inl ⟨HC.out, rfl⟩, HM.out.ldr H.out.b hf3, F1.out.then_only hf3 (.inl (.inr hlb)), .inr (.inl ⟨HC.out, rfl, rfl, rfl, hl3⟩)⟩
    · have hd : (a == 0 && b == 0) = false := by
        simp only [Bool.and_eq_false_iff, beq_eq_false_iff_ne]
        omega
      have HZ := hid_ hz
      clear hz
      have y1 := H.out.b.frozen 1
      have y3 := H.out.b.frozen 3
      have y4 := H.out.b.frozen 4
      have y5 := H.out.b.frozen 5
      have y6 := H.out.b.frozen 6
      have hsg2 := H.out.b.lt
      have g1 : w2.cell? ⟨g, 1, none⟩ = some (.bool s.begun) := H.out.b.cell' rfl
      have g3 : w2.cell? ⟨g, 3, none⟩ = some (.int .i64 s.hs) := H.out.b.cell' rfl
      have g4 : w2.cell? ⟨g, 4, none⟩ = some (.int .i64 s.hg) := H.out.b.cell' rfl
      have g5 : w2.cell? ⟨g, 5, none⟩ = some (.int .i64 s.ns) := H.out.b.cell' rfl
      have g6 : w2.cell? ⟨g, 6, none⟩ = some (.int .i64 s.ng) := H.out.b.cell' rfl
      go_wp2_with fail
      go_region
      have b3 := (((((H.out.b.set_ 1 (.bool true)).set_ 3 (.int .i64 a)).set_ 4 (.int .i64 b)).set_ 5 (.int .i64 a)).set_ 6 (.int .i64 b)).drew
      have f3 := (Fr.setCell (p := ⟨g, 6, none⟩) (Fr.setCell (p := ⟨g, 5, none⟩) (Fr.setCell (p := ⟨g, 4, none⟩) (Fr.setCell (p := ⟨g, 3, none⟩) (Fr.only1 w2 ⟨g, 1, none⟩ (.bool true)) (.inl rfl) (.int .i64 a)) (.inl rfl) (.int .i64 b)) (.inl rfl) (.int .i64 a)) (.inl rfl) (.int .i64 b)).drew
      obtain ⟨w3, hw3⟩ : ∃ z, z = (((((w2.setCell ⟨g, 1, none⟩ (.bool true)).setCell ⟨g, 3, none⟩ (.int .i64 a)).setCell ⟨g, 4, none⟩ (.int .i64 b)).setCell ⟨g, 5, none⟩ (.int .i64 a)).setCell ⟨g, 6, none⟩ (.int .i64 b)).drew := ⟨_, rfl⟩
      rw [← hw3] at b3 f3 ⊢
      clear hw3
      have L3 : Hid (Ldr b0 w3 g { s with begun := true, hs := a, hg := b, ns := a, ng := b }) := hid_ (H.out.upd b3 f3 rfl)
      replace HM := hid_ (HM.out.ldr H.out.b f3)
      replace F1 := hid_ (F1.out.then_only f3 (.inl (.inr hlb)))
      clear b3 f3 g1 g3 g4 g5 g6 y1 y3 y4 y5 y6 r0 r1 hq hd
      go_wp2_with fail
      go_ret
      exact ⟨a, b, c, .nilIface, HD.out, .inl ⟨HC.out, rfl⟩, HM.out, F1.out, .inr (.inr ⟨HC.out, HZ.out, rfl, L3.out⟩)⟩
  · have HC := hid_ hc
    have EQ := hid_ EV.out
    clear hc
    go_wp2_with fail
    refine (ldStop_ok (.iface 169 (.pointer (some ⟨q, 0, none⟩))) (.inr ⟨_, _, rfl⟩) H.out).mono ?_
    rintro e w3 ⟨rfl, hl3, hf3⟩
    go_wp2_with fail
    go_ret
    exact ⟨a, b, c, _, HD.out, EQ.out.only hf3 H.out.b (by decide), HM.out.ldr H.out.b hf3, F1.out.then_only hf3 (.inl (.inr hlb)), .inl ⟨HC.out, rfl, hl3⟩⟩
end Go.Proofs.Ytpjbncbmdfmlpaa
namespace Go.Proofs.Ytpjbncbmdfmlpaa
open Go.RowKit
open Go
set_option linter.unusedVariables false
section
variable {P : Program} {md : Region.Mode} {ops : Array Oper} {Q : Exit → Act → World → Prop} {S : World → Prop}
/-- As wpAnyU, but that each operation ahead of the tail keeps S. -/
def wpAnyV (P : Program) (md : Region.Mode) (ops : Array Oper) (Q : Exit → Act → World → Prop) (S : World → Prop) (m : Nat) : Nat → Array Bool → Act → World → Prop
  | 0, listed, a, w => Region.ready md ops listed = [] ∧ Q .normal a w
  | fuel + 1, listed, a, w =>
    (Region.ready md ops listed = [] → Q .normal a w) ∧
    ∀ i ∈ Region.ready md ops listed, wpOp P ops Q i (fun a' w' => (m ≤ i ∨ (S w → S w')) ∧ wpAnyV P md ops Q S m fuel (listed.setIfInBounds i true) a' w') a w
theorem wpAny_of_V {m : Nat} : ∀ (fuel : Nat) (listed : Array Bool) (a : Act) (w : World), wpAnyV P md ops Q S m fuel listed a w → wpAny P md ops Q fuel listed a w
  | 0, _, _, _, h => h
  | fuel + 1, _, _, _, h => ⟨h.1, fun i hi => wpOp_mono (fun a' w' h' => wpAny_of_V fuel _ a' w' h'.2) (h.2 i hi)⟩
theorem wpAnyV_of_U {m : Nat} : ∀ (fuel : Nat) (listed : Array Bool) (a : Act) (w : World), wpAnyU P md ops Q S m fuel listed a w → wpAnyV P md ops Q S m fuel listed a w
  | 0, _, _, _, h => h
  | fuel + 1, _, _, _, h => ⟨h.1, fun i hi => wpOp_mono (fun a' w' h' => ⟨h'.1.imp_right (fun hs _ => hs), wpAnyV_of_U fuel _ a' w' h'.2⟩) (h.2 i hi)⟩
theorem wpAnyV_pure {m i : Nat} {oi : Oper} {v : Value} (hi : ops[i]? = some oi) (hsel : ∀ (j : Nat) (o : Oper) cs b, ops[j]? = some o → o.op ≠ .select cs b)
    (hQ : ∀ c a w, Q (.panic c) (a.put oi.dst v) w → Q (.panic c) a w) :
    ∀ (fuel : Nat) (listed : Array Bool) (a : Act) (w : World),
      (∀ j oj, ops[j]? = some oj → j ≠ i → listed.getD j true = false → (∀ e ∈ oj.after, Region.binds md e = true → e.on ≠ i) → oi.apart ops oj = true) →
      i ∈ Region.ready md ops listed → YieldsIf P ops (fun _ => True) oi v a →
      wpAnyV P md ops Q S m fuel (listed.setIfInBounds i true) (a.put oi.dst v) w → wpAnyV P md ops Q S m (fuel + 1) listed a w := by
  intro fuel
  induction fuel with
  | zero =>
    intro listed a w _ hr hy H
    refine ⟨fun h => (by rw [h] at hr; cases hr), fun j hj => ?_⟩
    by_cases hji : j = i
    · subst hji; exact hy.wpOp hi trivial ⟨.inr id, H⟩
    · have := ready_mono hj hji
      rw [H.1] at this
      cases this
  | succ fuel ih =>
    intro listed a w hfree hr hy H
    refine ⟨fun h => (by rw [h] at hr; cases hr), fun j hj => ?_⟩
    by_cases hji : j = i
    · subst hji; exact hy.wpOp hi trivial ⟨.inr id, H⟩
    · have h1 := H.2 j (ready_mono hj hji)
      obtain ⟨hjun, oj, hoj, hall⟩ := mem_ready.1 hj
      have hnot : ∀ e ∈ oj.after, Region.binds md e = true → e.on ≠ i := fun e he hb heq => by
        have h1 := hall e he hb
        have h0 := (mem_ready.1 hr).1
        rw [heq] at h1
        rcases Nat.lt_or_ge i listed.size with h' | h'
        · simp [h'] at h0 h1; rw [h0] at h1; cases h1
        · simp [Array.getElem?_eq_none h'] at h1
      have h2 := wpOp_putIf hoj (hfree j oj hoj hji hjun hnot) (fun cs b => hsel i oi cs b hi) (fun cs b => hsel j oj cs b hoj) hQ hy h1
      have hfree' : ∀ k ok, ops[k]? = some ok → k ≠ i → (listed.setIfInBounds j true).getD k true = false →
          (∀ e ∈ ok.after, Region.binds md e = true → e.on ≠ i) → oi.apart ops ok = true := fun k ok hk hki hun hno => by
        refine hfree k ok hk hki ?_ hno
        by_cases hjk : j = k
        · subst hjk; exact hjun
        · rw [getD_set_ne true hjk] at hun; exact hun
      refine wpOp_mono (fun a' w' h3 => ?_) h2
      refine ⟨h3.2.1, ih (listed.setIfInBounds j true) a' w' hfree' (ready_mono hr (Ne.symm hji)) h3.1 ?_⟩
      rw [Array.setIfInBounds_comm _ _ hji]
      exact h3.2.2
/-- A region that draws, of which one operation reads no memory and is taken first. -/
theorem wp_region_u1 (m : Nat) (S : World → Prop) (i n : Nat) (d : Option Tmp) (v : Value) {id : Nat} {oi : Oper} {a : Act} {w : World} (hm : P.follows .mixedOrders = true) (hn : ops.size = n + 1) (hi : ops[i]? = some oi) (hd : oi.dst = d)
    (hs : Region.noSelect ops = true) (hf : Region.free .any ops (Array.replicate ops.size false) i = true) (hr : (Region.ready .any ops (Array.replicate ops.size false)).contains i = true)
    (hQ : ∀ c a w, Q (.panic c) (a.put oi.dst v) w → Q (.panic c) a w) (hy : YieldsIf P ops (fun _ => True) oi v a)
    (h : UwA P .any ops Q S m n ((Array.replicate ops.size false).setIfInBounds i true) (a.put d v) w.drew) : (Code.region id ops true).wp P Q a w := by
  subst hd
  refine wp_region_any hm (wpAny_of_V (S := S) (m := m) _ _ _ _ ?_)
  rw [show ops.size = n + 1 from hn]
  rw [show ops.size = n + 1 from hn] at hf hr h
  exact wpAnyV_pure hi (Region.noSelect_spec hs) hQ n _ _ _ (Region.free_spec hi hf) (by simpa using hr) hy (wpAnyV_of_U _ _ _ _ h.h)
variable {oi : Oper} {a : Act} {w : World}
theorem wp_knownD {K : Act → World → Prop} (d : Option Tmp) (hd : oi.dst = d) (v : Value) (w2 : World) (hx : (execOp a.eval oi).run P w = .ok (.value v) w2) (h : K (a.put d v) w2) : Oper.wp P oi a w K Q := by
  subst hd
  unfold Oper.wp
  rw [hx, Oper.upon_value]
  exact h
/-- What the operation yields, at its slot. -/
theorem wp_dst {K : Act → World → Prop} (d : Option Tmp) (hd : oi.dst = d) (h : oi.dst = d → Oper.wp P oi a w K Q) : Oper.wp P oi a w K Q := h hd
end
end Go.Proofs.Ytpjbncbmdfmlpaa
namespace Go.Proofs.Ytpjbncbmdfmlpaa
open Go.RowKit Go.BigFrame
set_option maxRecDepth 100000
set_option linter.unusedVariables false

theorem lim_size9 : (Try.prog.info? 28).map (·.size) = some 6 := by kernel_rfl
theorem memLimits_ok {m : Nat} {k : Int} {l : Lm} {x : St} (w : World) (h : Mm w m k l x) : Calls Try.prog 52 #[.pointer (some ⟨m, 0, none⟩)] w fun e w' => e = .returned (.agg (lmA l)) ∧ Fr none_ w w' := by
  obtain ⟨w0, hw0⟩ : ∃ z, z = w.alloc (.cells #[.int .i64 0, .int .i64 0, .int .i64 0, .int .i64 0, .int .i64 0, .int .i64 0] 28) := ⟨_, rfl⟩
  have f0 : Fr none_ w w0 := by rw [hw0]; exact (Fr.refl none_ w).alloc _
  have BZ : Hid (Blk w0 w.heap.size 28 #[.int .i64 0, .int .i64 0, .int .i64 0, .int .i64 0, .int .i64 0, .int .i64 0]) := hid_ (by rw [hw0]; exact Blk.new w _ _)
  have h2 := h.b.fr f0 id
  have F0 := hid_ f0
  have c1 : w0.cell? ⟨m, 1, none⟩ = some (.int .i64 (l.s : Int)) := h2.cell' rfl
  have c2 : w0.cell? ⟨m, 2, none⟩ = some (.int .i64 (l.p : Int)) := h2.cell' rfl
  have c3 : w0.cell? ⟨m, 3, none⟩ = some (.int .i64 l.t) := h2.cell' rfl
  have c4 : w0.cell? ⟨m, 4, none⟩ = some (.int .i64 l.r) := h2.cell' rfl
  have c5 : w0.cell? ⟨m, 5, none⟩ = some (.int .i64 l.c) := h2.cell' rfl
  have c6 : w0.cell? ⟨m, 6, none⟩ = some (.int .i64 l.n) := h2.cell' rfl
  clear h h2 f0
  go_enter Try.func52, Try.ntmps52
  go_upto_region 1 with fail
  change Code.wp _ _ _ _ (w.alloc (.cells #[.int .i64 0, .int .i64 0, .int .i64 0, .int .i64 0, .int .i64 0, .int .i64 0] 28))
  rw [← hw0]
  clear hw0
  go_wp2_with (refine wpList_store_mid rfl 28 (.tmp 2) (.tmp 9) rfl w.heap.size 0 (lmA l) rfl rfl (BZ.out.there9 rfl) lim_size9 (by simp [Value.oneCell']) ?_; have ov := BZ.out.over9 (lmA l).toList rfl; obtain ⟨w9, hw9⟩ : ∃ z, z = w0.setCells w.heap.size 0 (lmA l).toList := ⟨_, rfl⟩; rw [← hw9] at ov; change wpList _ _ _ _ _ (w0.setCells w.heap.size 0 (lmA l).toList); rw [← hw9]; have OV := hid_ ov; clear hw9 ov)
  exact bodyPost_ret (results_cell7 _ _ rfl w.heap.size 0 (lmA l).toList _ rfl (Blk.range7 (l := (lmA l).toList) OV.out.1) Try.underlying28 rfl lim_size9) rfl ⟨rfl, F0.out.then_only OV.out.2 (.inr (Nat.le_refl _))⟩
theorem ld_range5 {w : World} {g : Nat} {s : LdS} (h : Blk w g 114 (ldA s)) : w.rangeAt g 5 [.int .i64 s.ns, .int .i64 s.ng] := fun j v hv => by
  match j, hv with
  | 0, hv => have e : some _ = some v := hv; rw [← e]; exact h.cell' rfl
  | 1, hv => have e : some _ = some v := hv; rw [← e]; exact h.cell' rfl
  | k + 2, hv => simp at hv
theorem ref_size9 : (Try.prog.info? 33).map (·.size) = some 2 := by kernel_rfl
/-- Within a step: a loader whose rows grow. -/
structure LdW (b0 g b m : Nat) (k : Int) (l : Lm) (x : St) (w : World) (s : LdS) (C : Cr) (vl : Value) (nl : Nat) (xl : List Value) (vr : Value) (nr : Nat) (xr : List Value) (wr : World) : Prop where
  l_ : wr.ownsRow b0 58 15 vl nl xl
  r_ : wr.ownsRow b0 33 2 vr nr xr
  nl : ∀ k, vl.ownBlock = some k → k ≠ b
  bg : Blk wr g 114 (ldA s)
  bt : Blk wr b 58 (crA C)
  lb : b0 ≤ g
  own : ∀ D ∈ s.L ++ [C], RecOwn wr b0 D.R (.slice D.A D.R.rows.length D.c) (.slice D.B D.R.ents.length D.d)
  mm : Mm wr m k l x
  f : Fr (lall m x b0) w wr
section
variable {b0 g b m : Nat} {k : Int} {l : Lm} {x : St} {w wr w' : World} {s : LdS} {C : Cr} {vl : Value} {nl : Nat} {xl : List Value} {vr : Value} {nr : Nat} {xr : List Value}
theorem LdW.keep (h : LdW b0 g b m k l x w s C vl nl xl vr nr xr wr) (hf : Fr none_ wr w') : LdW b0 g b m k l x w s C vl nl xl vr nr xr w' :=
  ⟨own_none h.l_ hf, own_none h.r_ hf, h.nl, h.bg.fr hf id, h.bt.fr hf id, h.lb, fun D hD => (h.own D hD).keep hf, h.mm.keep hf, h.f.then_none hf⟩
theorem LdW.sz (h : LdW b0 g b m k l x w s C vl nl xl vr nr xr wr) : b0 ≤ wr.heap.size := by have := h.bg.lt; have := h.lb; omega
theorem LdW.putL (h : LdW b0 g b m k l x w s C vl nl xl vr nr xr wr) {v' : Value} {q : Nat} {ys : List Value} (ho : w'.ownsRow b0 58 15 v' (nl + q) (xl ++ ys)) (hg : wr.grownBy w' vl.ownBlock) (hat : v'.ownBlock = vl.ownBlock ∨ v'.ownBlock = some wr.heap.size) : LdW b0 g b m k l x w s C v' (nl + q) (xl ++ ys) vr nr xr w' :=
  ⟨ho, own_kept h.r_ h.l_ (by decide) hg, fun k hk => by
      rcases hat with e | e
      · exact h.nl k (e ▸ hk)
      · have h1 := h.bt.lt
        have : wr.heap.size = k := Option.some.inj (e.symm.trans hk)
        omega, h.bg.grown hg (fun e => own_blk_ne h.l_ h.bg (by decide) e.symm), h.bt.grown hg (fun e => h.nl b e.symm rfl), h.lb, fun D hD => (h.own D hD).grown h.l_ (by decide) (by decide) hg, h.mm.grown h.l_ (.inl rfl) hg, h.f.grown hg (fun k hk => .inl (.inr (h.l_.lt k hk).1))⟩
theorem LdW.putR (h : LdW b0 g b m k l x w s C vl nl xl vr nr xr wr) {v' : Value} {q : Nat} {ys : List Value} (ho : w'.ownsRow b0 33 2 v' (nr + q) (xr ++ ys)) (hg : wr.grownBy w' vr.ownBlock) (hat : v'.ownBlock = vr.ownBlock ∨ v'.ownBlock = some wr.heap.size) : LdW b0 g b m k l x w s C vl nl xl v' (nr + q) (xr ++ ys) w' :=
  ⟨own_kept h.l_ h.r_ (by decide) hg, ho, h.nl, h.bg.grown hg (fun e => own_blk_ne h.r_ h.bg (by decide) e.symm), h.bt.grown hg (fun e => own_blk_ne h.r_ h.bt (by decide) e.symm), h.lb, fun D hD => (h.own D hD).grown h.r_ (by decide) (by decide) hg, h.mm.grown h.r_ (.inr rfl) hg, h.f.grown hg (fun k hk => .inl (.inr (h.r_.lt k hk).1))⟩
theorem LdW.fin {A' B' : Option Addr} {c' d' : Nat} (h : LdW b0 g b m k l x w s C (.slice A' (s.L.length + 1) c') (s.L.length + 1) (crFlat s.L ++ (crA C).toList) (.slice B' (s.refs.length + 1) d') (s.refs.length + 1) (rf9Flat s.refs ++ [.int .i64 s.ns, .int .i64 s.ng]) wr)
    (hb : Blk w' g 114 #[.int .i64 s.n, .bool s.begun, .bool s.over, .int .i64 s.hs, .int .i64 s.hg, .int .i64 s.ns, .int .i64 s.ng, .slice A' (s.L.length + 1) c', .slice B' (s.refs.length + 1) d', s.ve]) (hf : Fr (only g) wr w') :
    Ldr b0 w' g ⟨s.n, s.begun, s.over, s.hs, s.hg, s.ns, s.ng, A', c', s.L ++ [C], B', d', s.refs ++ [(s.ns, s.ng)], s.ve⟩ ∧ Mm w' m k l x ∧ Blk w' b 58 (crA C) ∧ Fr (lall m x b0) w w' := by
  have e1 : (s.L ++ [C]).length = s.L.length + 1 := by simp
  have e2 : (s.refs ++ [(s.ns, s.ng)]).length = s.refs.length + 1 := by simp
  refine ⟨⟨?_, h.lb, ?_, ?_, fun D hD => (h.own D hD).only hf h.bg (by decide) (by decide)⟩, h.mm.ldr h.bg hf, h.bt.fr hf (only_ne (Blk.ne_ h.bt h.bg (by decide))), h.f.then_only hf (.inl (.inr h.lb))⟩
  · show Blk w' g 114 #[.int .i64 s.n, .bool s.begun, .bool s.over, .int .i64 s.hs, .int .i64 s.hg, .int .i64 s.ns, .int .i64 s.ng, .slice A' (s.L ++ [C]).length c', .slice B' (s.refs ++ [(s.ns, s.ng)]).length d', s.ve]
    rw [e1, e2]
    exact hb
  · show w'.ownsRow b0 58 15 (.slice A' (s.L ++ [C]).length c') (s.L ++ [C]).length (crFlat (s.L ++ [C]))
    rw [e1, crFlat_snoc]
    exact own_fr h.l_ hf (fun k hk e => own_blk_ne h.l_ h.bg (by decide) (by rw [hk, show k = g from e]))
  · show w'.ownsRow b0 33 2 (.slice B' (s.refs ++ [(s.ns, s.ng)]).length d') (s.refs ++ [(s.ns, s.ng)]).length (rf9Flat (s.refs ++ [(s.ns, s.ng)]))
    rw [e2, rf9Flat_snoc]
    exact own_fr h.r_ hf (fun k hk e => own_blk_ne h.r_ h.bg (by decide) (by rw [hk, show k = g from e]))
end
/-- What Step's later accesses tell. -/
def LdNext (b0 g m : Nat) (k : Int) (l : Lm) (x : St) (s : LdS) (w : World) (e : Ending) (w' : World) : Prop :=
  ∃ (R : Rc) (A : Option Addr) (c : Nat) (B : Option Addr) (d : Nat) (kk : Int) (v : Value), LoadR x.ss s.ns s.ng R kk ∧ Ev w' v sArena9 s.ns kk ∧ Mm w' m (k + 1) l x ∧ Fr (lall m x b0) w w' ∧
    ((kk ≠ 0 ∧ e = .returned (.bool true) ∧ Ldr b0 w' g { s with over := true, ve := v }) ∨
     (kk = 0 ∧ ∃ (A' : Option Addr) (c' : Nat) (B' : Option Addr) (d' : Nat) (ov : Bool) (ve : Value), e = .returned (.bool ov) ∧ Ldr b0 w' g ⟨s.n, s.begun, ov, s.hs, s.hg, R.nslot, R.ngen, A', c', s.L ++ [⟨R, A, c, B, d⟩], B', d', s.refs ++ [(s.ns, s.ng)], ve⟩ ∧
       ((R.nslot = 0 ∧ R.ngen = 0 ∧ ov = true ∧ ve = .nilIface) ∨ (¬ (R.nslot = 0 ∧ R.ngen = 0) ∧ l.s ≤ s.L.length + 1 ∧ ov = true ∧ ve = errV 10) ∨ (¬ (R.nslot = 0 ∧ R.ngen = 0) ∧ s.L.length + 1 < l.s ∧ ov = false ∧ ve = s.ve))))
set_option maxHeartbeats 8000000 in
theorem step_next {b0 g m : Nat} {k : Int} {l : Lm} {x : St} {w : World} {s : LdS} (h : Ldr b0 w g s) (hm : Mm w m k l x) (hb : ∀ i, mall m x i → i < b0) (h0 : 0 ≤ k) (h1 : k ≤ 100000) (ho : s.over = false) (hg : s.begun = true) (hl1 : s.L.length ≤ 5000) (hl2 : s.refs.length ≤ 5000) :
    Calls Try.prog 17 #[.pointer (some ⟨g, 0, none⟩), .pointer (some ⟨m, 0, none⟩)] w (LdNext b0 g m k l x s w) := by
  have H := hid_ h
  have HM := hid_ hm
  have HB := hid_ hb
  have HO := hid_ ho
  have c1 : w.cell? ⟨g, 1, none⟩ = some (.bool true) := by rw [← hg]; exact h.b.cell' rfl
  have c5 : w.cell? ⟨g, 5, none⟩ = some (.int .i64 s.ns) := h.b.cell' rfl
  have c6 : w.cell? ⟨g, 6, none⟩ = some (.int .i64 s.ng) := h.b.cell' rfl
  have hsg := h.b.lt
  have HG := hid_ hg
  obtain ⟨i0, hi0, hz0, hs0, hb0⟩ := info_parts rec_info9
  have Hi := hid_ (And.intro hi0 (And.intro hz0 (And.intro hs0 hb0)))
  obtain ⟨j0, hj0, hy0, ht0, hc0⟩ := info_parts ref_info9
  have Hj := hid_ (And.intro hj0 (And.intro hy0 (And.intro ht0 hc0)))
  clear hi0 hz0 hs0 hb0 hj0 hy0 ht0 hc0 h hm hb ho hg
  go_enter Try.func17, Try.ntmps17
  go_wp2_with fail
  refine (ldOver_ok H.out).mono ?_
  rintro e w' ⟨rfl, rfl⟩
  rw [HO.out]
  go_wp2_with fail
  refine (memLoad_any m k l x _ HM.out h0 h1 s.ns s.ng).mono ?_
  rintro e w1 ⟨R, A, c, B, d, kk, v, rfl, hld, hev, hmm, hro, hf1⟩
  have LD := hid_ hld
  have EV := hid_ hev
  have RO := hid_ (hro.base (show b0 ≤ w.heap.size by have := H.out.lb; omega))
  replace H := hid_ (H.out.fr hf1 HB.out)
  replace HM := hid_ hmm
  have F1 := hid_ (hf1.mono (S' := lall m x b0) (fun i _ e => .inl e))
  have hsz1 := hf1.size
  have hNL1 : Hid (∀ k, (Value.slice s.A s.L.length s.c).ownBlock = some k → k ≠ w1.heap.size) := hid_ (fun k hk => by have := (H.out.l.lt k hk).2; omega)
  clear hld hev hmm hro hf1 c1 c5 c6
  go_upto_region 12 with (refine wpList_store_mid rfl 58 (.tmp 7) (.tmp 56) rfl w1.heap.size 0 (crA (⟨R, A, c, B, d⟩ : Cr)) rfl rfl (new_there w1 _ recZ) rec_size (by simp [Value.oneCell']) ?_; obtain ⟨w2, hw2⟩ : ∃ z, z = (w1.alloc (.cells recZ 58)).setCells w1.heap.size 0 (crA (⟨R, A, c, B, d⟩ : Cr)).toList := ⟨_, rfl⟩; change wpList _ _ _ _ _ ((w1.alloc (.cells recZ 58)).setCells w1.heap.size 0 (crA (⟨R, A, c, B, d⟩ : Cr)).toList); rw [← hw2]; have P2 : Hid (Blk w2 w1.heap.size 58 (crA (⟨R, A, c, B, d⟩ : Cr)) ∧ Fr none_ w1 w2) := hid_ (by rw [hw2]; exact new_copy w1 _ recZ _ rfl); clear hw2)
  replace H := hid_ (H.out.keep P2.out.2)
  replace HM := hid_ (HM.out.keep P2.out.2)
  replace EV := hid_ (EV.out.keep P2.out.2)
  replace RO := hid_ (RO.out.keep P2.out.2)
  replace F1 := hid_ (F1.out.then_none P2.out.2)
  have BT := hid_ P2.out.1
  have hszb := P2.out.1.lt
  have hlb := H.out.lb
  obtain ⟨b, hbq⟩ : ∃ b, b = w1.heap.size := ⟨_, rfl⟩
  rw [← hbq] at BT hszb
  rw [← hbq]
  have hgb : g < b := by have := H.out.b; omega
  have hNL : Hid (∀ k, (Value.slice s.A s.L.length s.c).ownBlock = some k → k ≠ b) := hid_ (by rw [hbq]; exact hNL1.out)
  clear hbq P2
  rcases EV.out with ⟨hc, rfl⟩ | ⟨hc, q, rfl, -⟩
  rotate_left
  · have HC := hid_ hc
    have EQ := hid_ EV.out
    clear hc
    go_wp2_with fail
    refine (ldStop_ok (.iface 169 (.pointer (some ⟨q, 0, none⟩))) (.inr ⟨_, _, rfl⟩) H.out).mono ?_
    rintro e w3 ⟨rfl, hl3, hf3⟩
    go_wp2_with fail
    go_ret
    exact ⟨R, A, c, B, d, kk, _, LD.out, EQ.out.only hf3 H.out.b (by decide), HM.out.ldr H.out.b hf3, F1.out.then_only hf3 (.inl (.inr hlb)), .inl ⟨HC.out, rfl, hl3⟩⟩
  have HC := hid_ hc
  clear hc EV
  have P0 : Hid (LdW b0 g b m (k + 1) l x w s (⟨R, A, c, B, d⟩ : Cr) (.slice s.A s.L.length s.c) s.L.length (crFlat s.L) (.slice s.B s.refs.length s.e) s.refs.length (rf9Flat s.refs) w2) := hid_ ⟨H.out.l, H.out.r, hNL.out, H.out.b, BT.out, hlb, fun D hD => by
    rcases List.mem_append.1 hD with h | h
    · exact H.out.own D h
    · obtain rfl : D = ⟨R, A, c, B, d⟩ := by simpa using h
      exact RO.out, HM.out, F1.out⟩
  clear H HM RO F1 BT hNL
  go_upto_region 14 with fail
  (try go_frame)
  go_cut [4] (fun u wq => ∃ (A' : Option Addr) (c' : Nat) (B' : Option Addr) (d' : Nat), u = .bool false ∧ Ldr b0 wq g (⟨s.n, s.begun, s.over, s.hs, s.hg, s.ns, s.ng, A', c', s.L ++ [⟨R, A, c, B, d⟩], B', d', s.refs ++ [(s.ns, s.ng)], s.ve⟩ : LdS) ∧ Mm wq m (k + 1) l x ∧ Blk wq b 58 (crA (⟨R, A, c, B, d⟩ : Cr)) ∧ Fr (lall m x b0) w wq)
  case first =>
    have hS0 : (fun w' : World => Blk w' g 114 (ldA s) ∧ Blk w' b 58 (crA (⟨R, A, c, B, d⟩ : Cr))) w2.drew := ⟨P0.out.bg.drew, P0.out.bt.drew⟩
    refine wp_region_u1 21 (fun w' : World => Blk w' g 114 (ldA s) ∧ Blk w' b 58 (crA (⟨R, A, c, B, d⟩ : Cr))) 1 24 (some 64) (.pointer (some ⟨g, 0, none⟩)) (by kernel_rfl) rfl rfl rfl (by kernel_rfl) (by kernel_rfl) (by kernel_rfl) (fun _ _ _ h => h) (y_val (by kernel_rfl) (fun w' hS => by kernel_rfl)) ?_
    refine u_take 0 (some 63) (.pointer (some ⟨g, 0, none⟩)) rfl rfl (by kernel_rfl) (by kernel_rfl) (by kernel_rfl) (by kernel_rfl) (fun _ _ _ h => h) (y_val (by kernel_rfl) (fun w' hS => by kernel_rfl)) hS0 ?_
    go_frame
    refine u_take 2 (some 65) (.pointer (some ⟨g, 0, none⟩)) rfl rfl (by kernel_rfl) (by kernel_rfl) (by kernel_rfl) (by kernel_rfl) (fun _ _ _ h => h) (y_val (by kernel_rfl) (fun w' hS => by kernel_rfl)) hS0 ?_
    go_frame
    refine u_take 3 (some 66) (.pointer (some ⟨g, 0, none⟩)) rfl rfl (by kernel_rfl) (by kernel_rfl) (by kernel_rfl) (by kernel_rfl) (fun _ _ _ h => h) (y_val (by kernel_rfl) (fun w' hS => by kernel_rfl)) hS0 ?_
    go_frame
    refine u_take 4 (some 67) (.pointer (some ⟨g, 7, none⟩)) rfl rfl (by kernel_rfl) (by kernel_rfl) (by kernel_rfl) (by kernel_rfl) (fun _ _ _ h => h) (y_val (by kernel_rfl) (fun w' hS => by kernel_rfl)) hS0 ?_
    go_frame
    refine u_take 5 (some 68) (.slice s.A s.L.length s.c) rfl rfl (by kernel_rfl) (by kernel_rfl) (by kernel_rfl) (by kernel_rfl) (fun _ _ _ h => h) (y_cell 34 (.tmp 67) ⟨g, 7, none⟩ _ (by kernel_rfl) rfl (by kernel_rfl) (fun w' hS => hS.1.cell' rfl) Try.underlying34 rfl) hS0 ?_
    go_frame
    refine u_take 6 (some 69) (.agg (crA (⟨R, A, c, B, d⟩ : Cr))) rfl rfl (by kernel_rfl) (by kernel_rfl) (by kernel_rfl) (by kernel_rfl) (fun _ _ _ h => h) (yieldsIf_load_mid (by kernel_rfl) 58 (.tmp 7) rfl b 0 (by kernel_rfl) (crA (⟨R, A, c, B, d⟩ : Cr)).toList _ (fun w' hS => Blk.range7 (l := (crA (⟨R, A, c, B, d⟩ : Cr)).toList) hS.2) Try.underlying58 rfl rec_size) hS0 ?_
    go_frame
    refine u_take 9 (some 72) (.pointer (some ⟨g, 0, none⟩)) rfl rfl (by kernel_rfl) (by kernel_rfl) (by kernel_rfl) (by kernel_rfl) (fun _ _ _ h => h) (y_val (by kernel_rfl) (fun w' hS => by kernel_rfl)) hS0 ?_
    go_frame
    refine u_take 10 (some 73) (.pointer (some ⟨g, 0, none⟩)) rfl rfl (by kernel_rfl) (by kernel_rfl) (by kernel_rfl) (by kernel_rfl) (fun _ _ _ h => h) (y_val (by kernel_rfl) (fun w' hS => by kernel_rfl)) hS0 ?_
    go_frame
    refine u_take 11 (some 74) (.pointer (some ⟨g, 8, none⟩)) rfl rfl (by kernel_rfl) (by kernel_rfl) (by kernel_rfl) (by kernel_rfl) (fun _ _ _ h => h) (y_val (by kernel_rfl) (fun w' hS => by kernel_rfl)) hS0 ?_
    go_frame
    refine u_take 12 (some 75) (.slice s.B s.refs.length s.e) rfl rfl (by kernel_rfl) (by kernel_rfl) (by kernel_rfl) (by kernel_rfl) (fun _ _ _ h => h) (y_cell 35 (.tmp 74) ⟨g, 8, none⟩ _ (by kernel_rfl) rfl (by kernel_rfl) (fun w' hS => hS.1.cell' rfl) Try.underlying35 rfl) hS0 ?_
    go_frame
    refine u_take 13 (some 76) (.pointer (some ⟨g, 0, none⟩)) rfl rfl (by kernel_rfl) (by kernel_rfl) (by kernel_rfl) (by kernel_rfl) (fun _ _ _ h => h) (y_val (by kernel_rfl) (fun w' hS => by kernel_rfl)) hS0 ?_
    go_frame
    refine u_take 14 (some 77) (.pointer (some ⟨g, 0, none⟩)) rfl rfl (by kernel_rfl) (by kernel_rfl) (by kernel_rfl) (by kernel_rfl) (fun _ _ _ h => h) (y_val (by kernel_rfl) (fun w' hS => by kernel_rfl)) hS0 ?_
    go_frame
    refine u_take 15 (some 78) (.pointer (some ⟨g, 5, none⟩)) rfl rfl (by kernel_rfl) (by kernel_rfl) (by kernel_rfl) (by kernel_rfl) (fun _ _ _ h => h) (y_val (by kernel_rfl) (fun w' hS => by kernel_rfl)) hS0 ?_
    go_frame
    refine u_take 16 (some 79) (.agg #[.int .i64 s.ns, .int .i64 s.ng]) rfl rfl (by kernel_rfl) (by kernel_rfl) (by kernel_rfl) (by kernel_rfl) (fun _ _ _ h => h) (yieldsIf_load_mid (by kernel_rfl) 33 (.tmp 78) rfl g 5 (by kernel_rfl) [.int .i64 s.ns, .int .i64 s.ng] _ (fun w' hS => ld_range5 hS.1) Try.underlying33 rfl ref_size9) hS0 ?_
    go_frame
    clear hS0
    obtain ⟨y0, hy0⟩ : ∃ z, z = w2.drew := ⟨_, rfl⟩
    have Q0 := hid_ (P0.out.keep (Fr.refl none_ w2).drew)
    rw [← hy0] at Q0
    rw [← hy0]
    clear hy0 P0
    refine u_two 7 17 rfl rfl (by kernel_rfl) (by kernel_rfl) (by kernel_rfl) ?_ ?_
    · skip
      refine wp_knownD (some 70) rfl (.slice (some ⟨y0.heap.size, 0, none⟩) 1 1) (y0.alloc (.cells (crA (⟨R, A, c, B, d⟩ : Cr)) 58)) (by kernel_rfl) ⟨(.inr ⟨(Q0.out.keep ((Fr.refl none_ _).alloc _)).bg, (Q0.out.keep ((Fr.refl none_ _).alloc _)).bt⟩), ?_⟩
      go_frame
      obtain ⟨y1, hy1⟩ : ∃ z, z = y0.alloc (.cells (crA (⟨R, A, c, B, d⟩ : Cr)) 58) := ⟨_, rfl⟩
      have f2 : Fr none_ y0 y1 := by rw [hy1]; exact (Fr.refl none_ _).alloc _
      have B4 : Hid (Blk y1 y0.heap.size 58 (crA (⟨R, A, c, B, d⟩ : Cr))) := hid_ (by rw [hy1]; exact Blk.new _ _ _)
      have Q3 := hid_ (Q0.out.keep f2)
      rw [← hy1]
      clear hy1 f2 Q0
      refine u_two 8 17 rfl rfl (by kernel_rfl) (by kernel_rfl) (by kernel_rfl) ?_ ?_
      · skip
        refine wp_dst (some 71) rfl (fun hds => ?_)
        refine wp_append_at _ (.tmp 68) (.tmp 70) 34 rfl b0 58 i0 _ 15 192 Try.underlying34 Hi.out.1 Hi.out.2.1 Hi.out.2.2.1 Hi.out.2.2.2 rfl (by omega) _ _ _ (by kernel_rfl) Q3.out.l_ (some ⟨y0.heap.size, 0, none⟩) 1 1 (crA (⟨R, A, c, B, d⟩ : Cr)).toList (by kernel_rfl) (reads_blk9 B4.out) (cr_one _) (by simp only [maxLen]; omega) (by omega) Q3.out.sz ?_
        intro v7 y6 hown hgr hat
        have Q5 := hid_ (Q3.out.putL hown hgr hat)
        refine ⟨.inr ⟨Q5.out.bg, Q5.out.bt⟩, ?_⟩
        rw [hds]
        clear hown hgr hat hds Q3 B4
        go_frame
        refine u_run 17 (some 80) (.slice (some ⟨y6.heap.size, 0, none⟩) 1 1) (y6.alloc (.cells #[.int .i64 s.ns, .int .i64 s.ng] 33)) rfl rfl (by kernel_rfl) (by kernel_rfl) (by kernel_rfl) (.inr ⟨(Q5.out.keep ((Fr.refl none_ _).alloc _)).bg, (Q5.out.keep ((Fr.refl none_ _).alloc _)).bt⟩) ?_
        go_frame
        obtain ⟨y8, hy8⟩ : ∃ z, z = y6.alloc (.cells #[.int .i64 s.ns, .int .i64 s.ng] 33) := ⟨_, rfl⟩
        have f9 : Fr none_ y6 y8 := by rw [hy8]; exact (Fr.refl none_ _).alloc _
        have B11 : Hid (Blk y8 y6.heap.size 33 #[.int .i64 s.ns, .int .i64 s.ng]) := hid_ (by rw [hy8]; exact Blk.new _ _ _)
        have Q10 := hid_ (Q5.out.keep f9)
        rw [← hy8]
        clear hy8 f9 Q5
        refine u_one 18 rfl (by kernel_rfl) (by kernel_rfl) ?_
        refine wp_dst (some 81) rfl (fun hds => ?_)
        refine wp_append_at _ (.tmp 75) (.tmp 80) 35 rfl b0 33 j0 _ 2 16 Try.underlying35 Hj.out.1 Hj.out.2.1 Hj.out.2.2.1 Hj.out.2.2.2 rfl (by omega) _ _ _ (by kernel_rfl) Q10.out.r_ (some ⟨y6.heap.size, 0, none⟩) 1 1 [.int .i64 s.ns, .int .i64 s.ng] (by kernel_rfl) (reads_blk9 B11.out) (by simp [Value.oneCell']) (by simp only [maxLen]; omega) (by omega) Q10.out.sz ?_
        intro v14 y13 hown hgr hat
        have Q12 := hid_ (Q10.out.putR hown hgr hat)
        refine ⟨.inr ⟨Q12.out.bg, Q12.out.bt⟩, ?_⟩
        rw [hds]
        clear hown hgr hat hds Q10 B11
        go_frame
        obtain ⟨A', c', e1⟩ := Q12.out.l_.shape
        obtain ⟨B', d', e2⟩ := Q12.out.r_.shape
        subst e1
        subst e2
        (try go_frame)
        refine u_run 19 (some 82) (.pointer (some ⟨g, 0, none⟩)) y13 rfl rfl (by kernel_rfl) (by kernel_rfl) (by kernel_rfl) (.inr ⟨Q12.out.bg, Q12.out.bt⟩) ?_
        go_frame
        refine u_run 20 (some 83) (.pointer (some ⟨g, 7, none⟩)) y13 rfl rfl (by kernel_rfl) (by kernel_rfl) (by kernel_rfl) (.inr ⟨Q12.out.bg, Q12.out.bt⟩) ?_
        go_frame
        refine u_one 21 rfl (by kernel_rfl) (by kernel_rfl) ?_
        have c7 : y13.cell? ⟨g, 7, none⟩ = some (.slice s.A s.L.length s.c) := Q12.out.bg.cell' rfl
        have y7 := Q12.out.bg.frozen 7
        go_simp
        have hk := And.intro (Q12.out.bg.set_ 7 (.slice A' (s.L.length + 1) c')) (Fr.only1 y13 ⟨g, 7, none⟩ (.slice A' (s.L.length + 1) c'))
        obtain ⟨y15, hy15⟩ : ∃ z, z = y13.setCell ⟨g, 7, none⟩ (.slice A' (s.L.length + 1) c') := ⟨_, rfl⟩
        rw [← hy15] at hk
        rw [← hy15]
        have K16 := hid_ hk
        clear hk hy15 c7 y7
        refine u_run 22 (some 84) (.pointer (some ⟨g, 0, none⟩)) y15 rfl rfl (by kernel_rfl) (by kernel_rfl) (by kernel_rfl) (.inl (by decide)) ?_
        go_frame
        refine u_run 23 (some 85) (.pointer (some ⟨g, 8, none⟩)) y15 rfl rfl (by kernel_rfl) (by kernel_rfl) (by kernel_rfl) (.inl (by decide)) ?_
        go_frame
        refine u_one 24 rfl (by kernel_rfl) (by kernel_rfl) ?_
        have c7 : y15.cell? ⟨g, 8, none⟩ = some (.slice s.B s.refs.length s.e) := K16.out.1.cell' rfl
        have y7 := K16.out.1.frozen 8
        go_simp
        have hk := And.intro (K16.out.1.set_ 8 (.slice B' (s.refs.length + 1) d')) (Fr.setCell (p := ⟨g, 8, none⟩) K16.out.2 (.inl rfl) (.slice B' (s.refs.length + 1) d'))
        obtain ⟨y17, hy17⟩ : ∃ z, z = y15.setCell ⟨g, 8, none⟩ (.slice B' (s.refs.length + 1) d') := ⟨_, rfl⟩
        rw [← hy17] at hk
        rw [← hy17]
        have K18 := hid_ hk
        clear hk hy17 c7 y7
        have FIN := hid_ (Q12.out.fin K18.out.1 K18.out.2)
        refine u_done (by kernel_rfl) ?_
        (try simp only [Exit.then])
        (try go_frame)
        (first | (rename_i hKm; refine hKm _ _ ?_) | (rename_i hKm _; refine hKm _ _ ?_) | (rename_i hKm _ _; refine hKm _ _ ?_) | (rename_i hKm _ _ _; refine hKm _ _ ?_))
        go_meet
        case rel => exact ⟨A', c', B', d', rfl, FIN.out⟩
      · skip
        refine wp_knownD (some 80) rfl (.slice (some ⟨y1.heap.size, 0, none⟩) 1 1) (y1.alloc (.cells #[.int .i64 s.ns, .int .i64 s.ng] 33)) (by kernel_rfl) ⟨(.inr ⟨(Q3.out.keep ((Fr.refl none_ _).alloc _)).bg, (Q3.out.keep ((Fr.refl none_ _).alloc _)).bt⟩), ?_⟩
        go_frame
        obtain ⟨y19, hy19⟩ : ∃ z, z = y1.alloc (.cells #[.int .i64 s.ns, .int .i64 s.ng] 33) := ⟨_, rfl⟩
        have f20 : Fr none_ y1 y19 := by rw [hy19]; exact (Fr.refl none_ _).alloc _
        have B22 : Hid (Blk y19 y1.heap.size 33 #[.int .i64 s.ns, .int .i64 s.ng]) := hid_ (by rw [hy19]; exact Blk.new _ _ _)
        have Q21 := hid_ (Q3.out.keep f20)
        replace B4 := hid_ (B4.out.fr f20 id)
        rw [← hy19]
        clear hy19 f20 Q3
        refine u_one 8 rfl (by kernel_rfl) (by kernel_rfl) ?_
        refine wp_dst (some 71) rfl (fun hds => ?_)
        refine wp_append_at _ (.tmp 68) (.tmp 70) 34 rfl b0 58 i0 _ 15 192 Try.underlying34 Hi.out.1 Hi.out.2.1 Hi.out.2.2.1 Hi.out.2.2.2 rfl (by omega) _ _ _ (by kernel_rfl) Q21.out.l_ (some ⟨y0.heap.size, 0, none⟩) 1 1 (crA (⟨R, A, c, B, d⟩ : Cr)).toList (by kernel_rfl) (reads_blk9 B4.out) (cr_one _) (by simp only [maxLen]; omega) (by omega) Q21.out.sz ?_
        intro v25 y24 hown hgr hat
        have Q23 := hid_ (Q21.out.putL hown hgr hat)
        replace B22 := hid_ (B22.out.grown hgr (fun e => own_blk_ne Q21.out.l_ B22.out (by decide) e.symm))
        refine ⟨.inr ⟨Q23.out.bg, Q23.out.bt⟩, ?_⟩
        rw [hds]
        clear hown hgr hat hds Q21 B4
        go_frame
        refine u_one 18 rfl (by kernel_rfl) (by kernel_rfl) ?_
        refine wp_dst (some 81) rfl (fun hds => ?_)
        refine wp_append_at _ (.tmp 75) (.tmp 80) 35 rfl b0 33 j0 _ 2 16 Try.underlying35 Hj.out.1 Hj.out.2.1 Hj.out.2.2.1 Hj.out.2.2.2 rfl (by omega) _ _ _ (by kernel_rfl) Q23.out.r_ (some ⟨y1.heap.size, 0, none⟩) 1 1 [.int .i64 s.ns, .int .i64 s.ng] (by kernel_rfl) (reads_blk9 B22.out) (by simp [Value.oneCell']) (by simp only [maxLen]; omega) (by omega) Q23.out.sz ?_
        intro v28 y27 hown hgr hat
        have Q26 := hid_ (Q23.out.putR hown hgr hat)
        refine ⟨.inr ⟨Q26.out.bg, Q26.out.bt⟩, ?_⟩
        rw [hds]
        clear hown hgr hat hds Q23 B22
        go_frame
        obtain ⟨A', c', e1⟩ := Q26.out.l_.shape
        obtain ⟨B', d', e2⟩ := Q26.out.r_.shape
        subst e1
        subst e2
        (try go_frame)
        refine u_run 19 (some 82) (.pointer (some ⟨g, 0, none⟩)) y27 rfl rfl (by kernel_rfl) (by kernel_rfl) (by kernel_rfl) (.inr ⟨Q26.out.bg, Q26.out.bt⟩) ?_
        go_frame
        refine u_run 20 (some 83) (.pointer (some ⟨g, 7, none⟩)) y27 rfl rfl (by kernel_rfl) (by kernel_rfl) (by kernel_rfl) (.inr ⟨Q26.out.bg, Q26.out.bt⟩) ?_
        go_frame
        refine u_one 21 rfl (by kernel_rfl) (by kernel_rfl) ?_
        have c7 : y27.cell? ⟨g, 7, none⟩ = some (.slice s.A s.L.length s.c) := Q26.out.bg.cell' rfl
        have y7 := Q26.out.bg.frozen 7
        go_simp
        have hk := And.intro (Q26.out.bg.set_ 7 (.slice A' (s.L.length + 1) c')) (Fr.only1 y27 ⟨g, 7, none⟩ (.slice A' (s.L.length + 1) c'))
        obtain ⟨y29, hy29⟩ : ∃ z, z = y27.setCell ⟨g, 7, none⟩ (.slice A' (s.L.length + 1) c') := ⟨_, rfl⟩
        rw [← hy29] at hk
        rw [← hy29]
        have K30 := hid_ hk
        clear hk hy29 c7 y7
        refine u_run 22 (some 84) (.pointer (some ⟨g, 0, none⟩)) y29 rfl rfl (by kernel_rfl) (by kernel_rfl) (by kernel_rfl) (.inl (by decide)) ?_
        go_frame
        refine u_run 23 (some 85) (.pointer (some ⟨g, 8, none⟩)) y29 rfl rfl (by kernel_rfl) (by kernel_rfl) (by kernel_rfl) (.inl (by decide)) ?_
        go_frame
        refine u_one 24 rfl (by kernel_rfl) (by kernel_rfl) ?_
        have c7 : y29.cell? ⟨g, 8, none⟩ = some (.slice s.B s.refs.length s.e) := K30.out.1.cell' rfl
        have y7 := K30.out.1.frozen 8
        go_simp
        have hk := And.intro (K30.out.1.set_ 8 (.slice B' (s.refs.length + 1) d')) (Fr.setCell (p := ⟨g, 8, none⟩) K30.out.2 (.inl rfl) (.slice B' (s.refs.length + 1) d'))
        obtain ⟨y31, hy31⟩ : ∃ z, z = y29.setCell ⟨g, 8, none⟩ (.slice B' (s.refs.length + 1) d') := ⟨_, rfl⟩
        rw [← hy31] at hk
        rw [← hy31]
        have K32 := hid_ hk
        clear hk hy31 c7 y7
        have FIN := hid_ (Q26.out.fin K32.out.1 K32.out.2)
        refine u_done (by kernel_rfl) ?_
        (try simp only [Exit.then])
        (try go_frame)
        (first | (rename_i hKm; refine hKm _ _ ?_) | (rename_i hKm _; refine hKm _ _ ?_) | (rename_i hKm _ _; refine hKm _ _ ?_) | (rename_i hKm _ _ _; refine hKm _ _ ?_))
        go_meet
        case rel => exact ⟨A', c', B', d', rfl, FIN.out⟩
    · skip
      refine wp_knownD (some 80) rfl (.slice (some ⟨y0.heap.size, 0, none⟩) 1 1) (y0.alloc (.cells #[.int .i64 s.ns, .int .i64 s.ng] 33)) (by kernel_rfl) ⟨(.inr ⟨(Q0.out.keep ((Fr.refl none_ _).alloc _)).bg, (Q0.out.keep ((Fr.refl none_ _).alloc _)).bt⟩), ?_⟩
      go_frame
      obtain ⟨y33, hy33⟩ : ∃ z, z = y0.alloc (.cells #[.int .i64 s.ns, .int .i64 s.ng] 33) := ⟨_, rfl⟩
      have f34 : Fr none_ y0 y33 := by rw [hy33]; exact (Fr.refl none_ _).alloc _
      have B36 : Hid (Blk y33 y0.heap.size 33 #[.int .i64 s.ns, .int .i64 s.ng]) := hid_ (by rw [hy33]; exact Blk.new _ _ _)
      have Q35 := hid_ (Q0.out.keep f34)
      rw [← hy33]
      clear hy33 f34 Q0
      refine u_run 7 (some 70) (.slice (some ⟨y33.heap.size, 0, none⟩) 1 1) (y33.alloc (.cells (crA (⟨R, A, c, B, d⟩ : Cr)) 58)) rfl rfl (by kernel_rfl) (by kernel_rfl) (by kernel_rfl) (.inr ⟨(Q35.out.keep ((Fr.refl none_ _).alloc _)).bg, (Q35.out.keep ((Fr.refl none_ _).alloc _)).bt⟩) ?_
      go_frame
      obtain ⟨y37, hy37⟩ : ∃ z, z = y33.alloc (.cells (crA (⟨R, A, c, B, d⟩ : Cr)) 58) := ⟨_, rfl⟩
      have f38 : Fr none_ y33 y37 := by rw [hy37]; exact (Fr.refl none_ _).alloc _
      have B40 : Hid (Blk y37 y33.heap.size 58 (crA (⟨R, A, c, B, d⟩ : Cr))) := hid_ (by rw [hy37]; exact Blk.new _ _ _)
      have Q39 := hid_ (Q35.out.keep f38)
      replace B36 := hid_ (B36.out.fr f38 id)
      rw [← hy37]
      clear hy37 f38 Q35
      refine u_one 8 rfl (by kernel_rfl) (by kernel_rfl) ?_
      refine wp_dst (some 71) rfl (fun hds => ?_)
      refine wp_append_at _ (.tmp 68) (.tmp 70) 34 rfl b0 58 i0 _ 15 192 Try.underlying34 Hi.out.1 Hi.out.2.1 Hi.out.2.2.1 Hi.out.2.2.2 rfl (by omega) _ _ _ (by kernel_rfl) Q39.out.l_ (some ⟨y33.heap.size, 0, none⟩) 1 1 (crA (⟨R, A, c, B, d⟩ : Cr)).toList (by kernel_rfl) (reads_blk9 B40.out) (cr_one _) (by simp only [maxLen]; omega) (by omega) Q39.out.sz ?_
      intro v43 y42 hown hgr hat
      have Q41 := hid_ (Q39.out.putL hown hgr hat)
      replace B36 := hid_ (B36.out.grown hgr (fun e => own_blk_ne Q39.out.l_ B36.out (by decide) e.symm))
      refine ⟨.inr ⟨Q41.out.bg, Q41.out.bt⟩, ?_⟩
      rw [hds]
      clear hown hgr hat hds Q39 B40
      go_frame
      refine u_one 18 rfl (by kernel_rfl) (by kernel_rfl) ?_
      refine wp_dst (some 81) rfl (fun hds => ?_)
      refine wp_append_at _ (.tmp 75) (.tmp 80) 35 rfl b0 33 j0 _ 2 16 Try.underlying35 Hj.out.1 Hj.out.2.1 Hj.out.2.2.1 Hj.out.2.2.2 rfl (by omega) _ _ _ (by kernel_rfl) Q41.out.r_ (some ⟨y0.heap.size, 0, none⟩) 1 1 [.int .i64 s.ns, .int .i64 s.ng] (by kernel_rfl) (reads_blk9 B36.out) (by simp [Value.oneCell']) (by simp only [maxLen]; omega) (by omega) Q41.out.sz ?_
      intro v46 y45 hown hgr hat
      have Q44 := hid_ (Q41.out.putR hown hgr hat)
      refine ⟨.inr ⟨Q44.out.bg, Q44.out.bt⟩, ?_⟩
      rw [hds]
      clear hown hgr hat hds Q41 B36
      go_frame
      obtain ⟨A', c', e1⟩ := Q44.out.l_.shape
      obtain ⟨B', d', e2⟩ := Q44.out.r_.shape
      subst e1
      subst e2
      (try go_frame)
      refine u_run 19 (some 82) (.pointer (some ⟨g, 0, none⟩)) y45 rfl rfl (by kernel_rfl) (by kernel_rfl) (by kernel_rfl) (.inr ⟨Q44.out.bg, Q44.out.bt⟩) ?_
      go_frame
      refine u_run 20 (some 83) (.pointer (some ⟨g, 7, none⟩)) y45 rfl rfl (by kernel_rfl) (by kernel_rfl) (by kernel_rfl) (.inr ⟨Q44.out.bg, Q44.out.bt⟩) ?_
      go_frame
      refine u_one 21 rfl (by kernel_rfl) (by kernel_rfl) ?_
      have c7 : y45.cell? ⟨g, 7, none⟩ = some (.slice s.A s.L.length s.c) := Q44.out.bg.cell' rfl
      have y7 := Q44.out.bg.frozen 7
      go_simp
      have hk := And.intro (Q44.out.bg.set_ 7 (.slice A' (s.L.length + 1) c')) (Fr.only1 y45 ⟨g, 7, none⟩ (.slice A' (s.L.length + 1) c'))
      obtain ⟨y47, hy47⟩ : ∃ z, z = y45.setCell ⟨g, 7, none⟩ (.slice A' (s.L.length + 1) c') := ⟨_, rfl⟩
      rw [← hy47] at hk
      rw [← hy47]
      have K48 := hid_ hk
      clear hk hy47 c7 y7
      refine u_run 22 (some 84) (.pointer (some ⟨g, 0, none⟩)) y47 rfl rfl (by kernel_rfl) (by kernel_rfl) (by kernel_rfl) (.inl (by decide)) ?_
      go_frame
      refine u_run 23 (some 85) (.pointer (some ⟨g, 8, none⟩)) y47 rfl rfl (by kernel_rfl) (by kernel_rfl) (by kernel_rfl) (.inl (by decide)) ?_
      go_frame
      refine u_one 24 rfl (by kernel_rfl) (by kernel_rfl) ?_
      have c7 : y47.cell? ⟨g, 8, none⟩ = some (.slice s.B s.refs.length s.e) := K48.out.1.cell' rfl
      have y7 := K48.out.1.frozen 8
      go_simp
      have hk := And.intro (K48.out.1.set_ 8 (.slice B' (s.refs.length + 1) d')) (Fr.setCell (p := ⟨g, 8, none⟩) K48.out.2 (.inl rfl) (.slice B' (s.refs.length + 1) d'))
      obtain ⟨y49, hy49⟩ : ∃ z, z = y47.setCell ⟨g, 8, none⟩ (.slice B' (s.refs.length + 1) d') := ⟨_, rfl⟩
      rw [← hy49] at hk
      rw [← hy49]
      have K50 := hid_ hk
      clear hk hy49 c7 y7
      have FIN := hid_ (Q44.out.fin K50.out.1 K50.out.2)
      refine u_done (by kernel_rfl) ?_
      (try simp only [Exit.then])
      (try go_frame)
      (first | (rename_i hKm; refine hKm _ _ ?_) | (rename_i hKm _; refine hKm _ _ ?_) | (rename_i hKm _ _; refine hKm _ _ ?_) | (rename_i hKm _ _ _; refine hKm _ _ ?_))
      go_meet
      case rel => exact ⟨A', c', B', d', rfl, FIN.out⟩
  case rest =>
  obtain ⟨A', c', B', d', rfl, hL, hM, hT, hF⟩ := hcut
  obtain ⟨w3, rfl⟩ : ∃ z : World, z = wc := ⟨_, rfl⟩
  have HL := hid_ hL
  have HM := hid_ hM
  have HT := hid_ hT
  have HF := hid_ hF
  have hlc : (s.L ++ [(⟨R, A, c, B, d⟩ : Cr)]).length = s.L.length + 1 := by simp
  clear hL hM hT hF
  have b13 : w3.cell? ⟨b, 13, none⟩ = some (.int .i64 R.nslot) := HT.out.cell' rfl
  have b14 : w3.cell? ⟨b, 14, none⟩ = some (.int .i64 R.ngen) := HT.out.cell' rfl
  have g5 : w3.cell? ⟨g, 5, none⟩ = some (.int .i64 s.ns) := HL.out.b.cell' rfl
  have g6 : w3.cell? ⟨g, 6, none⟩ = some (.int .i64 s.ng) := HL.out.b.cell' rfl
  have y5 := HL.out.b.frozen 5
  have y6 := HL.out.b.frozen 6
  go_upto_region 16 with fail
  obtain ⟨w4, hw4⟩ : ∃ z, z = (w3.setCell ⟨g, 5, none⟩ (.int .i64 R.nslot)).setCell ⟨g, 6, none⟩ (.int .i64 R.ngen) := ⟨_, rfl⟩
  have f4 : Fr (only g) w3 w4 := by rw [hw4]; exact Fr.setCell (p := ⟨g, 6, none⟩) (Fr.only1 w3 ⟨g, 5, none⟩ _) (.inl rfl) _
  have b4 := (HL.out.b.set_ 5 (.int .i64 R.nslot)).set_ 6 (.int .i64 R.ngen)
  rw [← hw4] at b4
  rw [← hw4]
  clear hw4 b13 b14 g5 g6 y5 y6
  have L4 : Hid (Ldr b0 w4 g (⟨s.n, s.begun, s.over, s.hs, s.hg, R.nslot, R.ngen, A', c', s.L ++ [⟨R, A, c, B, d⟩], B', d', s.refs ++ [(s.ns, s.ng)], s.ve⟩ : LdS)) := hid_ (HL.out.upd b4 f4 rfl)
  replace HM := hid_ (HM.out.ldr HL.out.b f4)
  replace HF := hid_ (HF.out.then_only f4 (.inl (.inr hlb)))
  clear HL HT f4 b4
  have hg5 : w4.cell? ⟨g, 5, none⟩ = some (.int .i64 R.nslot) := L4.out.b.cell' rfl
  have hg6 : w4.cell? ⟨g, 6, none⟩ = some (.int .i64 R.ngen) := L4.out.b.cell' rfl
  have hq := eql_ref
  by_cases hz : R.nslot = 0 ∧ R.ngen = 0
  · have hd : (R.nslot == 0 && R.ngen == 0) = true := by simp [hz.1, hz.2]
    have HZ := hid_ hz
    clear hz
    go_wp2_with fail
    refine (ldStop_ok .nilIface (.inl rfl) L4.out).mono ?_
    rintro e w5 ⟨rfl, hl5, hf5⟩
    go_wp2_with fail
    go_ret
    exact ⟨R, A, c, B, d, kk, .nilIface, LD.out, .inl ⟨HC.out, rfl⟩, HM.out.ldr L4.out.b hf5, HF.out.then_only hf5 (.inl (.inr hlb)), .inr ⟨HC.out, A', c', B', d', true, .nilIface, rfl, hl5, .inl ⟨HZ.out.1, HZ.out.2, rfl, rfl⟩⟩⟩
  · have hd : (R.nslot == 0 && R.ngen == 0) = false := by
      simp only [Bool.and_eq_false_iff, beq_eq_false_iff_ne]
      omega
    have HZ := hid_ hz
    clear hz
    have hg7 : w4.cell? ⟨g, 7, none⟩ = some (.slice A' (s.L.length + 1) c') := by have := L4.out.b.cell' (i := 7) (v := .slice A' (s.L ++ [(⟨R, A, c, B, d⟩ : Cr)]).length c') rfl; rwa [hlc] at this
    go_upto_region 18 with fail
    (try go_frame)
    go_cut [107] (fun u wq => u = .bool (decide ((l.s : Int) ≤ ((s.L.length + 1 : Nat) : Int))) ∧ Fr none_ w4 wq)
    case first =>
      have hS0 : (fun w' : World => Fr none_ w4 w') w4.drew := (Fr.refl none_ w4).drew
      refine wp_region_u 9 (fun w' : World => Fr none_ w4 w') (by kernel_rfl) ?_
      refine u_take 0 (some 99) (.pointer (some ⟨g, 0, none⟩)) rfl rfl (by kernel_rfl) (by kernel_rfl) (by kernel_rfl) (by kernel_rfl) (fun _ _ _ h => h) (y_val (by kernel_rfl) (fun w' hS => by kernel_rfl)) hS0 ?_
      go_frame
      refine u_take 1 (some 100) (.pointer (some ⟨g, 0, none⟩)) rfl rfl (by kernel_rfl) (by kernel_rfl) (by kernel_rfl) (by kernel_rfl) (fun _ _ _ h => h) (y_val (by kernel_rfl) (fun w' hS => by kernel_rfl)) hS0 ?_
      go_frame
      refine u_take 2 (some 101) (.pointer (some ⟨g, 7, none⟩)) rfl rfl (by kernel_rfl) (by kernel_rfl) (by kernel_rfl) (by kernel_rfl) (fun _ _ _ h => h) (y_val (by kernel_rfl) (fun w' hS => by kernel_rfl)) hS0 ?_
      go_frame
      refine u_take 3 (some 102) (.slice A' (s.L.length + 1) c') rfl rfl (by kernel_rfl) (by kernel_rfl) (by kernel_rfl) (by kernel_rfl) (fun _ _ _ h => h) (y_cell 34 (.tmp 101) ⟨g, 7, none⟩ _ (by kernel_rfl) rfl (by kernel_rfl) (fun w' hS => cellFr hg7 hS) Try.underlying34 rfl) hS0 ?_
      go_frame
      refine u_take 4 (some 103) (.int .i64 ((s.L.length + 1 : Nat) : Int)) rfl rfl (by kernel_rfl) (by kernel_rfl) (by kernel_rfl) (by kernel_rfl) (fun _ _ _ h => h) (y_val (by kernel_rfl) (fun w' hS => by kernel_rfl)) hS0 ?_
      go_frame
      refine u_take 5 (some 104) (.pointer (some ⟨m, 0, none⟩)) rfl rfl (by kernel_rfl) (by kernel_rfl) (by kernel_rfl) (by kernel_rfl) (fun _ _ _ h => h) (y_val (by kernel_rfl) (fun w' hS => by kernel_rfl)) hS0 ?_
      go_frame
      clear hS0
      refine u_call 6 (some 105) 52 #[.pointer (some ⟨m, 0, none⟩)] (.agg (lmA l)) (Fr none_ w4.drew) rfl rfl (by kernel_rfl) (by kernel_rfl) (by kernel_rfl) (memLimits_ok _ (HM.out.keep (Fr.refl none_ w4).drew)) ?_
      intro w5 hf5
      have F5 := hid_ (((Fr.refl none_ w4).drew).then_none hf5)
      refine ⟨F5.out, ?_⟩
      go_frame
      refine u_run 7 (some 106) (.int .i64 (l.s : Int)) w5 rfl rfl (by kernel_rfl) (by kernel_rfl) (by kernel_rfl) (.inr F5.out) ?_
      go_frame
      refine u_run 8 (some 107) (.bool (decide ((l.s : Int) ≤ ((s.L.length + 1 : Nat) : Int)))) w5 rfl rfl (by kernel_rfl) (by kernel_rfl) (by kernel_rfl) (.inr F5.out) ?_
      go_frame
      refine u_done (by kernel_rfl) ?_
      (try simp only [Exit.then])
      (try go_frame)
      (first | (rename_i hKm; refine hKm _ _ ?_) | (rename_i hKm _; refine hKm _ _ ?_) | (rename_i hKm _ _; refine hKm _ _ ?_) | (rename_i hKm _ _ _; refine hKm _ _ ?_))
      go_meet
      case rel => exact ⟨rfl, F5.out⟩
    case rest =>
    obtain ⟨rfl, hf5⟩ := hcut
    obtain ⟨w5, rfl⟩ : ∃ z : World, z = wc := ⟨_, rfl⟩
    replace L4 := hid_ (L4.out.keep hf5)
    replace HM := hid_ (HM.out.keep hf5)
    replace HF := hid_ (HF.out.then_none hf5)
    clear hf5 hg5 hg6 hg7 hq hd
    by_cases hle : l.s ≤ s.L.length + 1
    · have hd : decide ((l.s : Int) ≤ ((s.L.length + 1 : Nat) : Int)) = true := by simp; omega
      have HLE := hid_ hle
      rw [hd]
      clear hd hle
      go_wp2_with fail
      refine (ldStop_ok (errV 10) (.inr ⟨_, _, rfl⟩) L4.out).mono ?_
      rintro e w6 ⟨rfl, hl6, hf6⟩
      go_wp2_with fail
      go_ret
      exact ⟨R, A, c, B, d, kk, .nilIface, LD.out, .inl ⟨HC.out, rfl⟩, HM.out.ldr L4.out.b hf6, HF.out.then_only hf6 (.inl (.inr hlb)), .inr ⟨HC.out, A', c', B', d', true, errV 10, rfl, hl6, .inr (.inl ⟨HZ.out, HLE.out, rfl, rfl⟩)⟩⟩
    · have hd : decide ((l.s : Int) ≤ ((s.L.length + 1 : Nat) : Int)) = false := by simp; omega
      have HLE := hid_ hle
      rw [hd]
      clear hd hle
      go_wp2_with fail
      go_ret
      exact ⟨R, A, c, B, d, kk, .nilIface, LD.out, .inl ⟨HC.out, rfl⟩, HM.out, HF.out, .inr ⟨HC.out, A', c', B', d', false, s.ve, rfl, by rw [← HO.out]; exact L4.out, .inr (.inr ⟨HZ.out, by have := HLE.out; omega, rfl, rfl⟩)⟩⟩
end Go.Proofs.Ytpjbncbmdfmlpaa
namespace Go.Proofs.Ytpjbncbmdfmlpaa
open Go.RowKit Go.BigFrame
set_option maxRecDepth 100000
set_option linter.unusedVariables false

theorem OfPostO.post {n hs hg : Int} {L : List Rc} {refs : List (Int × Int)} {w w' : World} {e : Ending} (h : OfPostO n hs hg L refs w e w') : OfPost n hs hg L refs w e w' := by
  rcases h with ⟨leaf, lv, iv, A, c, B, d, C, x, D, y, h1, h2, h3, h4⟩ | h
  · exact .inl ⟨leaf, lv, iv, A, c, B, d, C, x, D, y, h1, h2, h3.in_, h4⟩
  · exact .inr h
abbrev toCh (C : Cr) : Ch := ⟨C.R, C.A, C.c, C.B, C.d⟩
/-- A record's texts and entries are not too long. -/
structure RcOk (R : Rc) : Prop where
  low : SzOk R.low
  high : SzOk R.high
  key : SzOk R.key
  hkey : SzOk R.hkey
  ents : EtsOk R.ents
theorem flat_toCh (L : List Cr) : recFlat (L.map toCh) = crFlat L := by
  induction L with
  | nil => rfl
  | cons C t ih => simp only [recFlat, crFlat, List.map_cons, List.flatten_cons] at ih ⊢; rw [ih]
theorem map_toCh (L : List Cr) : (L.map toCh).map (·.R) = L.map (·.R) := by induction L with
  | nil => rfl
  | cons C t ih => simp only [List.map_cons]; rw [ih]
theorem Ldr.ch {b0 g : Nat} {w : World} {s : LdS} (h : Ldr b0 w g s) (hs : ∀ C ∈ s.L, RcOk C.R) : ChReads w s.A s.L.length (s.L.map toCh) := by
  refine chReads_own (Cs := s.L.map toCh) (base := b0) (c := s.c) (by rw [flat_toCh]; exact h.l) (by simp) (fun C hC => ?_)
  obtain ⟨D, hD, rfl⟩ := List.mem_map.1 hC
  have hk := hs D hD
  exact ChOwn.ok ⟨(h.own D hD).base (Nat.zero_le _), hk.low, hk.high, hk.key, hk.hkey, hk.ents⟩
theorem PgIn.only {b0 : Nat} {w w' : World} {L : List Rc} {refs : List (Int × Int)} {lv : Lw} {iv : Vw} {A B C D : Option Addr} {c d x y X : Nat} (h : PgIn b0 w L refs lv iv A c B d C x D y) (hX : Blk w X 45 pgZ) (hf : Fr (only X) w w') : PgIn b0 w' L refs lv iv A c B d C x D y := by
  obtain ⟨Cs, h1, h2, h3⟩ := h.ch
  exact ⟨⟨own_fr h.lv.own hf (fun k hk e => own_blk_ne h.lv.own hX (by decide) (by rw [hk, show k = X from e])), h.lv.ok⟩, h.iv.farZ hX hf,
    ⟨Cs, h1, own_fr h2 hf (fun k hk e => own_blk_ne h2 hX (by decide) (by rw [hk, show k = X from e])), fun E hE => (h3 E hE).only hf hX (by decide) (by decide)⟩,
    own_fr h.rf hf (fun k hk e => own_blk_ne h.rf hX (by decide) (by rw [hk, show k = X from e]))⟩
theorem PgIn.base {b0 b1 : Nat} {w : World} {L : List Rc} {refs : List (Int × Int)} {lv : Lw} {iv : Vw} {A B C D : Option Addr} {c d x y : Nat} (h : PgIn b1 w L refs lv iv A c B d C x D y) (hb : b0 ≤ b1) : PgIn b0 w L refs lv iv A c B d C x D y := by
  obtain ⟨Cs, h1, h2, h3⟩ := h.ch
  exact ⟨⟨own_base h.lv.own hb, h.lv.ok⟩, h.iv, ⟨Cs, h1, own_base h2 hb, h3⟩, own_base h.rf hb⟩
/-- What a call of Of told, in a world behind it, and all older than b0 is as it was. -/
def LdMade (b0 : Nat) (s : LdS) (w : World) (v : Value) (w' : World) : Prop :=
  ((∃ leaf lv iv A c B d C x D y, ofM (s.L.map (·.R)) = some (leaf, lv, iv) ∧ v = .tuple #[.agg (pgA s.n s.hs s.hg (.slice C s.L.length x) (.slice D s.refs.length y) leaf lv (.slice A lv.rows.length c) iv (.slice B iv.ents.length d)), .nilIface] ∧ PgIn b0 w' (s.L.map (·.R)) s.refs lv iv A c B d C x D y) ∨
   (∃ k : Int, (k = 9 ∨ k = 10) ∧ ofM (s.L.map (·.R)) = none ∧ v = .tuple #[.agg pgZ, errV k])) ∧ Fr none_ w w'
theorem LdMade.only {b0 : Nat} {s : LdS} {w w1 w' : World} {v : Value} {X : Nat} (h : LdMade b0 s w v w1) (hX : Blk w1 X 45 pgZ) (hf : Fr (only X) w1 w') (hn : w.heap.size ≤ X) : LdMade b0 s w v w' := by
  obtain ⟨h, hf0⟩ := h
  refine ⟨?_, hf0.then_only hf (.inr hn)⟩
  rcases h with ⟨leaf, lv, iv, A, c, B, d, C, x, D, y, h1, h2, h3⟩ | h
  · exact .inl ⟨leaf, lv, iv, A, c, B, d, C, x, D, y, h1, h2, h3.only hX hf⟩
  · exact .inr h
theorem LdMade.of {b0 : Nat} {s : LdS} {w w1 w' : World} {v : Value} (h : OfPost s.n s.hs s.hg ((s.L.map toCh).map (·.R)) s.refs w1 (.returned v) w') (hf : Fr none_ w w1) (hb : b0 ≤ w1.heap.size) : LdMade b0 s w v w' := by
  unfold OfPost at h
  rw [map_toCh] at h
  rcases h with ⟨leaf, lv, iv, A, c, B, d, C, x, D, y, h1, h2, h3, h4⟩ | ⟨k, hk, h1, h2, h4⟩
  · refine ⟨.inl ⟨leaf, lv, iv, A, c, B, d, C, x, D, y, h1, ?_, h3.base hb⟩, hf.then_none h4⟩
    have := Ending.returned.inj h2
    rw [this]
    simp
  · exact ⟨.inr ⟨k, hk, h1, Ending.returned.inj h2⟩, hf.then_none h4⟩
theorem LdMade.shape {b0 : Nat} {s : LdS} {w w' : World} {v : Value} (h : LdMade b0 s w v w') : ∃ (pv : Array Value) (ev : Value), v = .tuple #[.agg pv, ev] ∧ pv.size = 21 ∧ pv.all (·.oneCell') = true := by
  rcases h.1 with ⟨leaf, lv, iv, A, c, B, d, C, x, D, y, h1, h2, h3⟩ | ⟨k, hk, h1, h2⟩
  · exact ⟨_, _, h2, rfl, by simp [Value.oneCell']⟩
  · exact ⟨_, _, h2, rfl, by simp [Value.oneCell']⟩
theorem ld_range3 {w : World} {g : Nat} {s : LdS} (h : Blk w g 114 (ldA s)) : w.rangeAt g 3 [.int .i64 s.hs, .int .i64 s.hg] := fun j v hv => by
  match j, hv with
  | 0, hv => have e : some _ = some v := hv; rw [← e]; exact h.cell' rfl
  | 1, hv => have e : some _ = some v := hv; rw [← e]; exact h.cell' rfl
  | k + 2, hv => simp at hv
set_option maxHeartbeats 4000000 in
theorem ldMade_ok {b0 g bx : Nat} {w : World} {s : LdS} (h : Ldr b0 w g s) (hx : Blk w bx 30 #[.pointer (some ⟨g, 0, none⟩)]) (hs : ∀ C ∈ s.L, RcOk C.R) (hl : s.L.length ≤ 400) (h7 : RwOkL (s.L.map toCh)) (he : ∀ C ∈ s.L.map toCh, C.R.ents.length ≤ 500) (hr : s.refs.length ≤ 5000) :
    Calls Try.prog 48 #[.pointer (some ⟨bx, 0, none⟩)] w fun e w' => ∃ v, e = .returned v ∧ LdMade w.heap.size s w v w' := by
  obtain ⟨w0, hw0⟩ : ∃ z, z = w.alloc (.cells pgZ 45) := ⟨_, rfl⟩
  have f0 : Fr none_ w w0 := by rw [hw0]; exact (Fr.refl none_ w).alloc _
  have BZ : Hid (Blk w0 w.heap.size 45 pgZ) := hid_ (by rw [hw0]; exact Blk.new w _ _)
  have H := hid_ (h.keep f0)
  have BX := hid_ (hx.fr f0 id)
  have F0 := hid_ f0
  have HS := hid_ (And.intro hs (And.intro hl (And.intro h7 (And.intro he hr))))
  have hsz0 := BZ.out.lt
  clear h hx hs hl h7 he hr f0
  go_enter Try.func48, Try.ntmps48
  go_upto_region 1 with fail
  change Code.wp _ _ _ _ (w.alloc (.cells pgZ 45))
  rw [← hw0]
  clear hw0
  have hS0 : (fun w' : World => Blk w' g 114 (ldA s) ∧ Blk w' bx 30 #[.pointer (some ⟨g, 0, none⟩)]) w0.drew := ⟨H.out.b.drew, BX.out.drew⟩
  refine wp_region_u 21 (fun w' : World => Blk w' g 114 (ldA s) ∧ Blk w' bx 30 #[.pointer (some ⟨g, 0, none⟩)]) (by kernel_rfl) ?_
  refine u_take 0 (some 3) (.pointer (some ⟨g, 0, none⟩)) rfl rfl (by kernel_rfl) (by kernel_rfl) (by kernel_rfl) (by kernel_rfl) (fun _ _ _ h => h) (y_cell 30 (.tmp 0) ⟨bx, 0, none⟩ _ (by kernel_rfl) rfl (by kernel_rfl) (fun w' hS => hS.2.cell' rfl) Try.underlying30 rfl) hS0 ?_
  go_frame
  refine u_take 1 (some 4) (.pointer (some ⟨g, 0, none⟩)) rfl rfl (by kernel_rfl) (by kernel_rfl) (by kernel_rfl) (by kernel_rfl) (fun _ _ _ h => h) (y_val (by kernel_rfl) (fun w' hS => by kernel_rfl)) hS0 ?_
  go_frame
  refine u_take 2 (some 5) (.pointer (some ⟨g, 0, none⟩)) rfl rfl (by kernel_rfl) (by kernel_rfl) (by kernel_rfl) (by kernel_rfl) (fun _ _ _ h => h) (y_val (by kernel_rfl) (fun w' hS => by kernel_rfl)) hS0 ?_
  go_frame
  refine u_take 3 (some 6) (.int .i64 s.n) rfl rfl (by kernel_rfl) (by kernel_rfl) (by kernel_rfl) (by kernel_rfl) (fun _ _ _ h => h) (y_cell 3 (.tmp 5) ⟨g, 0, none⟩ _ (by kernel_rfl) rfl (by kernel_rfl) (fun w' hS => hS.1.cell' rfl) Try.underlying3 rfl) hS0 ?_
  go_frame
  refine u_take 4 (some 7) (.pointer (some ⟨g, 0, none⟩)) rfl rfl (by kernel_rfl) (by kernel_rfl) (by kernel_rfl) (by kernel_rfl) (fun _ _ _ h => h) (y_cell 30 (.tmp 0) ⟨bx, 0, none⟩ _ (by kernel_rfl) rfl (by kernel_rfl) (fun w' hS => hS.2.cell' rfl) Try.underlying30 rfl) hS0 ?_
  go_frame
  refine u_take 5 (some 8) (.pointer (some ⟨g, 0, none⟩)) rfl rfl (by kernel_rfl) (by kernel_rfl) (by kernel_rfl) (by kernel_rfl) (fun _ _ _ h => h) (y_val (by kernel_rfl) (fun w' hS => by kernel_rfl)) hS0 ?_
  go_frame
  refine u_take 6 (some 9) (.pointer (some ⟨g, 3, none⟩)) rfl rfl (by kernel_rfl) (by kernel_rfl) (by kernel_rfl) (by kernel_rfl) (fun _ _ _ h => h) (y_val (by kernel_rfl) (fun w' hS => by kernel_rfl)) hS0 ?_
  go_frame
  refine u_take 7 (some 10) (.agg #[.int .i64 s.hs, .int .i64 s.hg]) rfl rfl (by kernel_rfl) (by kernel_rfl) (by kernel_rfl) (by kernel_rfl) (fun _ _ _ h => h) (yieldsIf_load_mid (by kernel_rfl) 33 (.tmp 9) rfl g 3 (by kernel_rfl) [.int .i64 s.hs, .int .i64 s.hg] _ (fun w' hS => ld_range3 hS.1) Try.underlying33 rfl ref_size9) hS0 ?_
  go_frame
  refine u_take 8 (some 11) (.pointer (some ⟨g, 0, none⟩)) rfl rfl (by kernel_rfl) (by kernel_rfl) (by kernel_rfl) (by kernel_rfl) (fun _ _ _ h => h) (y_cell 30 (.tmp 0) ⟨bx, 0, none⟩ _ (by kernel_rfl) rfl (by kernel_rfl) (fun w' hS => hS.2.cell' rfl) Try.underlying30 rfl) hS0 ?_
  go_frame
  refine u_take 9 (some 12) (.pointer (some ⟨g, 0, none⟩)) rfl rfl (by kernel_rfl) (by kernel_rfl) (by kernel_rfl) (by kernel_rfl) (fun _ _ _ h => h) (y_val (by kernel_rfl) (fun w' hS => by kernel_rfl)) hS0 ?_
  go_frame
  refine u_take 10 (some 13) (.pointer (some ⟨g, 7, none⟩)) rfl rfl (by kernel_rfl) (by kernel_rfl) (by kernel_rfl) (by kernel_rfl) (fun _ _ _ h => h) (y_val (by kernel_rfl) (fun w' hS => by kernel_rfl)) hS0 ?_
  go_frame
  refine u_take 11 (some 14) (.slice s.A s.L.length s.c) rfl rfl (by kernel_rfl) (by kernel_rfl) (by kernel_rfl) (by kernel_rfl) (fun _ _ _ h => h) (y_cell 34 (.tmp 13) ⟨g, 7, none⟩ _ (by kernel_rfl) rfl (by kernel_rfl) (fun w' hS => hS.1.cell' rfl) Try.underlying34 rfl) hS0 ?_
  go_frame
  refine u_take 12 (some 15) (.pointer (some ⟨g, 0, none⟩)) rfl rfl (by kernel_rfl) (by kernel_rfl) (by kernel_rfl) (by kernel_rfl) (fun _ _ _ h => h) (y_cell 30 (.tmp 0) ⟨bx, 0, none⟩ _ (by kernel_rfl) rfl (by kernel_rfl) (fun w' hS => hS.2.cell' rfl) Try.underlying30 rfl) hS0 ?_
  go_frame
  refine u_take 13 (some 16) (.pointer (some ⟨g, 0, none⟩)) rfl rfl (by kernel_rfl) (by kernel_rfl) (by kernel_rfl) (by kernel_rfl) (fun _ _ _ h => h) (y_val (by kernel_rfl) (fun w' hS => by kernel_rfl)) hS0 ?_
  go_frame
  refine u_take 14 (some 17) (.pointer (some ⟨g, 8, none⟩)) rfl rfl (by kernel_rfl) (by kernel_rfl) (by kernel_rfl) (by kernel_rfl) (fun _ _ _ h => h) (y_val (by kernel_rfl) (fun w' hS => by kernel_rfl)) hS0 ?_
  go_frame
  refine u_take 15 (some 18) (.slice s.B s.refs.length s.e) rfl rfl (by kernel_rfl) (by kernel_rfl) (by kernel_rfl) (by kernel_rfl) (fun _ _ _ h => h) (y_cell 35 (.tmp 17) ⟨g, 8, none⟩ _ (by kernel_rfl) rfl (by kernel_rfl) (fun w' hS => hS.1.cell' rfl) Try.underlying35 rfl) hS0 ?_
  go_frame
  clear hS0
  refine u_callE 16 (some 19) 24 #[.int .i64 s.n, .agg #[.int .i64 s.hs, .int .i64 s.hg], .slice s.A s.L.length s.c, .slice s.B s.refs.length s.e] (fun v w' => LdMade w.heap.size s w v w' ∧ Fr none_ w0 w') rfl rfl (by kernel_rfl) (by kernel_rfl) (by kernel_rfl) ((of_okO s.n s.hs s.hg s.A s.L.length s.c (s.L.map toCh) s.refs s.B s.e w0.drew ((H.out.ch HS.out.1).keep (Fr.refl none_ w0).drew) HS.out.2.1 HS.out.2.2.1 HS.out.2.2.2.1 (Reads.of_own (own_none H.out.r (Fr.refl none_ w0).drew)) HS.out.2.2.2.2).mono (fun e w' hh => ?_)) ?_
  · have hfr : Fr none_ w0.drew w' := by rcases hh with ⟨_, _, _, _, _, _, _, _, _, _, _, _, _, _, h4⟩ | ⟨_, _, _, _, h4⟩ <;> exact h4
    have he : ∃ v, e = .returned v := by rcases hh with ⟨_, _, _, _, _, _, _, _, _, _, _, _, h2, _⟩ | ⟨_, _, _, h2, _⟩ <;> exact ⟨_, h2⟩
    obtain ⟨v, rfl⟩ := he
    exact ⟨v, rfl, LdMade.of hh.post (F0.out.then_none (Fr.refl none_ w0).drew) (by have := F0.out.size; simp; omega), (Fr.refl none_ w0).drew.then_none hfr⟩
  intro v w5 hh
  obtain ⟨pv, ev, rfl, hps, hpo⟩ := hh.1.shape
  have LM := hid_ hh.1
  have BZ5 := hid_ (BZ.out.fr hh.2 id)
  have hS5 : (fun w' : World => Blk w' g 114 (ldA s) ∧ Blk w' bx 30 #[.pointer (some ⟨g, 0, none⟩)]) w5 := ⟨H.out.b.fr hh.2 id, BX.out.fr hh.2 id⟩
  have FR5 := hid_ hh.2
  have hsz5 := hh.2.size
  clear hh
  refine ⟨hS5, ?_⟩
  go_frame
  refine u_take 17 (some 20) (.agg pv) rfl rfl (by kernel_rfl) (by kernel_rfl) (by kernel_rfl) (by kernel_rfl) (fun _ _ _ h => h) (y_val (by kernel_rfl) (fun w' hS => by kernel_rfl)) hS5 ?_
  go_frame
  refine u_take 18 (some 21) (ev) rfl rfl (by kernel_rfl) (by kernel_rfl) (by kernel_rfl) (by kernel_rfl) (fun _ _ _ h => h) (y_val (by kernel_rfl) (fun w' hS => by kernel_rfl)) hS5 ?_
  go_frame
  clear hS5
  have S5 : Hid ((fun w' : World => Blk w' g 114 (ldA s) ∧ Blk w' bx 30 #[.pointer (some ⟨g, 0, none⟩)]) w5) := hid_ ⟨H.out.b.fr FR5.out id, BX.out.fr FR5.out id⟩
  refine u_store 19 45 (.tmp 1) (.tmp 20) w.heap.size 0 pv rfl rfl (by kernel_rfl) (by kernel_rfl) rfl (by kernel_rfl) (by kernel_rfl) (by rw [hps]; exact BZ5.out.there7 rfl) (by rw [hps]; exact page_size) hpo ?_
  intro w6 hw6
  have ov := BZ5.out.over7 pv.toList (by simp [hps])
  rw [← hw6] at ov
  have OV := hid_ ov
  have LM6 := hid_ (LM.out.only BZ5.out ov.2 (Nat.le_refl _))
  have S6 : Hid ((fun w' : World => Blk w' g 114 (ldA s) ∧ Blk w' bx 30 #[.pointer (some ⟨g, 0, none⟩)]) w6) := hid_ ⟨S5.out.1.fr ov.2 (only_ne (Blk.ne_ S5.out.1 BZ5.out (by decide))), S5.out.2.fr ov.2 (only_ne (Blk.ne_ S5.out.2 BZ5.out (by decide)))⟩
  clear hw6 ov
  refine ⟨S6.out, ?_⟩
  refine u_run 20 (some 2) ev w6 rfl rfl (by kernel_rfl) (by kernel_rfl) (by kernel_rfl) (.inr S6.out) ?_
  go_frame
  refine u_done (by kernel_rfl) ?_
  go_wp2_with fail
  refine bodyPost_ret (results_cell_tmp7 _ _ rfl w.heap.size 0 pv.toList _ rfl (Blk.range7 (l := pv.toList) (by simpa using OV.out.1)) Try.underlying45 rfl (by rw [Array.length_toList, hps]; exact page_size)) rfl ⟨_, rfl, ?_⟩
  simpa using LM6.out
end Go.Proofs.Ytpjbncbmdfmlpaa

/- Texts of one proof, merged: Few9. -/
import Derived.Deep.Cut
import Derived.Test.YtfihfjbakfadkaaDoorMcG
import Derived.Test.YtfihfjbakfadkaaDoorMcX
namespace Go.Proofs.YtfihfjbakfadkaaDoor
open Go.RowKit Go.ChangeShapes Go.WideShapes
set_option maxRecDepth 100000
set_option linter.unusedVariables false

structure Dm where
  v : Int
  n : Int
  a : Int
  rt : Bool
  xs : Int
  xg : Int
  ys : Int
  yg : Int
  R : Rc
  A : Option Addr
  c : Nat
  B : Option Addr
  d : Nat
abbrev dmL (D : Dm) : List Value := [.int .i64 D.v, .int .i64 D.n, .int .i64 D.a, .bool D.rt, .int .i64 D.xs, .int .i64 D.xg, .int .i64 D.ys, .int .i64 D.yg, .int .i64 D.R.kind, .string D.R.low, .string D.R.high, .bool D.R.unb, .int .i64 D.R.right, .slice D.A D.R.rows.length D.c, .slice D.B D.R.ents.length D.d, .string D.R.key, .string D.R.val, .int .i64 D.R.page, .int .i64 D.R.hpage, .int .i64 D.R.hleft, .string D.R.hkey, .int .i64 D.R.nslot, .int .i64 D.R.ngen]
def DmReads (w : World) (A : Option Addr) (n : Nat) (L : List Dm) : Prop :=
  L.length = n ∧ (0 < n → ∃ b off, A = some ⟨b, off, none⟩ ∧ b < w.heap.size ∧ ∀ (k : Nat) (D : Dm), L[k]? = some D → w.rangeAt b (off + k * 23) (dmL D) ∧ (Lit.int .i64 D.a).wf = true)
theorem DmReads.keep {w w' : World} {A : Option Addr} {n : Nat} {L : List Dm} (h : DmReads w A n L) (hf : Fr none_ w w') : DmReads w' A n L :=
  ⟨h.1, fun hn => by
    obtain ⟨b, off, hA, hb, hc⟩ := h.2 hn
    exact ⟨b, off, hA, by have := hf.size; omega, fun k D hD => ⟨fun j v hv => cellFr ((hc k D hD).1 j v hv) hf, (hc k D hD).2⟩⟩⟩
theorem DmReads.at_ {w : World} {A : Option Addr} {n : Nat} {L : List Dm} (h : DmReads w A n L) {k : Nat} {D : Dm} (hD : L[k]? = some D) : ∃ b off, A = some ⟨b, off, none⟩ ∧ b < w.heap.size ∧ w.rangeAt b (off + k * 23) (dmL D) ∧ (Lit.int .i64 D.a).wf = true := by
  obtain ⟨b, off, hA, hb, hc⟩ := h.2 (by have := (List.getElem?_eq_some_iff.1 hD).1; have := h.1; omega)
  exact ⟨b, off, hA, hb, hc k D hD⟩
abbrev dmsZ : Array Value := #[.int .i64 0, .int .i64 0, .int .i64 0, .bool false, .int .i64 0, .int .i64 0, .int .i64 0, .int .i64 0, .int .i64 0, .string ⟨#[]⟩, .string ⟨#[]⟩, .bool false, .int .i64 0, .slice none 0 0, .slice none 0 0, .string ⟨#[]⟩, .string ⟨#[]⟩, .int .i64 0, .int .i64 0, .int .i64 0, .string ⟨#[]⟩, .int .i64 0, .int .i64 0]
theorem dm_one (D : Dm) : (dmL D).toArray.all (·.oneCell') = true := by simp [Value.oneCell']
theorem dms_size : (Tryd.prog.info? 91).map (·.size) = some 23 := by kernel_rfl
theorem dm_there (w : World) : (w.alloc (.cells dmsZ 91)).there w.heap.size 0 23 := new_there w _ dmsZ
theorem dm_copy (w : World) (D : Dm) : Blk ((w.alloc (.cells dmsZ 91)).setCells w.heap.size 0 (dmL D)) w.heap.size 91 (dmL D).toArray ∧ Fr none_ w ((w.alloc (.cells dmsZ 91)).setCells w.heap.size 0 (dmL D)) := new_copy w _ dmsZ _ rfl
set_option maxHeartbeats 4000000 in
theorem rright_any (s p t r c n : Int) (w : World) : Calls Tryd.prog 6 #[.agg #[.int .i64 s, .int .i64 p, .int .i64 t, .int .i64 r, .int .i64 c, .int .i64 n]] w fun e w' => e = .returned (.bool (decide (4 ≤ s ∧ s ≤ 4096 ∧ 3 ≤ p ∧ p ≤ 256 ∧ 1 ≤ t ∧ t ≤ 64 ∧ 2 ≤ r ∧ r ≤ 64 ∧ 2 ≤ c ∧ c ≤ 64 ∧ 8 ≤ n ∧ n ≤ 1099511627776))) ∧ Fr none_ w w' := by
  by_cases g0 : s < 4
  · have E : decide (4 ≤ s ∧ s ≤ 4096 ∧ 3 ≤ p ∧ p ≤ 256 ∧ 1 ≤ t ∧ t ≤ 64 ∧ 2 ≤ r ∧ r ≤ 64 ∧ 2 ≤ c ∧ c ≤ 64 ∧ 8 ≤ n ∧ n ≤ 1099511627776) = false := decide_eq_false (by omega)
    have d0 : decide (s < 4) = true := by simp; omega
    clear g0
    rw [E]
    go_enter Tryd.func6, Tryd.ntmps6
    go_wp2
    go_ret
    exact ⟨rfl, (Fr.refl none_ w).alloc _⟩
  have d0 : decide (s < 4) = false := by simp; omega
  by_cases g1 : 4096 < s
  · have E : decide (4 ≤ s ∧ s ≤ 4096 ∧ 3 ≤ p ∧ p ≤ 256 ∧ 1 ≤ t ∧ t ≤ 64 ∧ 2 ≤ r ∧ r ≤ 64 ∧ 2 ≤ c ∧ c ≤ 64 ∧ 8 ≤ n ∧ n ≤ 1099511627776) = false := decide_eq_false (by omega)
    have d1 : decide (4096 < s) = true := by simp; omega
    clear g1
    clear g0
    rw [E]
    go_enter Tryd.func6, Tryd.ntmps6
    go_wp2
    go_ret
    exact ⟨rfl, (Fr.refl none_ w).alloc _⟩
  have d1 : decide (4096 < s) = false := by simp; omega
  by_cases g2 : p < 3
  · have E : decide (4 ≤ s ∧ s ≤ 4096 ∧ 3 ≤ p ∧ p ≤ 256 ∧ 1 ≤ t ∧ t ≤ 64 ∧ 2 ≤ r ∧ r ≤ 64 ∧ 2 ≤ c ∧ c ≤ 64 ∧ 8 ≤ n ∧ n ≤ 1099511627776) = false := decide_eq_false (by omega)
    have d2 : decide (p < 3) = true := by simp; omega
    clear g2
    clear g0
    clear g1
    rw [E]
    go_enter Tryd.func6, Tryd.ntmps6
    go_wp2
    go_ret
    exact ⟨rfl, (Fr.refl none_ w).alloc _⟩
  have d2 : decide (p < 3) = false := by simp; omega
  by_cases g3 : 256 < p
  · have E : decide (4 ≤ s ∧ s ≤ 4096 ∧ 3 ≤ p ∧ p ≤ 256 ∧ 1 ≤ t ∧ t ≤ 64 ∧ 2 ≤ r ∧ r ≤ 64 ∧ 2 ≤ c ∧ c ≤ 64 ∧ 8 ≤ n ∧ n ≤ 1099511627776) = false := decide_eq_false (by omega)
    have d3 : decide (256 < p) = true := by simp; omega
    clear g3
    clear g0
    clear g1
    clear g2
    rw [E]
    go_enter Tryd.func6, Tryd.ntmps6
    go_wp2
    go_ret
    exact ⟨rfl, (Fr.refl none_ w).alloc _⟩
  have d3 : decide (256 < p) = false := by simp; omega
  by_cases g4 : t < 1
  · have E : decide (4 ≤ s ∧ s ≤ 4096 ∧ 3 ≤ p ∧ p ≤ 256 ∧ 1 ≤ t ∧ t ≤ 64 ∧ 2 ≤ r ∧ r ≤ 64 ∧ 2 ≤ c ∧ c ≤ 64 ∧ 8 ≤ n ∧ n ≤ 1099511627776) = false := decide_eq_false (by omega)
    have d4 : decide (t < 1) = true := by simp; omega
    clear g4
    clear g0
    clear g1
    clear g2
    clear g3
    rw [E]
    go_enter Tryd.func6, Tryd.ntmps6
    go_wp2
    go_ret
    exact ⟨rfl, (Fr.refl none_ w).alloc _⟩
  have d4 : decide (t < 1) = false := by simp; omega
  by_cases g5 : 64 < t
  · have E : decide (4 ≤ s ∧ s ≤ 4096 ∧ 3 ≤ p ∧ p ≤ 256 ∧ 1 ≤ t ∧ t ≤ 64 ∧ 2 ≤ r ∧ r ≤ 64 ∧ 2 ≤ c ∧ c ≤ 64 ∧ 8 ≤ n ∧ n ≤ 1099511627776) = false := decide_eq_false (by omega)
    have d5 : decide (64 < t) = true := by simp; omega
    clear g5
    clear g0
    clear g1
    clear g2
    clear g3
    clear g4
    rw [E]
    go_enter Tryd.func6, Tryd.ntmps6
    go_wp2
    go_ret
    exact ⟨rfl, (Fr.refl none_ w).alloc _⟩
  have d5 : decide (64 < t) = false := by simp; omega
  by_cases g6 : r < 2
  · have E : decide (4 ≤ s ∧ s ≤ 4096 ∧ 3 ≤ p ∧ p ≤ 256 ∧ 1 ≤ t ∧ t ≤ 64 ∧ 2 ≤ r ∧ r ≤ 64 ∧ 2 ≤ c ∧ c ≤ 64 ∧ 8 ≤ n ∧ n ≤ 1099511627776) = false := decide_eq_false (by omega)
    have d6 : decide (2 ≤ r) = false := by simp; omega
    clear g6
    clear g0
    clear g1
    clear g2
    clear g3
    clear g4
    clear g5
    rw [E]
    go_enter Tryd.func6, Tryd.ntmps6
    go_wp2
    go_ret
    exact ⟨rfl, (Fr.refl none_ w).alloc _⟩
  have d6 : decide (2 ≤ r) = true := by simp; omega
  by_cases g7 : 64 < r
  · have E : decide (4 ≤ s ∧ s ≤ 4096 ∧ 3 ≤ p ∧ p ≤ 256 ∧ 1 ≤ t ∧ t ≤ 64 ∧ 2 ≤ r ∧ r ≤ 64 ∧ 2 ≤ c ∧ c ≤ 64 ∧ 8 ≤ n ∧ n ≤ 1099511627776) = false := decide_eq_false (by omega)
    have d7 : decide (r ≤ 64) = false := by simp; omega
    clear g7
    clear g0
    clear g1
    clear g2
    clear g3
    clear g4
    clear g5
    clear g6
    rw [E]
    go_enter Tryd.func6, Tryd.ntmps6
    go_wp2
    go_ret
    exact ⟨rfl, (Fr.refl none_ w).alloc _⟩
  have d7 : decide (r ≤ 64) = true := by simp; omega
  by_cases g8 : c < 2
  · have E : decide (4 ≤ s ∧ s ≤ 4096 ∧ 3 ≤ p ∧ p ≤ 256 ∧ 1 ≤ t ∧ t ≤ 64 ∧ 2 ≤ r ∧ r ≤ 64 ∧ 2 ≤ c ∧ c ≤ 64 ∧ 8 ≤ n ∧ n ≤ 1099511627776) = false := decide_eq_false (by omega)
    have d8 : decide (2 ≤ c) = false := by simp; omega
    clear g8
    clear g0
    clear g1
    clear g2
    clear g3
    clear g4
    clear g5
    clear g6
    clear g7
    rw [E]
    go_enter Tryd.func6, Tryd.ntmps6
    go_wp2
    go_ret
    exact ⟨rfl, (Fr.refl none_ w).alloc _⟩
  have d8 : decide (2 ≤ c) = true := by simp; omega
  by_cases g9 : 64 < c
  · have E : decide (4 ≤ s ∧ s ≤ 4096 ∧ 3 ≤ p ∧ p ≤ 256 ∧ 1 ≤ t ∧ t ≤ 64 ∧ 2 ≤ r ∧ r ≤ 64 ∧ 2 ≤ c ∧ c ≤ 64 ∧ 8 ≤ n ∧ n ≤ 1099511627776) = false := decide_eq_false (by omega)
    have d9 : decide (c ≤ 64) = false := by simp; omega
    clear g9
    clear g0
    clear g1
    clear g2
    clear g3
    clear g4
    clear g5
    clear g6
    clear g7
    clear g8
    rw [E]
    go_enter Tryd.func6, Tryd.ntmps6
    go_wp2
    go_ret
    exact ⟨rfl, (Fr.refl none_ w).alloc _⟩
  have d9 : decide (c ≤ 64) = true := by simp; omega
  by_cases g10 : n < 8
  · have E : decide (4 ≤ s ∧ s ≤ 4096 ∧ 3 ≤ p ∧ p ≤ 256 ∧ 1 ≤ t ∧ t ≤ 64 ∧ 2 ≤ r ∧ r ≤ 64 ∧ 2 ≤ c ∧ c ≤ 64 ∧ 8 ≤ n ∧ n ≤ 1099511627776) = false := decide_eq_false (by omega)
    have d10 : decide (8 ≤ n) = false := by simp; omega
    clear g10
    clear g0
    clear g1
    clear g2
    clear g3
    clear g4
    clear g5
    clear g6
    clear g7
    clear g8
    clear g9
    rw [E]
    go_enter Tryd.func6, Tryd.ntmps6
    go_wp2
    go_ret
    exact ⟨rfl, (Fr.refl none_ w).alloc _⟩
  have d10 : decide (8 ≤ n) = true := by simp; omega
  by_cases g11 : 1099511627776 < n
  · have E : decide (4 ≤ s ∧ s ≤ 4096 ∧ 3 ≤ p ∧ p ≤ 256 ∧ 1 ≤ t ∧ t ≤ 64 ∧ 2 ≤ r ∧ r ≤ 64 ∧ 2 ≤ c ∧ c ≤ 64 ∧ 8 ≤ n ∧ n ≤ 1099511627776) = false := decide_eq_false (by omega)
    have d11 : decide (n ≤ 1099511627776) = false := by simp; omega
    clear g11
    clear g0
    clear g1
    clear g2
    clear g3
    clear g4
    clear g5
    clear g6
    clear g7
    clear g8
    clear g9
    clear g10
    rw [E]
    go_enter Tryd.func6, Tryd.ntmps6
    go_wp2
    go_ret
    exact ⟨rfl, (Fr.refl none_ w).alloc _⟩
  have d11 : decide (n ≤ 1099511627776) = true := by simp; omega
  have E : decide (4 ≤ s ∧ s ≤ 4096 ∧ 3 ≤ p ∧ p ≤ 256 ∧ 1 ≤ t ∧ t ≤ 64 ∧ 2 ≤ r ∧ r ≤ 64 ∧ 2 ≤ c ∧ c ≤ 64 ∧ 8 ≤ n ∧ n ≤ 1099511627776) = true := decide_eq_true (by omega)
  clear g0 g1 g2 g3 g4 g5 g6 g7 g8 g9 g10 g11
  rw [E]
  go_enter Tryd.func6, Tryd.ntmps6
  go_wp2
  go_ret
  exact ⟨rfl, (Fr.refl none_ w).alloc _⟩
def FewPost9 (n : Nat) (w : World) (e : Ending) (w' : World) : Prop := (∃ b : Bool, e = .returned (.bool b) ∧ (b = true → n ≤ 60)) ∧ Fr none_ w w'
set_option maxHeartbeats 4000000 in
theorem few9_ok (l : Array Value) (s p t r c q : Int) (hl : l = #[.int .i64 s, .int .i64 p, .int .i64 t, .int .i64 r, .int .i64 c, .int .i64 q]) (A : Option Addr) (n cap : Nat) (L : List Dm) (w : World) (h : DmReads w A n L) (hm : n ≤ maxLen) :
    Calls Tryd.prog 5 #[.agg l, .slice A n cap] w (FewPost9 n w) := by
  subst hl
  unfold maxLen at hm
  obtain ⟨w0, hw0⟩ : ∃ z, z = w.alloc (.cells #[.int .i64 s, .int .i64 p, .int .i64 t, .int .i64 r, .int .i64 c, .int .i64 q] 23) := ⟨_, rfl⟩
  have f0 : Fr none_ w w0 := by rw [hw0]; exact (Fr.refl none_ w).alloc _
  have BL : Hid (Blk w0 w.heap.size 23 #[.int .i64 s, .int .i64 p, .int .i64 t, .int .i64 r, .int .i64 c, .int .i64 q]) := hid_ (by rw [hw0]; exact Blk.new w _ _)
  have H := hid_ (h.keep f0)
  have F0 := hid_ f0
  have hln := h.1
  clear h f0
  go_enter Tryd.func5, Tryd.ntmps5
  go_upto_region 1 with fail
  change Code.wp _ _ _ _ (w.alloc (.cells #[.int .i64 s, .int .i64 p, .int .i64 t, .int .i64 r, .int .i64 c, .int .i64 q] 23))
  rw [← hw0]
  clear hw0
  go_wp2_with fail
  go_loopw [9] (fun i wr => ∃ k : Nat, k ≤ n ∧ i = .int .i64 k ∧ Fr none_ w0 wr) (fun i _ => n - (intOf i).toNat)
  case atStart => exact ⟨0, Nat.zero_le _, rfl, Fr.refl _ _⟩
  case round =>
    obtain ⟨k, hk, rfl, hfr⟩ := hrel
    have F := hid_ hfr
    clear hfr
    have hi0 : (0 : Int) ≤ (k : Int) := Int.natCast_nonneg _
    by_cases hlt : k < n
    · obtain ⟨D, hD⟩ : ∃ D, L[k]? = some D := ⟨_, List.getElem?_eq_getElem (by omega)⟩
      obtain ⟨b, off, rfl, hb, hR, hO⟩ := (H.out.keep F.out).at_ hD
      have HR := hid_ hR
      have hi1 : (k : Int) < (n : Int) := by omega
      clear hR hO hD
      by_cases h1 : 60 < (D.R.rows.length : Int)
      · go_wp2_with (first | (refine wpList_load_mid rfl 91 (.tmp 11) rfl b (off + k * 23) rfl (dmL D) _ HR.out Tryd.underlying91 rfl dms_size ?_) | (refine wpList_store_mid rfl 91 (.tmp 6) (.tmp 12) rfl wr.heap.size 0 (dmL D).toArray rfl rfl (dm_there wr) dms_size (dm_one D) ?_; obtain ⟨w1, hw1⟩ : ∃ w1, w1 = (wr.alloc (.cells dmsZ 91)).setCells wr.heap.size 0 (dmL D) := ⟨_, rfl⟩; change wpList _ _ _ _ _ ((wr.alloc (.cells dmsZ 91)).setCells wr.heap.size 0 (dmL D)); rw [← hw1]; have P1 : Hid (Blk w1 wr.heap.size 91 (dmL D).toArray ∧ Fr none_ wr w1) := hid_ (by rw [hw1]; exact dm_copy wr D); clear hw1; have z13 : w1.cell? ⟨wr.heap.size, 13, none⟩ = some (.slice D.A D.R.rows.length D.c) := P1.out.1.cell' rfl; have z14 : w1.cell? ⟨wr.heap.size, 14, none⟩ = some (.slice D.B D.R.ents.length D.d) := P1.out.1.cell' rfl))
        go_ret
        exact ⟨⟨false, rfl, (fun h => by cases h)⟩, (F0.out.then_none F.out).then_none P1.out.2⟩
      by_cases h2 : 60 < (D.R.ents.length : Int)
      · go_wp2_with (first | (refine wpList_load_mid rfl 91 (.tmp 11) rfl b (off + k * 23) rfl (dmL D) _ HR.out Tryd.underlying91 rfl dms_size ?_) | (refine wpList_store_mid rfl 91 (.tmp 6) (.tmp 12) rfl wr.heap.size 0 (dmL D).toArray rfl rfl (dm_there wr) dms_size (dm_one D) ?_; obtain ⟨w1, hw1⟩ : ∃ w1, w1 = (wr.alloc (.cells dmsZ 91)).setCells wr.heap.size 0 (dmL D) := ⟨_, rfl⟩; change wpList _ _ _ _ _ ((wr.alloc (.cells dmsZ 91)).setCells wr.heap.size 0 (dmL D)); rw [← hw1]; have P1 : Hid (Blk w1 wr.heap.size 91 (dmL D).toArray ∧ Fr none_ wr w1) := hid_ (by rw [hw1]; exact dm_copy wr D); clear hw1; have z13 : w1.cell? ⟨wr.heap.size, 13, none⟩ = some (.slice D.A D.R.rows.length D.c) := P1.out.1.cell' rfl; have z14 : w1.cell? ⟨wr.heap.size, 14, none⟩ = some (.slice D.B D.R.ents.length D.d) := P1.out.1.cell' rfl))
        go_ret
        exact ⟨⟨false, rfl, (fun h => by cases h)⟩, (F0.out.then_none F.out).then_none P1.out.2⟩
      go_wp2_with (first | (refine wpList_load_mid rfl 91 (.tmp 11) rfl b (off + k * 23) rfl (dmL D) _ HR.out Tryd.underlying91 rfl dms_size ?_) | (refine wpList_store_mid rfl 91 (.tmp 6) (.tmp 12) rfl wr.heap.size 0 (dmL D).toArray rfl rfl (dm_there wr) dms_size (dm_one D) ?_; obtain ⟨w1, hw1⟩ : ∃ w1, w1 = (wr.alloc (.cells dmsZ 91)).setCells wr.heap.size 0 (dmL D) := ⟨_, rfl⟩; change wpList _ _ _ _ _ ((wr.alloc (.cells dmsZ 91)).setCells wr.heap.size 0 (dmL D)); rw [← hw1]; have P1 : Hid (Blk w1 wr.heap.size 91 (dmL D).toArray ∧ Fr none_ wr w1) := hid_ (by rw [hw1]; exact dm_copy wr D); clear hw1; have z13 : w1.cell? ⟨wr.heap.size, 13, none⟩ = some (.slice D.A D.R.rows.length D.c) := P1.out.1.cell' rfl; have z14 : w1.cell? ⟨wr.heap.size, 14, none⟩ = some (.slice D.B D.R.ents.length D.d) := P1.out.1.cell' rfl))
      go_roundw
      case rel => exact ⟨k + 1, by omega, by go_num, F.out.then_none P1.out.2⟩
      case measure => simp [intOf]; omega
    · obtain rfl : k = n := by omega
      have B1 := hid_ (BL.out.fr F.out id)
      have v0 : wr.cell? ⟨w.heap.size, 0, none⟩ = some (.int .i64 s) := B1.out.cell' rfl
      have v1 : wr.cell? ⟨w.heap.size, 1, none⟩ = some (.int .i64 p) := B1.out.cell' rfl
      have v2 : wr.cell? ⟨w.heap.size, 2, none⟩ = some (.int .i64 t) := B1.out.cell' rfl
      have v3 : wr.cell? ⟨w.heap.size, 3, none⟩ = some (.int .i64 r) := B1.out.cell' rfl
      have v4 : wr.cell? ⟨w.heap.size, 4, none⟩ = some (.int .i64 c) := B1.out.cell' rfl
      have v5 : wr.cell? ⟨w.heap.size, 5, none⟩ = some (.int .i64 q) := B1.out.cell' rfl
      by_cases h0 : (k : Int) ≤ 60
      · have d0 : decide ((k : Int) ≤ 60) = true := by simpa using h0
        have hk6 : k ≤ 60 := by omega
        clear h0
        by_cases h1 : s ≤ 60
        · have d1 : decide (s ≤ 60) = true := by simpa using h1
          clear h1
          by_cases h2 : p ≤ 60
          · have d2 : decide (p ≤ 60) = true := by simpa using h2
            clear h2
            go_wp2_with fail
            go_ret
            exact ⟨⟨true, rfl, fun _ => hk6⟩, F0.out.then_none F.out⟩
          · have d2 : decide (p ≤ 60) = false := by simpa using h2
            clear h2
            go_wp2_with fail
            refine (rright_any s p t r c q _).mono ?_
            rintro e w2 ⟨rfl, hf2⟩
            have F2 := hid_ hf2
            clear hf2
            go_wp2_with fail
            go_ret
            exact ⟨⟨_, rfl, fun _ => hk6⟩, (F0.out.then_none F.out).then_none F2.out⟩
        · have d1 : decide (s ≤ 60) = false := by simpa using h1
          clear h1
          go_wp2_with fail
          refine (rright_any s p t r c q _).mono ?_
          rintro e w2 ⟨rfl, hf2⟩
          have F2 := hid_ hf2
          clear hf2
          go_wp2_with fail
          go_ret
          exact ⟨⟨_, rfl, fun _ => hk6⟩, (F0.out.then_none F.out).then_none F2.out⟩
      · have d0 : decide ((k : Int) ≤ 60) = false := by simpa using h0
        clear h0
        go_wp2_with fail
        go_ret
        exact ⟨⟨false, rfl, (fun h => by cases h)⟩, F0.out.then_none F.out⟩
end Go.Proofs.YtfihfjbakfadkaaDoor

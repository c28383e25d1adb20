/- Texts of one proof, merged: ErrOf, Code, Map2, Rt10, Rt10b, Rt10c, Rt10d, Rt10e, Alloc, At. -/
import Derived.Deep.RegionHeld3
import Derived.Deep.RegionLaw
import Derived.Deep.RegionWith
import Derived.Deep.MidRow
import Derived.Test.YtfihfjbakfadkaaDoorMcA
import Derived.Test.YtfihfjbakfadkaaDoorMcD
namespace Go.Proofs.YtfihfjbakfadkaaDoor
open Go.RowKit
set_option linter.unusedVariables false

def errOf (k : Int) : Value := if k = 0 then .nilIface else errV k
theorem errOf_pos {k : Int} (h : k ≠ 0) : errOf k = errV k := if_neg h
end Go.Proofs.YtfihfjbakfadkaaDoor
namespace Go.Proofs.YtfihfjbakfadkaaDoor
open Go.RowKit
set_option linter.unusedVariables false

/-- The variable errors.errorType holds the handle of the type error. -/
def Laid (w : World) : Prop := w.cell? ⟨0, 0, none⟩ = some (.iface 185 (.agg #[.pointer (some ⟨1, 31, none⟩)]))
theorem Laid.lt {w : World} (h : Laid w) : 0 < w.heap.size := World.block_lt_of_cell? w _ h
theorem Laid.fr {w w' : World} {S : Nat → Prop} (h : Laid w) (hf : Fr S w w') (hS : ¬ S 0) : Laid w' :=
  (World.cell?_of_block (hf.block 0 h.lt hS)).trans h
theorem Laid.alloc {w : World} (h : Laid w) (o : Obj) : Laid (w.alloc o) := h.fr ((Fr.refl none_ w).alloc o) id

theorem code_nil (w : World) : Calls Tryd.prog 17 #[.nilIface] w fun e w' => e = .returned (.int .i64 0) ∧ Fr none_ w w' := by
  go_enter Tryd.func17, Tryd.ntmps17
  go_wp2_with (go_at_call 48; refine (as_nil _ _).mono ?_; rintro e w' ⟨rfl, rfl⟩)
  go_ret
  exact ⟨rfl, by repeat (first | exact Fr.refl _ _ | apply Fr.drew | apply Fr.alloc)⟩

end Go.Proofs.YtfihfjbakfadkaaDoor
namespace Go.Proofs.YtfihfjbakfadkaaDoor
open Go.RowKit

theorem page_info : (Tryd.prog.info? 154).map (fun i => (i.zero, i.size, i.bytes)) = some (some (.agg #[.bool false, .int .i64 0, .int .i64 0]), 3, 24) := by kernel_rfl

theorem run_make_rowN {P : Program} (t e : TypeId) (i : TypeInfo) (z : Value) (ht : P.underlying t = some (.slice e)) (hi : P.info? e = some i) (hz : i.zero = some z)
    (kl kc : IntKind) (n c : Nat) (hnc : n ≤ c) (hbytes : i.bytes * c ≤ 281474976710656) (h63 : c ≤ 9223372036854775807) (w : World) :
    (Instr.makeSlice t (.int kl (n : Int)) (.int kc (c : Int))).run P w = .ok (.slice (some ⟨w.heap.size, 0, none⟩) n c) (w.alloc (.cells (madeCells z.cells (c * i.size)) e)) := by
  have hb : (i.bytes : Int) * (c : Int) ≤ 281474976710656 := by
    have h : ((i.bytes * c : Nat) : Int) ≤ 281474976710656 := by omega
    rwa [Int.natCast_mul] at h
  have hr := run_make (P := P) w t e i z ht hi hz kl kc n c (by omega) (by omega) hb (by omega)
  simp only [Int.toNat_natCast] at hr
  exact hr

theorem madeCells3 (a b c : Value) (n i : Nat) (hi : i < n) : (madeCells #[a, b, c] (n * 3))[i * 3]? = some a ∧ (madeCells #[a, b, c] (n * 3))[i * 3 + 1]? = some b ∧ (madeCells #[a, b, c] (n * 3))[i * 3 + 1 + 1]? = some c := by
  have h0 : i * 3 < n * 3 := by omega
  have h1 : i * 3 + 1 < n * 3 := by omega
  have h2 : i * 3 + 1 + 1 < n * 3 := by omega
  refine ⟨?_, ?_, ?_⟩
  · simp [madeCells, h0]
  · have : (i * 3 + 1) % 3 = 1 := by omega
    simp [madeCells, h1, this]
  · have : (i * 3 + 1 + 1) % 3 = 2 := by omega
    simp [madeCells, h2, this]

def NewPost (n : Nat) (w : World) (e : Ending) (w' : World) : Prop :=
  e = .returned (.pointer (some ⟨w.heap.size + 1, 0, none⟩)) ∧ Tbl w' (w.heap.size + 1) w.heap.size (List.replicate n (false, 0, 0)) ∧ Fr none_ w w' ∧ w'.heap.size = w.heap.size + 2

theorem mapNew_ok (n : Nat) (w : World) (h1 : 1 ≤ n) (h2 : n ≤ 256) : Calls Tryd.prog 30 #[.int .i64 n] w (NewPost n w) := by
  have hfin : NewPost n w (.returned (.pointer (some ⟨w.heap.size + 1, 0, none⟩))) ((w.alloc (.cells (madeCells #[.bool false, .int .i64 0, .int .i64 0] (n * 3)) 154)).alloc (.cells #[.slice (some ⟨w.heap.size, 0, none⟩) n n] 146)) := by
    refine ⟨rfl, ⟨n, madeCells #[.bool false, .int .i64 0, .int .i64 0] (n * 3), ?_, ?_, by simpa using h2, by simp, by unfold maxLen; omega, by simp [size_madeCells], ?_⟩, ((Fr.refl _ _).alloc _).alloc _, by simp⟩
    · have := Blk.new (w.alloc (.cells (madeCells #[.bool false, .int .i64 0, .int .i64 0] (n * 3)) 154)) 146 #[.slice (some ⟨w.heap.size, 0, none⟩) n n]
      simpa using this
    · exact (Blk.new w _ _).alloc _
    · intro i p hi
      obtain ⟨hlt, rfl⟩ : i < n ∧ p = (false, 0, 0) := by
        rw [List.getElem?_replicate] at hi
        split at hi
        · exact ⟨by assumption, by simpa using hi.symm⟩
        · cases hi
      exact madeCells3 _ _ _ n i hlt
  obtain ⟨i0, hi0, hz0, hs0, hb0⟩ := info_parts page_info
  have hmk := fun W => run_make_rowN (P := Tryd.prog) 144 154 i0 _ Tryd.underlying144 hi0 hz0 .i64 .i64 n n (Nat.le_refl _) (by rw [hb0]; omega) (by omega) W
  rw [hs0] at hmk
  simp only [Value.cells] at hmk
  have H := hid_ hfin
  clear hfin hi0 hz0 hs0 hb0
  go_enter Tryd.func30, Tryd.ntmps30
  go_wp2
  go_ret
  exact H.out

theorem mtake_ok (T G : Nat) (ps : List Pg) (n : Nat) (s g : Int) (w : World) (h : Tbl w T G ps) (hn : ps[n]? = some (false, s, g)) (hu : ∀ (j : Nat) (p : Pg), j < n → ps[j]? = some p → p.1 = true) :
    Calls Tryd.prog 33 #[.pointer (some ⟨T, 0, none⟩)] w fun e w' => e = .returned (.tuple #[.int .i64 n, .nilIface]) ∧ w' = setPg w G n (true, 0, 0) := by
  obtain ⟨cap, cur, hT, hG, h1, h2, h3, h4, h5⟩ := h
  have hnl : n < ps.length := (List.getElem?_eq_some_iff.1 hn).1
  have c0 : w.cell? ⟨T, 0, none⟩ = some (.slice (some ⟨G, 0, none⟩) ps.length cap) := hT.cell' (i := 0) rfl
  have hc : ∀ k, k < n → w.cell? ⟨G, k * 3, none⟩ = some (.bool true) := fun k hk => by
    have hi : ps[k]? = some ps[k] := List.getElem?_eq_getElem (by omega)
    have := hG.cell' (h5 k _ hi).1
    rwa [hu k _ hk hi] at this
  obtain ⟨d0, d1, d2⟩ := h5 n _ hn
  have e0 := hG.cell' d0
  have e1 := hG.cell' d1
  have e2 := hG.cell' d2
  have f := hG.frozen
  have f0 := f (n * 3)
  have f1 := f (n * 3 + 1)
  have f2 := f (n * 3 + 1 + 1)
  have Hc := hid_ hc
  clear hT hG h5 hu hc hn f d0 d1 d2
  go_enter Tryd.func33, Tryd.ntmps33
  go_wp2
  go_loop [13] (fun i => ∃ k : Nat, k ≤ n ∧ i = .int .i64 k) (fun i => ps.length - (intOf i).toNat)
  case atStart => exact ⟨0, Nat.zero_le _, rfl⟩
  case round =>
    obtain ⟨k, hk, rfl⟩ := hrel
    by_cases hlt : k < n
    · have hcx := Hc.out k hlt
      go_wp2
      go_round
      case rel => exact ⟨k + 1, by omega, by go_num⟩
      case measure => simp [intOf]; omega
    · obtain rfl : k = n := by omega
      go_wp2
      go_ret2
      exact ⟨rfl, rfl⟩
end Go.Proofs.YtfihfjbakfadkaaDoor
namespace Go.Proofs.YtfihfjbakfadkaaDoor
open Go.RowKit
set_option linter.unusedVariables false

/-- A used page of the document's: its number, its head. -/
abbrev Rp := Int × Int × Int
def rtFlat (L : List Rp) : List Value := L.flatMap fun p => [.int .i64 p.1, .int .i64 p.2.1, .int .i64 p.2.2]
theorem rtFlat_get : ∀ (L : List Rp) (i : Nat) (p : Rp), L[i]? = some p → (rtFlat L)[i * 3]? = some (.int .i64 p.1) ∧ (rtFlat L)[i * 3 + 1]? = some (.int .i64 p.2.1) ∧ (rtFlat L)[i * 3 + 1 + 1]? = some (.int .i64 p.2.2)
  | [], i, p, h => by simp at h
  | q :: L, 0, p, h => by
    obtain rfl : q = p := by simpa using h
    simp [rtFlat]
  | q :: L, i + 1, p, h => by
    have := rtFlat_get L i p (by simpa using h)
    rw [show (i + 1) * 3 = i * 3 + 1 + 1 + 1 by omega]
    simpa [rtFlat, List.flatMap_cons] using this
theorem rtFlat_one (L : List Rp) : ∀ u ∈ rtFlat L, u.oneCell' = true := by
  intro u hu
  simp only [rtFlat, List.mem_flatMap, List.mem_cons, List.not_mem_nil, or_false] at hu
  obtain ⟨p, _, rfl | rfl | rfl⟩ := hu <;> rfl

/-- Where a used page stands in the list; -1: nowhere. -/
def findL : List Rp → Int → Int
  | [], _ => -1
  | p :: L, n => if p.1 = n then 0 else if findL L n < 0 then -1 else findL L n + 1
theorem findL_ge (L : List Rp) (n : Int) : -1 ≤ findL L n ∧ findL L n < L.length := by
  induction L with
  | nil => simp [findL]
  | cons p L ih => simp only [findL, List.length_cons]; split <;> (try split) <;> omega
theorem findL_at : ∀ (L : List Rp) (n : Int) (i : Nat) (p : Rp), L[i]? = some p → p.1 = n → (∀ j q, j < i → L[j]? = some q → q.1 ≠ n) → findL L n = i
  | [], n, i, p, h, _, _ => by simp at h
  | q :: L, n, 0, p, h, hp, _ => by
    obtain rfl : q = p := by simpa using h
    simp [findL, hp]
  | q :: L, n, i + 1, p, h, hp, hb => by
    have h0 : q.1 ≠ n := hb 0 q (by omega) rfl
    have := findL_at L n i p (by simpa using h) hp (fun j r hj hr => hb (j + 1) r (by omega) (by simpa using hr))
    simp only [findL, if_neg h0, this]
    rw [if_neg (by omega)]
    omega
theorem findL_no (L : List Rp) (n : Int) (h : ∀ p ∈ L, p.1 ≠ n) : findL L n = -1 := by
  induction L with
  | nil => rfl
  | cons p L ih => simp [findL, h p (by simp), ih (fun q hq => h q (by simp [hq]))]

abbrev ROwn (w : World) (v : Value) (L : List Rp) : Prop := w.ownsRow 0 120 3 v L.length (rtFlat L)
abbrev rtab (count : Int) (v : Value) : Value := .agg #[.int .i64 count, v]
abbrev rbox (count : Int) (v : Value) : Obj := .cells #[.int .i64 count, v] 49

theorem rown_cell {w : World} {A : Option Addr} {c : Nat} {L : List Rp} (h : ROwn w (.slice A L.length c) L) : 0 < L.length → ∃ g, A = some ⟨g, 0, none⟩ ∧ g < w.heap.size ∧ ∀ i p, L[i]? = some p →
    w.cell? ⟨g, i * 3, none⟩ = some (.int .i64 p.1) ∧ w.cell? ⟨g, i * 3 + 1, none⟩ = some (.int .i64 p.2.1) ∧ w.cell? ⟨g, i * 3 + 1 + 1, none⟩ = some (.int .i64 p.2.2) := by
  intro hn
  obtain ⟨A', c', hv, _, _, hp⟩ := own_parts h
  obtain ⟨g, hA, hg, hc⟩ := hp hn
  have hA' : A = some ⟨g, 0, none⟩ := by
    injection hv with h1
    rw [h1, hA]
  refine ⟨g, hA', hg, fun i p hi => ?_⟩
  obtain ⟨d0, d1, d2⟩ := rtFlat_get L i p hi
  exact ⟨hc _ _ d0, hc _ _ d1, hc _ _ d2⟩

set_option maxHeartbeats 400000 in
theorem find_any (count n : Int) (A : Option Addr) (c : Nat) (L : List Rp) (w : World) (h : ROwn w (.slice A L.length c) L) (hl : L.length ≤ 1000) :
    Calls Tryd.prog 43 #[rtab count (.slice A L.length c), .int .i64 n] w fun e w' => e = .returned (.int .i64 (findL L n)) ∧ w' = w.alloc (rbox count (.slice A L.length c)) := by
  have hcell := rown_cell h
  have Hc := hid_ hcell
  clear hcell h
  go_enter Tryd.func43, Tryd.ntmps43
  go_wp2_with fail
  go_loop [5] (fun i => ∃ k : Nat, k ≤ L.length ∧ i = .int .i64 k ∧ ∀ j q, j < k → L[j]? = some q → q.1 ≠ n) (fun i => L.length - (intOf i).toNat)
  case atStart => exact ⟨0, Nat.zero_le _, rfl, fun j q hj => by omega⟩
  case round =>
    obtain ⟨k, hk, rfl, hb⟩ := hrel
    have Hb := hid_ hb
    clear hb
    by_cases hlt : k < L.length
    · obtain ⟨g, rfl, hgl, hcl⟩ := Hc.out (by omega)
      obtain ⟨p, hp⟩ : ∃ p, L[k]? = some p := ⟨L[k], List.getElem?_eq_getElem hlt⟩
      have c0 := (hcl k p hp).1
      have Hp := hid_ hp
      clear hcl hp
      by_cases he : p.1 = n
      · have Hf := hid_ (findL_at L n k p Hp.out he Hb.out)
        have he2 : (p.1 == n) = true := by simpa using he
        clear he
        go_wp2
        go_ret
        exact ⟨by rw [Hf.out]; rfl, rfl⟩
      · have he2 : (p.1 == n) = false := by simpa using he
        have He := hid_ he
        clear he
        go_wp2
        go_round
        case rel => exact ⟨k + 1, by omega, by go_num, fun j q hj hq => by
          rcases Nat.lt_or_ge j k with h1 | h1
          · exact Hb.out j q h1 hq
          · obtain rfl : j = k := by omega
            obtain rfl : p = q := by have := Hp.out.symm.trans hq; simpa using this
            exact He.out⟩
        case measure => simp [intOf]; omega
    · obtain rfl : k = L.length := by omega
      have Hf := hid_ (findL_no L n (fun p hp => by
        obtain ⟨j, hj, hpj⟩ := List.mem_iff_getElem.1 hp
        exact Hb.out j p hj (by rw [List.getElem?_eq_getElem hj, hpj])))
      go_wp2
      go_ret
      exact ⟨by rw [Hf.out]; rfl, rfl⟩
end Go.Proofs.YtfihfjbakfadkaaDoor
namespace Go.Proofs.YtfihfjbakfadkaaDoor
open Go.RowKit
set_option linter.unusedVariables false

theorem rtnew (n : Int) (w : World) : Calls Tryd.prog 38 #[.int .i64 n] w fun e w' => e = .returned (.tuple #[rtab n (.slice none 0 0), .bool (decide (1 ≤ n) && decide (n ≤ 256))]) ∧ Fr none_ w w' := by
  by_cases h1 : 1 ≤ n
  · by_cases h2 : n ≤ 256
    · have hb : (decide (1 ≤ n) && decide (n ≤ 256)) = true := by simp [h1, h2]
      rw [hb]
      go_enter Tryd.func38, Tryd.ntmps38
      go_wp2
      exact bodyPost_ret (v := .tuple #[rtab n (.slice none 0 0), .bool true]) (by simp [results, Tryd.results38, go_sem]) rfl ⟨rfl, by repeat (first | exact Fr.refl _ _ | apply Fr.drew | apply Fr.alloc)⟩
    · have hb : (decide (1 ≤ n) && decide (n ≤ 256)) = false := by simp [h2]
      rw [hb]
      go_enter Tryd.func38, Tryd.ntmps38
      go_wp2
      exact bodyPost_ret (v := .tuple #[rtab n (.slice none 0 0), .bool false]) (by simp [results, Tryd.results38, go_sem]) rfl ⟨rfl, by repeat (first | exact Fr.refl _ _ | apply Fr.drew | apply Fr.alloc)⟩
  · have hb : (decide (1 ≤ n) && decide (n ≤ 256)) = false := by simp [h1]
    rw [hb]
    go_enter Tryd.func38, Tryd.ntmps38
    go_wp2
    exact bodyPost_ret (v := .tuple #[rtab n (.slice none 0 0), .bool false]) (by simp [results, Tryd.results38, go_sem]) rfl ⟨rfl, by repeat (first | exact Fr.refl _ _ | apply Fr.drew | apply Fr.alloc)⟩

section
variable (count n : Int) (A : Option Addr) (c : Nat) (L : List Rp) (w : World)
theorem why_arg (hn : n < 0 ∨ count ≤ n) : Calls Tryd.prog 42 #[rtab count (.slice A L.length c), .int .i64 n] w fun e w' => e = .returned (.int .i64 1) ∧ w' = w.alloc (rbox count (.slice A L.length c)) := by
  by_cases hn0 : n < 0
  · clear hn
    go_enter Tryd.func42, Tryd.ntmps42
    go_wp2
    go_ret
    exact ⟨rfl, rfl⟩
  · have hle : count ≤ n := by omega
    clear hn
    go_enter Tryd.func42, Tryd.ntmps42
    go_wp2
    go_ret
    exact ⟨rfl, rfl⟩

theorem why_none (h : ROwn w (.slice A L.length c) L) (hl : L.length ≤ 1000) (h0 : 0 ≤ n) (h1 : n < count) (hf : findL L n = -1) :
    Calls Tryd.prog 42 #[rtab count (.slice A L.length c), .int .i64 n] w fun e w' => e = .returned (.int .i64 6) ∧ w' = (w.alloc (rbox count (.slice A L.length c))).alloc (rbox count (.slice A L.length c)) := by
  have H := hid_ h
  have Hf := hid_ hf
  clear h hf
  go_enter Tryd.func42, Tryd.ntmps42
  go_wp2_with fail
  refine (find_any count n A c L _ (H.out.alloc _) hl).mono ?_
  rintro e w1 ⟨rfl, rfl⟩
  rw [Hf.out]
  go_wp2
  go_ret
  exact ⟨rfl, rfl⟩

theorem why_ok (h : ROwn w (.slice A L.length c) L) (hl : L.length ≤ 1000) (h0 : 0 ≤ n) (h1 : n < count) (hf : 0 ≤ findL L n) :
    Calls Tryd.prog 42 #[rtab count (.slice A L.length c), .int .i64 n] w fun e w' => e = .returned (.int .i64 0) ∧ w' = (w.alloc (rbox count (.slice A L.length c))).alloc (rbox count (.slice A L.length c)) := by
  have H := hid_ h
  clear h
  go_enter Tryd.func42, Tryd.ntmps42
  go_wp2_with fail
  refine (find_any count n A c L _ (H.out.alloc _) hl).mono ?_
  rintro e w1 ⟨rfl, rfl⟩
  go_wp2
  go_ret
  exact ⟨rfl, rfl⟩
end

/-- What why answers: a code. -/
def whyL (count : Int) (L : List Rp) (n : Int) : Int := if n < 0 ∨ count ≤ n then 1 else if findL L n = -1 then 6 else 0

theorem rhead_err (count n : Int) (A : Option Addr) (c : Nat) (L : List Rp) (w : World) (h : ROwn w (.slice A L.length c) L) (hl : L.length ≤ 1000) (k : Int) (hk : whyL count L n = k) (hk0 : k ≠ 0) :
    Calls Tryd.prog 46 #[rtab count (.slice A L.length c), .int .i64 n] w fun e w' => e = .returned (.tuple #[.agg #[.int .i64 0, .int .i64 0], .int .i64 k]) ∧ Fr none_ w w' := by
  have H := hid_ h
  clear h
  by_cases hn : n < 0 ∨ count ≤ n
  · obtain rfl : k = 1 := by rw [← hk, whyL, if_pos hn]
    have Hn := hid_ hn
    clear hn hk hk0
    go_enter Tryd.func46, Tryd.ntmps46
    go_wp2_with (go_at_call 42; refine (why_arg count n A c L _ Hn.out).mono ?_; rintro e w' ⟨rfl, rfl⟩)
    exact bodyPost_ret (v := .tuple #[.agg #[.int .i64 0, .int .i64 0], .int .i64 1]) (by simp [results, Tryd.results46, go_sem]) rfl ⟨rfl, by repeat (first | exact Fr.refl _ _ | apply Fr.drew | apply Fr.alloc)⟩
  · have hf : findL L n = -1 := by
      unfold whyL at hk
      rw [if_neg hn] at hk
      split at hk
      · assumption
      · exact absurd hk.symm hk0
    obtain rfl : k = 6 := by rw [← hk, whyL, if_neg hn, if_pos hf]
    have h0 : 0 ≤ n := by omega
    have h1 : n < count := by omega
    have Hf := hid_ hf
    clear hf hn hk hk0
    go_enter Tryd.func46, Tryd.ntmps46
    go_wp2_with (go_at_call 42; refine (why_none count n A c L _ (own_none H.out (by repeat (first | exact Fr.refl _ _ | apply Fr.drew | apply Fr.alloc))) hl h0 h1 Hf.out).mono ?_; rintro e w' ⟨rfl, rfl⟩)
    exact bodyPost_ret (v := .tuple #[.agg #[.int .i64 0, .int .i64 0], .int .i64 6]) (by simp [results, Tryd.results46, go_sem]) rfl ⟨rfl, by repeat (first | exact Fr.refl _ _ | apply Fr.drew | apply Fr.alloc)⟩

theorem rhead_ok (count n : Int) (A : Option Addr) (c : Nat) (L : List Rp) (w : World) (h : ROwn w (.slice A L.length c) L) (hl : L.length ≤ 1000) (h0 : 0 ≤ n) (h1 : n < count) (i : Nat) (m s g : Int) (hf : findL L n = i) (hi : L[i]? = some (m, s, g)) :
    Calls Tryd.prog 46 #[rtab count (.slice A L.length c), .int .i64 n] w fun e w' => e = .returned (.tuple #[.agg #[.int .i64 s, .int .i64 g], .int .i64 0]) ∧ Fr none_ w w' := by
  have hil : i < L.length := (List.getElem?_eq_some_iff.1 hi).1
  obtain ⟨b, rfl, hb, hcl⟩ := rown_cell h (by omega)
  obtain ⟨_, d1, d2⟩ := hcl i _ hi
  have H := hid_ h
  have Hf := hid_ hf
  have Hg := hid_ (show 0 ≤ findL L n by omega)
  clear h hf hcl hi
  go_enter Tryd.func46, Tryd.ntmps46
  go_wp2_with fail
  refine (why_ok count n _ c L _ (own_none H.out (by repeat (first | exact Fr.refl _ _ | apply Fr.drew | apply Fr.alloc))) hl h0 h1 Hg.out).mono ?_
  rintro e w1 ⟨rfl, hw1⟩
  have f1 : Fr none_ ((w.alloc (rbox count (.slice (some ⟨b, 0, none⟩) L.length c))).alloc (.cells #[.int .i64 0, .int .i64 0] 25)) w1 := by
    rw [hw1]; repeat (first | exact Fr.refl _ _ | apply Fr.alloc)
  have f0 : Fr none_ w w1 := (((Fr.refl none_ w).alloc _).alloc _).then_none f1
  have k2 := ((Blk.new w 49 #[.int .i64 count, .slice (some ⟨b, 0, none⟩) L.length c]).alloc (.cells #[.int .i64 0, .int .i64 0] 25)).fr f1 id
  have k4 := (Blk.new (w.alloc (rbox count (.slice (some ⟨b, 0, none⟩) L.length c))) 25 #[.int .i64 0, .int .i64 0]).fr f1 id
  rw [World.size_alloc] at k4
  have c20 : w1.cell? ⟨w.heap.size, 0, none⟩ = some (.int .i64 count) := k2.cell' rfl
  have c21 : w1.cell? ⟨w.heap.size, 1, none⟩ = some (.slice (some ⟨b, 0, none⟩) L.length c) := k2.cell' rfl
  have c40 : w1.cell? ⟨w.heap.size + 1, 0, none⟩ = some (.int .i64 0) := k4.cell' rfl
  have c41 : w1.cell? ⟨w.heap.size + 1, 1, none⟩ = some (.int .i64 0) := k4.cell' rfl
  have z40 := k4.frozen 0
  have z41 := k4.frozen 1
  have e1 : w1.cell? ⟨b, i * 3 + 1, none⟩ = some (.int .i64 s) := (f0.below0.cell (p := ⟨b, i * 3 + 1, none⟩) hb).trans d1
  have e2 : w1.cell? ⟨b, i * 3 + 1 + 1, none⟩ = some (.int .i64 g) := (f0.below0.cell (p := ⟨b, i * 3 + 1 + 1, none⟩) hb).trans d2
  have H1 := hid_ (own_none H.out f0)
  have F1 := hid_ f0
  have K4 := hid_ k4
  have hz2 := k2.lt
  have hz4 := k4.lt
  have hi0 : (0 : Int) ≤ (i : Int) := Int.natCast_nonneg _
  have hi1 : (i : Int) < (L.length : Int) := by omega
  have n1 := World.new_ne w1 ⟨b, i * 3 + 1, none⟩ e1
  have n2 := World.new_ne w1 ⟨w.heap.size, 0, none⟩ c20
  have n4 := World.new_ne w1 ⟨w.heap.size + 1, 0, none⟩ c40
  have hbz : b < w1.heap.size := by omega
  have hbn : b ≠ w.heap.size + 1 := by omega
  have hbn2 : w.heap.size + 1 ≠ b := by omega
  clear f0 f1 hw1 k2 k4 d1 d2
  go_wp2_with fail
  go_region_held3 (fun w' => w'.cell? ⟨w.heap.size, 0, none⟩ = some (.int .i64 count) ∧ w'.cell? ⟨w.heap.size, 1, none⟩ = some (.slice (some ⟨b, 0, none⟩) L.length c) ∧ w'.cell? ⟨b, i * 3 + 1, none⟩ = some (.int .i64 s) ∧ w'.cell? ⟨b, i * 3 + 1 + 1, none⟩ = some (.int .i64 g)) (go_keep)
    (first | (go_at_call 43; refine (find_any count n _ c L _ ?_ hl).mono ?_; (exact own_none H1.out (by repeat (first | exact Fr.refl _ _ | apply Fr.drew | apply Fr.alloc))); rintro e w' ⟨rfl, rfl⟩; rw [Hf.out]))
  all_goals go_wp2
  have q := (((K4.out.set_ 0 (.int .i64 s)).set_ 1 (.int .i64 g)).alloc (rbox count (.slice (some ⟨b, 0, none⟩) L.length c))).drew
  have q0 := q.cell' (i := 0) rfl
  have q1 := q.cell' (i := 1) rfl
  clear q c40 c41 z40 z41
  refine bodyPost_ret (v := .tuple #[.agg #[.int .i64 s, .int .i64 g], .int .i64 0]) ?_ rfl ⟨rfl, ?_⟩
  · simp [results, Tryd.results46, go_sem, q0, q1]
  · repeat (first | exact F1.out | apply Fr.drew | apply Fr.alloc | refine Fr.setCell ?_ (.inr (by simp)) _)
end Go.Proofs.YtfihfjbakfadkaaDoor
namespace Go.Proofs.YtfihfjbakfadkaaDoor
open Go.RowKit
set_option linter.unusedVariables false

theorem rpage_info : (Tryd.prog.info? 120).map (fun i => (i.zero, i.size, i.bytes)) = some (some (.agg #[.int .i64 0, .int .i64 0, .int .i64 0]), 3, 24) := by kernel_rfl

/-- What holds at a round's head of a loop of the document's that looks at each page. -/
structure RLoop (w wr : World) (count : Int) (v : Value) (L : List Rp) : Prop where
  b0 : Blk wr w.heap.size 49 #[.int .i64 count, v]
  own : ROwn wr v L
  fr : Fr none_ w wr
theorem RLoop.none_ {w wr w' : World} {count : Int} {v : Value} {L : List Rp} (h : RLoop w wr count v L) (hf : Fr none_ wr w') : RLoop w w' count v L :=
  ⟨h.b0.fr hf id, own_none h.own hf, h.fr.then_none hf⟩

def RTakePost (w : World) (count : Int) (L : List Rp) (n : Nat) (e : Ending) (w' : World) : Prop :=
  ∃ A c, e = .returned (.tuple #[rtab count (.slice A (L ++ [((n : Int), 0, 0)]).length c), .int .i64 n, .int .i64 0]) ∧ ROwn w' (.slice A (L ++ [((n : Int), 0, 0)]).length c) (L ++ [((n : Int), 0, 0)]) ∧ Fr none_ w w'

set_option maxHeartbeats 1000000 in
theorem rtake_ok (count n : Nat) (A : Option Addr) (c : Nat) (L : List Rp) (w : World) (h : ROwn w (.slice A L.length c) L) (hl : L.length ≤ 1000) (hc : count ≤ 1000) (hn : n < count) (hf : findL L n = -1) (hu : ∀ j : Nat, j < n → 0 ≤ findL L j) :
    Calls Tryd.prog 40 #[rtab count (.slice A L.length c)] w (RTakePost w count L n) := by
  obtain ⟨i0, hi0, hz0, hs0, hb0⟩ := info_parts rpage_info
  have H := hid_ h
  have Hu := hid_ hu
  have Hf := hid_ hf
  have Hi := hid_ (And.intro hi0 (And.intro hz0 (And.intro hs0 hb0)))
  clear h hu hf hi0 hz0 hs0 hb0
  go_enter Tryd.func40, Tryd.ntmps40
  go_wp2_with fail
  go_loopw [5] (fun i wr => ∃ k : Nat, k ≤ n ∧ i = .int .i64 k ∧ RLoop w wr count (.slice A L.length c) L ∧ Blk wr (w.heap.size + 1) 49 #[.int .i64 0, .slice none 0 0]) (fun i _ => count - (intOf i).toNat)
  case atStart =>
    refine ⟨0, Nat.zero_le _, rfl, ⟨(Blk.new w _ _).alloc _, own_none H.out (((Fr.refl none_ w).alloc _).alloc _), ((Fr.refl none_ w).alloc _).alloc _⟩, ?_⟩
    have := Blk.new (w.alloc (rbox count (.slice A L.length c))) 49 #[.int .i64 0, .slice none 0 0]
    simpa using this
  case round =>
    obtain ⟨k, hk, rfl, hR, hB⟩ := hrel
    have c0 : wr.cell? ⟨w.heap.size, 0, none⟩ = some (.int .i64 count) := hR.b0.cell' rfl
    have c1 : wr.cell? ⟨w.heap.size, 1, none⟩ = some (.slice A L.length c) := hR.b0.cell' rfl
    have z0 := hR.b0.lt
    have z1 := hB.lt
    have R := hid_ hR
    have B := hid_ hB
    clear hR hB
    by_cases hlt : k < n
    · have hge := Hu.out k hlt
      go_wp2_with fail
      refine (find_any count k A c L wr R.out.own hl).mono ?_
      rintro e w' ⟨rfl, rfl⟩
      go_wp2
      go_roundw
      case rel => exact ⟨k + 1, by omega, by go_num, R.out.none_ ((Fr.refl none_ _).alloc _), B.out.alloc _⟩
      case measure => simp [intOf]; omega
    · obtain rfl : k = n := by omega
      go_wp2_with fail
      refine (find_any count k A c L wr R.out.own hl).mono ?_
      rintro e w2 ⟨rfl, hw2⟩
      rw [Hf.out]
      have R2 : Hid (RLoop w w2 count (.slice A L.length c) L) := hid_ (by rw [hw2]; exact R.out.none_ ((Fr.refl none_ wr).alloc _))
      have B2 : Hid (Blk w2 (w.heap.size + 1) 49 #[.int .i64 0, .slice none 0 0]) := hid_ (by rw [hw2]; exact B.out.alloc _)
      have e0 : w2.cell? ⟨w.heap.size, 0, none⟩ = some (.int .i64 count) := R2.out.b0.cell' rfl
      have e1 : w2.cell? ⟨w.heap.size, 1, none⟩ = some (.slice A L.length c) := R2.out.b0.cell' rfl
      have y0 := R2.out.b0.lt
      have y1 := B2.out.lt
      clear hw2 c0 c1 z0 z1
      have hsrc : Hid (Reads (w2.alloc (.cells #[] 120)) 3 A L.length (rtFlat L)) := hid_ ((Reads.of_own R2.out.own).alloc _)
      go_wp2_with (first
        | (at_builtin; refine wpList_append_any _ rfl (.tmp 16) (.tmp 18) 47 rfl w2.heap.size 120 i0 _ 3 24 Tryd.underlying47 Hi.out.1 Hi.out.2.1 Hi.out.2.2.1 Hi.out.2.2.2 rfl (by omega) (.slice (some ⟨w2.heap.size, 0, none⟩) 0 0) 0 [] rfl (own_empty_at _ _ _ _ _ (Nat.le_refl _) rfl) A L.length c (rtFlat L) rfl hsrc.out (rtFlat_one L) (by simp only [maxLen]; omega) (by omega) (by simp) ?_; intro A1 c1 w3 hown3 hgr3; simp only [Nat.zero_add, List.nil_append] at hown3; have F3 := hid_ (((Fr.refl none_ w2).alloc (.cells #[] 120)).grown hgr3 (fun k hk => .inr (by simp [Value.ownBlock] at hk; omega))); have O3 := hid_ hown3; clear hown3 hgr3; have hz3 := F3.out.size)
        | (at_builtin; refine wpList_append_any _ rfl (.tmp 19) (.tmp 22) 47 rfl w2.heap.size 120 i0 _ 3 24 Tryd.underlying47 Hi.out.1 Hi.out.2.1 Hi.out.2.2.1 Hi.out.2.2.2 rfl (by omega) (.slice A1 L.length c1) L.length (rtFlat L) rfl (O3.out.alloc _) (some ⟨w3.heap.size, 0, none⟩) 1 1 [.int .i64 k, .int .i64 0, .int .i64 0] rfl (reads_new _ _ _ _ rfl) (by simp [Value.oneCell']) (by simp only [maxLen]; omega) (by omega) (by simp; omega) ?_; intro A2 c2 w4 hown4 hgr4; have F4 := hid_ ((F3.out.alloc (.cells #[.int .i64 k, .int .i64 0, .int .i64 0] 120)).grown hgr4 (fun j hj => .inr (O3.out.lt j hj).1)); have O4 := hid_ hown4; clear hown4 hgr4; have R4 := hid_ (R2.out.none_ F4.out); have g0 : w4.cell? ⟨w.heap.size, 0, none⟩ = some (.int .i64 count) := R4.out.b0.cell' rfl; have g1 : w4.cell? ⟨w.heap.size, 1, none⟩ = some (.slice A L.length c) := R4.out.b0.cell' rfl; have f1 := R4.out.b0.frozen 1; have B4 := hid_ (B2.out.fr F4.out id); have g2 : w4.cell? ⟨w.heap.size + 1, 0, none⟩ = some (.int .i64 0) := B4.out.cell' rfl; have g3 : w4.cell? ⟨w.heap.size + 1, 1, none⟩ = some (.slice none 0 0) := B4.out.cell' rfl; have f2 := B4.out.frozen 0; have f3 := B4.out.frozen 1))
      have q := (((B4.out.far (p := ⟨w.heap.size, 1, none⟩) (by simp) (.slice A2 (L.length + 1) c2)).set_ 0 (.int .i64 count)).set_ 1 (.slice A2 (L.length + 1) c2))
      have q0 := q.cell' (i := 0) rfl
      have q1 := q.cell' (i := 1) rfl
      clear q g0 g1 g2 g3 f1 f2 f3
      refine bodyPost_ret (v := .tuple #[rtab count (.slice A2 (L.length + 1) c2), .int .i64 k, .int .i64 0]) ?_ rfl ?_
      · simp [results, Tryd.results40, go_sem, q0, q1]
      · refine ⟨A2, c2, by simp, ?_, ?_⟩
        · have := O4.out
          have hfl : rtFlat (L ++ [((k : Int), 0, 0)]) = rtFlat L ++ [.int .i64 k, .int .i64 0, .int .i64 0] := by simp [rtFlat]
          have hlen : (L ++ [((k : Int), 0, 0)]).length = L.length + 1 := by simp
          unfold ROwn
          rw [hfl, hlen]
          refine own_fr (S := fun b => b = w.heap.size ∨ b = w.heap.size + 1) (own_base this (Nat.zero_le _)) ?_ ?_
          · exact (((Fr.refl _ _).setCell (p := ⟨w.heap.size, 1, none⟩) (.inl (.inl rfl)) _).setCell (p := ⟨w.heap.size + 1, 0, none⟩) (.inl (.inr rfl)) _).setCell (p := ⟨w.heap.size + 1, 1, none⟩) (.inl (.inr rfl)) _
          · intro j hj
            have := (O4.out.lt j hj).1
            omega
        · exact ((R4.out.fr.setCell (p := ⟨w.heap.size, 1, none⟩) (.inr (by simp)) _).setCell (p := ⟨w.heap.size + 1, 0, none⟩) (.inr (by simp)) _).setCell (p := ⟨w.heap.size + 1, 1, none⟩) (.inr (by simp)) _

end Go.Proofs.YtfihfjbakfadkaaDoor
namespace Go.Proofs.YtfihfjbakfadkaaDoor
open Go.RowKit
set_option linter.unusedVariables false

/-- why, whatever it answers: nothing of what was there turns. -/
theorem why_any (count n : Int) (A : Option Addr) (c : Nat) (L : List Rp) (w : World) (h : ROwn w (.slice A L.length c) L) (hl : L.length ≤ 1000) :
    Calls Tryd.prog 42 #[rtab count (.slice A L.length c), .int .i64 n] w fun e w' => e = .returned (.int .i64 (whyL count L n)) ∧ Fr none_ w w' := by
  by_cases hn : n < 0 ∨ count ≤ n
  · have : whyL count L n = 1 := by rw [whyL, if_pos hn]
    rw [this]
    exact (why_arg count n A c L w hn).mono fun _ _ ⟨h1, h2⟩ => ⟨h1, h2 ▸ (Fr.refl none_ w).alloc _⟩
  · by_cases hf : findL L n = -1
    · have : whyL count L n = 6 := by rw [whyL, if_neg hn, if_pos hf]
      rw [this]
      exact (why_none count n A c L w h hl (by omega) (by omega) hf).mono fun _ _ ⟨h1, h2⟩ => ⟨h1, h2 ▸ ((Fr.refl none_ w).alloc _).alloc _⟩
    · have : whyL count L n = 0 := by rw [whyL, if_neg hn, if_neg hf]
      rw [this]
      exact (why_ok count n A c L w h hl (by omega) (by omega) (by have := (findL_ge L n).1; omega)).mono fun _ _ ⟨h1, h2⟩ => ⟨h1, h2 ▸ ((Fr.refl none_ w).alloc _).alloc _⟩

/-- What holds inside Give and its like: the receiver's box, the result's box, the list. -/
structure GSt (w w' : World) (count : Int) (v : Value) (L : List Rp) (b : Nat) (x y : Value) : Prop where
  b0 : Blk w' w.heap.size 49 #[.int .i64 count, v]
  b1 : Blk w' b 49 #[x, y]
  fr : Fr none_ w w'
  own : ROwn w' v L
  hb : w.heap.size < b
theorem GSt.keep {w w' w2 : World} {count : Int} {v x y : Value} {L : List Rp} {b : Nat} (h : GSt w w' count v L b x y) (hf : Fr none_ w' w2) : GSt w w2 count v L b x y :=
  ⟨h.b0.fr hf id, h.b1.fr hf id, h.fr.then_none hf, own_none h.own hf, h.hb⟩
theorem GSt.drew {w w' : World} {count : Int} {v x y : Value} {L : List Rp} {b : Nat} (h : GSt w w' count v L b x y) : GSt w w'.drew count v L b x y := h.keep ((Fr.refl none_ w').drew)
theorem GSt.cells {w w' : World} {count : Int} {v x y : Value} {L : List Rp} {b : Nat} (h : GSt w w' count v L b x y) :
    w'.cell? ⟨w.heap.size, 0, none⟩ = some (.int .i64 count) ∧ w'.cell? ⟨w.heap.size, 1, none⟩ = some v ∧ w'.cell? ⟨b, 0, none⟩ = some x ∧ w'.cell? ⟨b, 1, none⟩ = some y :=
  ⟨h.b0.cell' rfl, h.b0.cell' rfl, h.b1.cell' rfl, h.b1.cell' rfl⟩

end Go.Proofs.YtfihfjbakfadkaaDoor
namespace Go.Proofs.YtfihfjbakfadkaaDoor
open Go.RowKit
set_option linter.unusedVariables false

structure SSt (w w' : World) (count : Int) (v : Value) (L : List Rp) (a b c d : Int) (x y : Value) : Prop where
  g : GSt w w' count v L (w.heap.size + 1 + 1 + 1) x y
  b2 : Blk w' (w.heap.size + 1) 25 #[.int .i64 a, .int .i64 b]
  b3 : Blk w' (w.heap.size + 1 + 1) 25 #[.int .i64 c, .int .i64 d]
theorem SSt.keep {w w' w2 : World} {count : Int} {v x y : Value} {L : List Rp} {a b c d : Int} (h : SSt w w' count v L a b c d x y) (hf : Fr none_ w' w2) : SSt w w2 count v L a b c d x y :=
  ⟨h.g.keep hf, h.b2.fr hf id, h.b3.fr hf id⟩
theorem SSt.drew {w w' : World} {count : Int} {v x y : Value} {L : List Rp} {a b c d : Int} (h : SSt w w' count v L a b c d x y) : SSt w w'.drew count v L a b c d x y := h.keep ((Fr.refl none_ w').drew)
/-- Behind the boxes of Swap, and whatever call. -/
theorem SSt.start (w w1 : World) (count : Int) (v : Value) (L : List Rp) (a b c d : Int) (h : ROwn w v L)
    (hf : Fr none_ ((((w.alloc (rbox count v)).alloc (.cells #[.int .i64 a, .int .i64 b] 25)).alloc (.cells #[.int .i64 c, .int .i64 d] 25)).alloc (.cells #[.int .i64 0, .slice none 0 0] 49)) w1) :
    SSt w w1 count v L a b c d (.int .i64 0) (.slice none 0 0) := by
  have F := ((((Fr.refl none_ w).alloc (rbox count v)).alloc (.cells #[.int .i64 a, .int .i64 b] 25)).alloc (.cells #[.int .i64 c, .int .i64 d] 25)).alloc (.cells #[.int .i64 0, .slice none 0 0] 49)
  have k2 := (Blk.new (w.alloc (rbox count v)) 25 #[.int .i64 a, .int .i64 b])
  have k3 := (Blk.new ((w.alloc (rbox count v)).alloc (.cells #[.int .i64 a, .int .i64 b] 25)) 25 #[.int .i64 c, .int .i64 d])
  have k4 := (Blk.new (((w.alloc (rbox count v)).alloc (.cells #[.int .i64 a, .int .i64 b] 25)).alloc (.cells #[.int .i64 c, .int .i64 d] 25)) 49 #[.int .i64 0, .slice none 0 0])
  simp only [World.size_alloc] at k2 k3 k4
  exact ⟨⟨((((Blk.new w _ _).alloc _).alloc _).alloc _).fr hf id, k4.fr hf id, F.then_none hf, own_none h (F.then_none hf), by omega⟩, ((k2.alloc _).alloc _).fr hf id, (k3.alloc _).fr hf id⟩

def RSwapPost (w : World) (count : Int) (L : List Rp) (i : Nat) (m c d : Int) (e : Ending) (w' : World) : Prop :=
  ∃ A cp, e = .returned (.tuple #[rtab count (.slice A (L.set i (m, c, d)).length cp), .bool true, .int .i64 0]) ∧ ROwn w' (.slice A (L.set i (m, c, d)).length cp) (L.set i (m, c, d)) ∧ Fr none_ w w' ∧ (∀ ad, A = some ad → w.heap.size ≤ ad.block)

theorem rtFlat_set : ∀ (L : List Rp) (i : Nat) (m s g c d : Int), L[i]? = some (m, s, g) → ((rtFlat L).set (i * 3 + 1) (.int .i64 c)).set (i * 3 + 1 + 1) (.int .i64 d) = rtFlat (L.set i (m, c, d))
  | [], i, m, s, g, c, d, h => by simp at h
  | q :: L, 0, m, s, g, c, d, h => by
    obtain rfl : q = (m, s, g) := by simpa using h
    simp [rtFlat]
  | q :: L, i + 1, m, s, g, c, d, h => by
    have := rtFlat_set L i m s g c d (by simpa using h)
    rw [show (i + 1) * 3 = i * 3 + 1 + 1 + 1 by omega]
    simpa [rtFlat, List.flatMap_cons] using this

set_option maxHeartbeats 1000000 in
theorem rswap_yes (count n : Int) (A : Option Addr) (cp : Nat) (L : List Rp) (a b c d : Int) (w : World) (h : ROwn w (.slice A L.length cp) L) (hl : L.length ≤ 1000) (h0 : 0 ≤ n) (h1 : n < count) (i : Nat) (m : Int) (hf : findL L n = i) (hi : L[i]? = some (m, a, b)) :
    Calls Tryd.prog 13 #[rtab count (.slice A L.length cp), .int .i64 n, .agg #[.int .i64 a, .int .i64 b], .agg #[.int .i64 c, .int .i64 d]] w (RSwapPost w count L i m c d) := by
  obtain ⟨i0, hi0', hz0, hs0, hb0⟩ := info_parts rpage_info
  have Hi := hid_ (And.intro hi0' (And.intro hz0 (And.intro hs0 hb0)))
  have hil : i < L.length := (List.getElem?_eq_some_iff.1 hi).1
  have H := hid_ h
  have Hf := hid_ hf
  have Hk : Hid (whyL count L n = 0) := hid_ (by rw [whyL, if_neg (by omega), if_neg (by omega)])
  have Hx := hid_ hi
  clear h hf hi hi0' hz0 hs0 hb0
  go_enter Tryd.func13, Tryd.ntmps13
  go_wp2_with fail
  refine (why_any count n A cp L _ (own_none H.out (by repeat (first | exact Fr.refl _ _ | apply Fr.alloc))) hl).mono ?_
  rintro e w1 ⟨rfl, hf1⟩
  rw [Hk.out]
  have S1 := hid_ (SSt.start w w1 count _ L a b c d H.out hf1)
  obtain ⟨c20, c21, _, _⟩ := S1.out.g.cells
  clear hf1
  go_wp2_with fail
  refine (find_any count n A cp L w1 S1.out.g.own hl).mono ?_
  rintro e w2 ⟨rfl, hw2⟩
  rw [Hf.out]
  have S2 : Hid (SSt w w2 count (.slice A L.length cp) L a b c d (.int .i64 0) (.slice none 0 0)) := hid_ (S1.out.keep (by rw [hw2]; exact (Fr.refl none_ w1).alloc _))
  clear hw2 c20 c21
  obtain ⟨gb, hA, hgl, hcl⟩ := rown_cell S2.out.g.own (by omega)
  obtain ⟨_, e1, e2⟩ := hcl i _ Hx.out
  clear hcl
  subst hA
  obtain ⟨c20, c21, r0, r1⟩ := S2.out.g.cells
  have d0 : w2.cell? ⟨w.heap.size + 1, 0, none⟩ = some (.int .i64 a) := S2.out.b2.cell' rfl
  have d1 : w2.cell? ⟨w.heap.size + 1, 1, none⟩ = some (.int .i64 b) := S2.out.b2.cell' rfl
  have hi0 : (0 : Int) ≤ (i : Int) := Int.natCast_nonneg _
  have hi1 : (i : Int) < (L.length : Int) := by omega
  have hz2 := S2.out.g.b0.lt
  go_wp2_with fail
  go_quiet (fail)
  obtain ⟨wq, hwq⟩ : ∃ wq, wq = w2.drewN nq := ⟨_, rfl⟩
  rw [← hwq]
  have Sq : Hid (SSt w wq count (.slice (some ⟨gb, 0, none⟩) L.length cp) L a b c d (.int .i64 0) (.slice none 0 0)) := hid_ (by rw [hwq]; exact S2.out.keep ((Fr.refl none_ w2).drewN nq))
  clear hwq c20 c21 r0 r1 d0 d1 hz2 e1 e2
  have hzq := Sq.out.g.b0.lt
  obtain ⟨c20, c21, _, _⟩ := Sq.out.g.cells
  have hmax : Hid (0 + L.length ≤ maxLen) := hid_ (by simp only [maxLen]; omega)
  have hby : Hid ((0 + L.length) * 24 ≤ 140737488355328) := hid_ (by omega)
  have hbs : Hid (wq.heap.size ≤ (wq.alloc (.cells #[] 120)).heap.size) := hid_ (by simp)
  have hsrc : Hid (Reads (wq.alloc (.cells #[] 120)) 3 (some ⟨gb, 0, none⟩) L.length (rtFlat L)) := hid_ ((Reads.of_own Sq.out.g.own).alloc _)
  go_wp2_with (at_builtin; refine wpList_append_any _ rfl (.tmp 33) (.tmp 35) 47 rfl wq.heap.size 120 i0 _ 3 24 Tryd.underlying47 Hi.out.1 Hi.out.2.1 Hi.out.2.2.1 Hi.out.2.2.2 rfl (by omega) (.slice (some ⟨wq.heap.size, 0, none⟩) 0 0) 0 [] rfl (own_empty_at wq _ _ _ _ (Nat.le_refl _) rfl) (some ⟨gb, 0, none⟩) L.length cp (rtFlat L) rfl hsrc.out (rtFlat_one L) hmax.out hby.out hbs.out ?_; intro A1 c1 w3 hown3 hgr3; simp only [Nat.zero_add, List.nil_append] at hown3; have F3 := hid_ (((Fr.refl none_ wq).alloc (.cells #[] 120)).grown hgr3 (fun k hk => .inr (by simp [Value.ownBlock] at hk; omega))); clear hgr3; obtain ⟨g1, hA1, hg1, hcl1⟩ := rown_cell (own_base hown3 (Nat.zero_le _)) (by omega); subst hA1; obtain ⟨x0, x1, x2⟩ := hcl1 i _ Hx.out; have y1 := hown3.frozenAt (i * 3 + 1); have y2 := hown3.frozenAt (i * 3 + 1 + 1); have O3 := hid_ hown3; clear hown3 hcl1; have S3 := hid_ (Sq.out.keep F3.out); have j0 : w3.cell? ⟨w.heap.size + 1 + 1, 0, none⟩ = some (.int .i64 c) := S3.out.b3.cell' rfl; have j1 : w3.cell? ⟨w.heap.size + 1 + 1, 1, none⟩ = some (.int .i64 d) := S3.out.b3.cell' rfl; obtain ⟨k0, k1, k2, k3⟩ := S3.out.g.cells; have k4 := S3.out.g.b0.frozen 1; have k5 := S3.out.g.b1.frozen 0; have k6 := S3.out.g.b1.frozen 1; have k7 : wq.heap.size ≤ g1 := (O3.out.lt g1 rfl).1; have k8 := Sq.out.g.b1.lt; have k9 : ¬ g1 = w.heap.size := by omega)
  have hg3 : ¬ g1 = w.heap.size + 1 + 1 + 1 := by have := k7; have := k8; omega
  have q := (((S3.out.g.b1.far (p := ⟨g1, i * 3 + 1, none⟩) (by show w.heap.size + 1 + 1 + 1 ≠ g1; omega) (.int .i64 c)).far (p := ⟨g1, i * 3 + 1 + 1, none⟩) (by show w.heap.size + 1 + 1 + 1 ≠ g1; omega) (.int .i64 d)).far (p := ⟨w.heap.size, 1, none⟩) (by show w.heap.size + 1 + 1 + 1 ≠ w.heap.size; omega) (.slice (some ⟨g1, 0, none⟩) L.length c1)).set_ 0 (.int .i64 count) |>.set_ 1 (.slice (some ⟨g1, 0, none⟩) L.length c1)
  have q0 := q.cell' (i := 0) rfl
  have q1 := q.cell' (i := 1) rfl
  clear q k0 k1 k2 k3 k4 k5 k6 j0 j1 x0 x1 x2 y1 y2
  refine bodyPost_ret (v := .tuple #[rtab count (.slice (some ⟨g1, 0, none⟩) L.length c1), .bool true, .int .i64 0]) ?_ rfl ⟨some ⟨g1, 0, none⟩, c1, by simp, ?_, ?_, fun ad e => by cases e; show w.heap.size ≤ g1; omega⟩
  · simp [results, Tryd.results13, go_sem, q0, q1]
  · unfold ROwn
    rw [List.length_set, ← rtFlat_set L i m a b c d Hx.out]
    have o1 := ((O3.out.stored (i * 3 + 1) (.int .i64 c)).1.stored (i * 3 + 1 + 1) (.int .i64 d)).1
    refine own_fr (S := fun b => b = w.heap.size ∨ b = w.heap.size + 1 + 1 + 1) (own_base o1 (Nat.zero_le _)) ?_ ?_
    · exact (((Fr.refl _ _).setCell (p := ⟨w.heap.size, 1, none⟩) (.inl (.inl rfl)) _).setCell (p := ⟨w.heap.size + 1 + 1 + 1, 0, none⟩) (.inl (.inr rfl)) _).setCell (p := ⟨w.heap.size + 1 + 1 + 1, 1, none⟩) (.inl (.inr rfl)) _
    · intro k hk
      obtain rfl : g1 = k := by simpa [Value.ownBlock] using hk
      omega
  · exact ((((S3.out.g.fr.setCell (p := ⟨g1, i * 3 + 1, none⟩) (.inr (by show w.heap.size ≤ g1; omega)) _).setCell (p := ⟨g1, i * 3 + 1 + 1, none⟩) (.inr (by show w.heap.size ≤ g1; omega)) _).setCell (p := ⟨w.heap.size, 1, none⟩) (.inr (Nat.le_refl w.heap.size)) _).setCell (p := ⟨w.heap.size + 1 + 1 + 1, 0, none⟩) (.inr (by show w.heap.size ≤ w.heap.size + 1 + 1 + 1; omega)) _).setCell (p := ⟨w.heap.size + 1 + 1 + 1, 1, none⟩) (.inr (by show w.heap.size ≤ w.heap.size + 1 + 1 + 1; omega)) _
end Go.Proofs.YtfihfjbakfadkaaDoor
namespace Go.Proofs.YtfihfjbakfadkaaDoor
open Go.RowKit
set_option maxRecDepth 100000
set_option linter.unusedVariables false

theorem Ar.there {w : World} {a G : Nat} {last : Int} {ss : List Sl} (h : Ar w a G last ss) {i : Nat} (hi : i < ss.length) {o n : Nat} (ho : i * 17 ≤ o) (hn : o + n ≤ i * 17 + 17) : w.there G o n := by
  obtain ⟨cs, hG, hc⟩ := h.hG
  intro j hj
  refine ⟨?_, hG.frozen _⟩
  rw [hG.cell, Array.getElem?_eq_getElem (by rw [hc.1]; omega)]
  rfl
theorem slot_size : (Tryd.prog.info? 152).map (·.size) = some 17 := by kernel_rfl
theorem rec_size : (Tryd.prog.info? 41).map (·.size) = some 15 := by kernel_rfl
theorem box2 {w1 : World} {b : Nat} {t : TypeId} {c0 c1 : Value} (h : Blk w1 b t #[c0, c1]) (x0 x1 : Value) : Blk ((w1.setCell ⟨b, 0, none⟩ x0).setCell ⟨b, 1, none⟩ x1) b t #[x0, x1] ∧ Fr (only b) w1 ((w1.setCell ⟨b, 0, none⟩ x0).setCell ⟨b, 1, none⟩ x1) :=
  ⟨(h.set_ 0 x0).set_ 1 x1, ((Fr.refl (only b) w1).setCell (p := ⟨b, 0, none⟩) (.inl (Eq.refl _)) x0).setCell (p := ⟨b, 1, none⟩) (.inl (Eq.refl _)) x1⟩

def allocErr (ss : List Sl) : Int := if ss.all (·.used) then 3 else 5
theorem allocErr_used {ss : List Sl} {k : Nat} {s : Sl} (hs : ss[k]? = some s) (hu : s.used = true) : allocErr (ss.take (k + 1)) = allocErr (ss.take k) := by
  unfold allocErr
  rw [List.take_add_one, hs]
  simp [hu]
theorem allocErr_worn {ss : List Sl} {k : Nat} {s : Sl} (hs : ss[k]? = some s) (hu : s.used = false) : allocErr (ss.take (k + 1)) = 5 := by
  unfold allocErr
  rw [List.take_add_one, hs]
  simp [hu]
def AllocPost (w : World) (a G : Nat) (last : Int) (ss : List Sl) (R : Rc) (e : Ending) (w' : World) : Prop :=
  (∃ (i : Nat) (s : Sl) (vr ve : Value), ss[i]? = some s ∧ (s.used = false ∧ s.gen ≠ last) ∧ (∀ j t, j < i → ss[j]? = some t → t.used = true ∨ t.gen = last) ∧ e = .returned (.tuple #[.agg #[.int .i64 ((i : Int) + 1), .int .i64 (s.gen + 1)], .nilIface]) ∧ Ar w' a G last (ss.set i ⟨s.gen + 1, true, R, vr, ve⟩) ∧ RecOwn w' w.heap.size R vr ve ∧ Fr (only G) w w') ∨
  ((∀ (j : Nat) t, ss[j]? = some t → t.used = true ∨ t.gen = last) ∧ e = .returned (.tuple #[.agg #[.int .i64 0, .int .i64 0], errV (allocErr ss)]) ∧ Fr none_ w w')

set_option maxHeartbeats 4000000 in
theorem alloc_ok (R : Rc) (A : Option Addr) (c : Nat) (B : Option Addr) (d : Nat) (w : World) (a G : Nat) (last : Int) (ss : List Sl) (h : Ar w a G last ss) (hr : RecReads w R A B) (hz : R.rows.length ≤ 1000 ∧ R.ents.length ≤ 1000) :
    Calls Tryd.prog 32 #[.pointer (some ⟨a, 0, none⟩), recV R (.slice A R.rows.length c) (.slice B R.ents.length d)] w (AllocPost w a G last ss R) := by
  have hlen := h.len
  have hl40 := h.l40
  obtain ⟨w0, hw0⟩ : ∃ w0, w0 = (w.alloc (recB R (.slice A R.rows.length c) (.slice B R.ents.length d))).alloc (.cells #[.int .i64 0, .int .i64 0] 25) := ⟨_, rfl⟩
  have f0 : Fr none_ w w0 := by rw [hw0]; exact ((Fr.refl none_ w).alloc _).alloc _
  have F0 := hid_ f0
  have X0 := hid_ (h.keep f0)
  have R0 := hid_ (hr.keep f0)
  have P0 : Hid (Blk w0 w.heap.size 41 (recA R (.slice A R.rows.length c) (.slice B R.ents.length d))) := hid_ (by rw [hw0]; exact (Blk.new w _ _).alloc _)
  have Q0 : Hid (Blk w0 (w.heap.size + 1) 25 #[.int .i64 0, .int .i64 0]) := hid_ (by have := Blk.new (w.alloc (recB R (.slice A R.rows.length c) (.slice B R.ents.length d))) 25 #[.int .i64 0, .int .i64 0]; rw [World.size_alloc] at this; rw [hw0]; exact this)
  have hltA := h.ltA
  have hltG := h.ltG
  have lA : a < w.heap.size + 1 := by omega
  have lA2 : a < w.heap.size + 1 + 1 := by omega
  have c0 : w.cell? ⟨a, 0, none⟩ = some (.slice (some ⟨G, 0, none⟩) ss.length ss.length) := h.hA.cell' rfl
  clear f0 h hr
  go_enter Tryd.func32, Tryd.ntmps32
  go_wp2_with fail
  change Code.wp _ _ _ _ ((w.alloc (recB R (.slice A R.rows.length c) (.slice B R.ents.length d))).alloc (.cells #[.int .i64 0, .int .i64 0] 25))
  rw [← hw0]
  clear hw0 c0
  go_loopw [19, 6] (fun i e wr => ∃ (k : Nat) (ek : Int), k ≤ ss.length ∧ i = .int .i64 k ∧ e = errV ek ∧ ek = allocErr (ss.take k) ∧ (∀ j t, j < k → ss[j]? = some t → t.used = true ∨ t.gen = last) ∧ Fr none_ w0 wr) (fun i _ _ => ss.length - (intOf i).toNat)
  case atStart => exact ⟨0, 3, Nat.zero_le _, rfl, rfl, by simp [allocErr], fun j t hj => by omega, Fr.refl _ _⟩
  case round =>
    obtain ⟨k, ek, hk, rfl, rfl, hek, hno, hF⟩ := hrel
    have Hek := hid_ hek
    have Hno := hid_ hno
    have F := hid_ (F0.out.then_none hF)
    have FL := hid_ hF
    have X := hid_ (X0.out.keep hF)
    have R1 := hid_ (R0.out.keep hF)
    have P := hid_ (P0.out.fr hF id)
    have Q := hid_ (Q0.out.fr hF id)
    clear hek hno hF
    by_cases hlt : k < ss.length
    · obtain ⟨s, hs⟩ : ∃ s, ss[k]? = some s := ⟨_, List.getElem?_eq_getElem hlt⟩
      have hi0 : (0 : Int) ≤ (k : Int) := Int.natCast_nonneg _
      have hi1 : (k : Int) < (ss.length : Int) := by omega
      have a0 : wr.cell? ⟨a, 0, none⟩ = some (.slice (some ⟨G, 0, none⟩) ss.length ss.length) := X.out.hA.cell' rfl
      have a1 : wr.cell? ⟨a, 1, none⟩ = some (.int .i64 last) := X.out.hA.cell' rfl
      have g0 : wr.cell? ⟨G, k * 17, none⟩ = some (.int .i64 s.gen) := X.out.cell hs 0 rfl
      have Hs := hid_ hs
      have hgl := X.out.gen s (List.mem_of_getElem? hs)
      clear hs
      by_cases hu : s.used = true
      · have g1 : wr.cell? ⟨G, k * 17 + 1, none⟩ = some (.bool true) := by rw [← hu]; exact X.out.cell Hs.out 1 rfl
        go_wp2_with fail
        go_roundw
        case rel => exact ⟨k + 1, ek, by omega, by go_num, rfl, by rw [allocErr_used Hs.out hu]; exact Hek.out, fun j t hj ht => by
          rcases Nat.lt_succ_iff_lt_or_eq.1 hj with hj | rfl
          · exact Hno.out j t hj ht
          · obtain rfl := Option.some.inj (Hs.out.symm.trans ht)
            exact .inl hu, FL.out⟩
        case measure => simp [intOf]; omega
      have hu : s.used = false := by simpa using hu
      have g1 : wr.cell? ⟨G, k * 17 + 1, none⟩ = some (.bool false) := by rw [← hu]; exact X.out.cell Hs.out 1 rfl
      by_cases hw : s.gen = last
      · have hwb : (s.gen == last) = true := by simpa using hw
        have Hw := hid_ hw
        clear hw
        go_wp2_with fail
        go_quiet (fail)
        have FQ := hid_ (FL.out.drewN nq)
        clear g0 g1 a0 a1
        go_wp2
        go_roundw
        case rel => exact ⟨k + 1, 5, by omega, by go_num, rfl, by rw [allocErr_worn Hs.out hu], fun j t hj ht => by
          rcases Nat.lt_succ_iff_lt_or_eq.1 hj with hj | rfl
          · exact Hno.out j t hj ht
          · obtain rfl := Option.some.inj (Hs.out.symm.trans ht)
            exact .inr Hw.out, FQ.out⟩
        case measure => simp [intOf]; omega
      · have hwb : (s.gen == last) = false := by simpa using hw
        have Hw := hid_ hw
        have hgt : s.gen < last := by omega
        clear hw
        go_wp2_with fail
        go_quiet (fail)
        obtain ⟨wq, hwq⟩ : ∃ wq, wq = wr.drewN nq := ⟨_, rfl⟩
        rw [← hwq]
        have hfq : Fr none_ wr wq := by rw [hwq]; exact (Fr.refl none_ wr).drewN nq
        have XQ := hid_ (X.out.keep hfq)
        have RQ := hid_ (R1.out.keep hfq)
        have PQ := hid_ (P.out.fr hfq id)
        have QQ := hid_ (Q.out.fr hfq id)
        have FQ := hid_ (F.out.then_none hfq)
        clear g0 g1 a0 a1 hwq hfq
        have hw : IntKind.i64.wrap (s.gen + 1) = s.gen + 1 := IntWalk.i64_in _ (by omega)
        go_wp2_with fail
        have hS0 : (fun w' : World => w'.cell? ⟨G, k * 17, none⟩ = some (.int .i64 s.gen) ∧ w'.cell? ⟨w.heap.size, 0, none⟩ = some (.int .i64 R.kind) ∧ w'.cell? ⟨w.heap.size, 1, none⟩ = some (.string R.low) ∧ w'.cell? ⟨w.heap.size, 2, none⟩ = some (.string R.high) ∧ w'.cell? ⟨w.heap.size, 3, none⟩ = some (.bool R.unb) ∧ w'.cell? ⟨w.heap.size, 4, none⟩ = some (.int .i64 R.right) ∧ w'.cell? ⟨w.heap.size, 5, none⟩ = some (.slice A R.rows.length c) ∧ w'.cell? ⟨w.heap.size, 6, none⟩ = some (.slice B R.ents.length d) ∧ w'.cell? ⟨w.heap.size, 7, none⟩ = some (.string R.key) ∧ w'.cell? ⟨w.heap.size, 8, none⟩ = some (.string R.val) ∧ w'.cell? ⟨w.heap.size, 9, none⟩ = some (.int .i64 R.page) ∧ w'.cell? ⟨w.heap.size, 10, none⟩ = some (.int .i64 R.hpage) ∧ w'.cell? ⟨w.heap.size, 11, none⟩ = some (.int .i64 R.hleft) ∧ w'.cell? ⟨w.heap.size, 12, none⟩ = some (.string R.hkey) ∧ w'.cell? ⟨w.heap.size, 13, none⟩ = some (.int .i64 R.nslot) ∧ w'.cell? ⟨w.heap.size, 14, none⟩ = some (.int .i64 R.ngen)) wq.drew := ⟨XQ.out.cell Hs.out 0 rfl, PQ.out.cell' rfl, PQ.out.cell' rfl, PQ.out.cell' rfl, PQ.out.cell' rfl, PQ.out.cell' rfl, PQ.out.cell' rfl, PQ.out.cell' rfl, PQ.out.cell' rfl, PQ.out.cell' rfl, PQ.out.cell' rfl, PQ.out.cell' rfl, PQ.out.cell' rfl, PQ.out.cell' rfl, PQ.out.cell' rfl, PQ.out.cell' rfl⟩
        refine wp_region_T (m := 10) (S := fun w' : World => w'.cell? ⟨G, k * 17, none⟩ = some (.int .i64 s.gen) ∧ w'.cell? ⟨w.heap.size, 0, none⟩ = some (.int .i64 R.kind) ∧ w'.cell? ⟨w.heap.size, 1, none⟩ = some (.string R.low) ∧ w'.cell? ⟨w.heap.size, 2, none⟩ = some (.string R.high) ∧ w'.cell? ⟨w.heap.size, 3, none⟩ = some (.bool R.unb) ∧ w'.cell? ⟨w.heap.size, 4, none⟩ = some (.int .i64 R.right) ∧ w'.cell? ⟨w.heap.size, 5, none⟩ = some (.slice A R.rows.length c) ∧ w'.cell? ⟨w.heap.size, 6, none⟩ = some (.slice B R.ents.length d) ∧ w'.cell? ⟨w.heap.size, 7, none⟩ = some (.string R.key) ∧ w'.cell? ⟨w.heap.size, 8, none⟩ = some (.string R.val) ∧ w'.cell? ⟨w.heap.size, 9, none⟩ = some (.int .i64 R.page) ∧ w'.cell? ⟨w.heap.size, 10, none⟩ = some (.int .i64 R.hpage) ∧ w'.cell? ⟨w.heap.size, 11, none⟩ = some (.int .i64 R.hleft) ∧ w'.cell? ⟨w.heap.size, 12, none⟩ = some (.string R.hkey) ∧ w'.cell? ⟨w.heap.size, 13, none⟩ = some (.int .i64 R.nslot) ∧ w'.cell? ⟨w.heap.size, 14, none⟩ = some (.int .i64 R.ngen)) (by kernel_rfl) ?_
        refine wpAnyT_take (i := 0) (v := _) rfl (by kernel_rfl) (by kernel_rfl) (by kernel_rfl) (by kernel_rfl) (fun _ _ _ h => h) (.inl ⟨by simp [Region.wanted], fun w' hS => by obtain ⟨s0, s1, s2, s3, s4, s5, s6, s7, s8, s9, s10, s11, s12, s13, s14, s15⟩ := hS; go_simp; rfl⟩) hS0 ?_
        refine wpAnyT_take (i := 1) (v := _) rfl (by kernel_rfl) (by kernel_rfl) (by kernel_rfl) (by kernel_rfl) (fun _ _ _ h => h) (.inl ⟨by simp [Region.wanted], fun w' hS => by obtain ⟨s0, s1, s2, s3, s4, s5, s6, s7, s8, s9, s10, s11, s12, s13, s14, s15⟩ := hS; go_simp; rfl⟩) hS0 ?_
        refine wpAnyT_take (i := 2) (v := _) rfl (by kernel_rfl) (by kernel_rfl) (by kernel_rfl) (by kernel_rfl) (fun _ _ _ h => h) (.inl ⟨by simp [Region.wanted], fun w' hS => by obtain ⟨s0, s1, s2, s3, s4, s5, s6, s7, s8, s9, s10, s11, s12, s13, s14, s15⟩ := hS; go_simp; rfl⟩) hS0 ?_
        refine wpAnyT_take (i := 3) (v := _) rfl (by kernel_rfl) (by kernel_rfl) (by kernel_rfl) (by kernel_rfl) (fun _ _ _ h => h) (.inl ⟨by simp [Region.wanted], fun w' hS => by obtain ⟨s0, s1, s2, s3, s4, s5, s6, s7, s8, s9, s10, s11, s12, s13, s14, s15⟩ := hS; go_simp; rfl⟩) hS0 ?_
        refine wpAnyT_take (i := 4) (v := _) rfl (by kernel_rfl) (by kernel_rfl) (by kernel_rfl) (by kernel_rfl) (fun _ _ _ h => h) (.inl ⟨by simp [Region.wanted], fun w' hS => by obtain ⟨s0, s1, s2, s3, s4, s5, s6, s7, s8, s9, s10, s11, s12, s13, s14, s15⟩ := hS; go_simp; rfl⟩) hS0 ?_
        refine wpAnyT_take (i := 5) (v := _) rfl (by kernel_rfl) (by kernel_rfl) (by kernel_rfl) (by kernel_rfl) (fun _ _ _ h => h) (.inl ⟨by simp [Region.wanted], fun w' hS => by obtain ⟨s0, s1, s2, s3, s4, s5, s6, s7, s8, s9, s10, s11, s12, s13, s14, s15⟩ := hS; go_simp; rfl⟩) hS0 ?_
        refine wpAnyT_take (i := 6) (v := _) rfl (by kernel_rfl) (by kernel_rfl) (by kernel_rfl) (by kernel_rfl) (fun _ _ _ h => h) (.inl ⟨by simp [Region.wanted], fun w' hS => by obtain ⟨s0, s1, s2, s3, s4, s5, s6, s7, s8, s9, s10, s11, s12, s13, s14, s15⟩ := hS; go_simp; rfl⟩) hS0 ?_
        have s0 : wq.drew.cell? ⟨G, k * 17, none⟩ = some (.int .i64 s.gen) := XQ.out.cell Hs.out 0 rfl
        have s1 : wq.drew.cell? ⟨w.heap.size, 0, none⟩ = some (.int .i64 R.kind) := PQ.out.cell' rfl
        have s2 : wq.drew.cell? ⟨w.heap.size, 1, none⟩ = some (.string R.low) := PQ.out.cell' rfl
        have s3 : wq.drew.cell? ⟨w.heap.size, 2, none⟩ = some (.string R.high) := PQ.out.cell' rfl
        have s4 : wq.drew.cell? ⟨w.heap.size, 3, none⟩ = some (.bool R.unb) := PQ.out.cell' rfl
        have s5 : wq.drew.cell? ⟨w.heap.size, 4, none⟩ = some (.int .i64 R.right) := PQ.out.cell' rfl
        have s6 : wq.drew.cell? ⟨w.heap.size, 5, none⟩ = some (.slice A R.rows.length c) := PQ.out.cell' rfl
        have s7 : wq.drew.cell? ⟨w.heap.size, 6, none⟩ = some (.slice B R.ents.length d) := PQ.out.cell' rfl
        have s8 : wq.drew.cell? ⟨w.heap.size, 7, none⟩ = some (.string R.key) := PQ.out.cell' rfl
        have s9 : wq.drew.cell? ⟨w.heap.size, 8, none⟩ = some (.string R.val) := PQ.out.cell' rfl
        have s10 : wq.drew.cell? ⟨w.heap.size, 9, none⟩ = some (.int .i64 R.page) := PQ.out.cell' rfl
        have s11 : wq.drew.cell? ⟨w.heap.size, 10, none⟩ = some (.int .i64 R.hpage) := PQ.out.cell' rfl
        have s12 : wq.drew.cell? ⟨w.heap.size, 11, none⟩ = some (.int .i64 R.hleft) := PQ.out.cell' rfl
        have s13 : wq.drew.cell? ⟨w.heap.size, 12, none⟩ = some (.string R.hkey) := PQ.out.cell' rfl
        have s14 : wq.drew.cell? ⟨w.heap.size, 13, none⟩ = some (.int .i64 R.nslot) := PQ.out.cell' rfl
        have s15 : wq.drew.cell? ⟨w.heap.size, 14, none⟩ = some (.int .i64 R.ngen) := PQ.out.cell' rfl
        clear hS0
        refine wpAnyT_one (i := 7) rfl rfl (by kernel_rfl) ?_
        go_simp
        go_at_call 53
        refine (clone_ok R A c B d _ (RQ.out.keep ((Fr.refl none_ wq).drew)) hz.1 hz.2).mono ?_
        rintro e w5 ⟨A5, c5, B5, d5, rfl, hown, hf5⟩
        have hf5 : Fr none_ wq w5 := ((Fr.refl none_ wq).drew).then_none hf5
        have O5 := hid_ hown
        have X5 := hid_ (XQ.out.keep hf5)
        have P5 := hid_ (PQ.out.fr hf5 id)
        have Q5 := hid_ (QQ.out.fr hf5 id)
        have F5 := hid_ (FQ.out.then_none hf5)
        clear hown hf5 s0 s1 s2 s3 s4 s5 s6 s7 s8 s9 s10 s11 s12 s13 s14 s15
        have s0 : w5.cell? ⟨G, k * 17, none⟩ = some (.int .i64 s.gen) := X5.out.cell Hs.out 0 rfl
        have s1 : w5.cell? ⟨w.heap.size, 0, none⟩ = some (.int .i64 R.kind) := P5.out.cell' rfl
        have s2 : w5.cell? ⟨w.heap.size, 1, none⟩ = some (.string R.low) := P5.out.cell' rfl
        have s3 : w5.cell? ⟨w.heap.size, 2, none⟩ = some (.string R.high) := P5.out.cell' rfl
        have s4 : w5.cell? ⟨w.heap.size, 3, none⟩ = some (.bool R.unb) := P5.out.cell' rfl
        have s5 : w5.cell? ⟨w.heap.size, 4, none⟩ = some (.int .i64 R.right) := P5.out.cell' rfl
        have s6 : w5.cell? ⟨w.heap.size, 5, none⟩ = some (.slice A R.rows.length c) := P5.out.cell' rfl
        have s7 : w5.cell? ⟨w.heap.size, 6, none⟩ = some (.slice B R.ents.length d) := P5.out.cell' rfl
        have s8 : w5.cell? ⟨w.heap.size, 7, none⟩ = some (.string R.key) := P5.out.cell' rfl
        have s9 : w5.cell? ⟨w.heap.size, 8, none⟩ = some (.string R.val) := P5.out.cell' rfl
        have s10 : w5.cell? ⟨w.heap.size, 9, none⟩ = some (.int .i64 R.page) := P5.out.cell' rfl
        have s11 : w5.cell? ⟨w.heap.size, 10, none⟩ = some (.int .i64 R.hpage) := P5.out.cell' rfl
        have s12 : w5.cell? ⟨w.heap.size, 11, none⟩ = some (.int .i64 R.hleft) := P5.out.cell' rfl
        have s13 : w5.cell? ⟨w.heap.size, 12, none⟩ = some (.string R.hkey) := P5.out.cell' rfl
        have s14 : w5.cell? ⟨w.heap.size, 13, none⟩ = some (.int .i64 R.nslot) := P5.out.cell' rfl
        have s15 : w5.cell? ⟨w.heap.size, 14, none⟩ = some (.int .i64 R.ngen) := P5.out.cell' rfl
        refine ⟨⟨s0, s1, s2, s3, s4, s5, s6, s7, s8, s9, s10, s11, s12, s13, s14, s15⟩, ?_⟩
        refine wpAnyT_one (i := 8) rfl rfl (by kernel_rfl) ?_
        go_simp
        refine wpAnyT_one (i := 9) rfl rfl (by kernel_rfl) ?_
        go_simp
        clear s0 s1 s2 s3 s4 s5 s6 s7 s8 s9 s10 s11 s12 s13 s14 s15
        refine wpAnyT_one (i := 10) rfl rfl (by kernel_rfl) ?_
        refine wp_store_mid 152 (.tmp 51) (.tmp 50) rfl G (k * 17) (slL ⟨s.gen + 1, true, R, .slice A5 R.rows.length c5, .slice B5 R.ents.length d5⟩).toArray rfl rfl (X5.out.there hlt (Nat.le_refl _) (Nat.le_refl _)) slot_size (by simp [slL, Value.oneCell']) ?_
        refine ⟨.inl rfl, ?_⟩
        refine wpAnyT_done (by kernel_rfl) ?_ _
        obtain ⟨w9, hw9⟩ : ∃ w9, w9 = w5.setCells G (k * 17) (slL ⟨s.gen + 1, true, R, .slice A5 R.rows.length c5, .slice B5 R.ents.length d5⟩) := ⟨_, rfl⟩
        change Exit.then _ _ _ _ (w5.setCells G (k * 17) (slL ⟨s.gen + 1, true, R, .slice A5 R.rows.length c5, .slice B5 R.ents.length d5⟩))
        rw [← hw9]
        have h9 : Fr (only G) w5 w9 := by rw [hw9]; exact Fr.setCells _ _ _ (Fr.refl _ _) (.inl (Eq.refl _))
        have hG5 : ∃ cs, Blk w5 G 152 cs := by obtain ⟨cs, hG, hc⟩ := X5.out.hG; exact ⟨cs, hG⟩
        obtain ⟨cs5, hG5⟩ := hG5
        have o9 : RecOwn w9 wq.heap.size R (.slice A5 R.rows.length c5) (.slice B5 R.ents.length d5) := O5.out.only h9 hG5 (by decide) (by decide)
        have X9 := hid_ (X5.out.put (s := ⟨s.gen + 1, true, R, .slice A5 R.rows.length c5, .slice B5 R.ents.length d5⟩) hlt h9 (fun cs hb => by rw [hw9]; exact Blk.setCells _ _ _ _ hb) (o9.base (Nat.zero_le _)) ⟨by show 0 ≤ s.gen + 1; omega, by show s.gen + 1 ≤ last; omega⟩ hz)
        have O9 := hid_ (o9.base FQ.out.size)
        have Q9 := hid_ (Q5.out.fr h9 (only_ne (Ne.symm (Blk.ne_ hG5 Q5.out (by decide)))))
        have F9 : Hid (Fr (only G) w w9) := hid_ ((F5.out.mono (fun _ _ e => e.elim)).then_only h9 (.inl (Eq.refl _)))
        clear hw9 h9 hG5 o9
        have g9 : w9.cell? ⟨G, k * 17, none⟩ = some (.int .i64 (s.gen + 1)) := X9.out.cell (List.getElem?_set_self hlt) 0 rfl
        have y0 : w9.cell? ⟨w.heap.size + 1, 0, none⟩ = some (.int .i64 0) := Q9.out.cell' rfl
        have y1 : w9.cell? ⟨w.heap.size + 1, 1, none⟩ = some (.int .i64 0) := Q9.out.cell' rfl
        have f0 := Q9.out.frozen 0
        have f1 := Q9.out.frozen 1
        have hwk : IntKind.i64.wrap ((k : Int) + 1) = (k : Int) + 1 := IntWalk.i64_in _ (by omega)
        go_wp2_with fail
        clear g9 y0 y1 f0 f1
        obtain ⟨qb, qf⟩ := box2 Q9.out (.int .i64 ((k : Int) + 1)) (.int .i64 (s.gen + 1))
        have x0 := qb.cell' (i := 0) rfl
        have x1 := qb.cell' (i := 1) rfl
        have hnG : G ≠ w.heap.size + 1 := by omega
        have hnA : a ≠ w.heap.size + 1 := by omega
        refine bodyPost_ret (v := .tuple #[.agg #[.int .i64 ((k : Int) + 1), .int .i64 (s.gen + 1)], .nilIface]) ?_ rfl (.inl ⟨k, s, _, _, Hs.out, ⟨hu, Hw.out⟩, Hno.out, rfl, X9.out.beside qf Q9.out (by decide) (by decide) hnA hnG, O9.out.only qf Q9.out (by decide) (by decide), F9.out.then_only qf (.inr (by omega))⟩)
        simp [results, Tryd.results32, go_sem, x0, x1]
    · obtain rfl : k = ss.length := by omega
      have y0 : wr.cell? ⟨w.heap.size + 1, 0, none⟩ = some (.int .i64 0) := Q.out.cell' rfl
      have y1 : wr.cell? ⟨w.heap.size + 1, 1, none⟩ = some (.int .i64 0) := Q.out.cell' rfl
      have f0 := Q.out.frozen 0
      have f1 := Q.out.frozen 1
      go_wp2_with fail
      clear y0 y1 f0 f1
      obtain ⟨qb, qf⟩ := box2 Q.out (.int .i64 0) (.int .i64 0)
      have x0 := qb.cell' (i := 0) rfl
      have x1 := qb.cell' (i := 1) rfl
      have hek := Hek.out
      rw [List.take_length] at hek
      refine bodyPost_ret (v := .tuple #[.agg #[.int .i64 0, .int .i64 0], errV ek]) ?_ rfl (.inr ⟨fun j t ht => Hno.out j t (List.getElem?_eq_some_iff.1 ht).1 ht, by rw [hek], F.out.then_only qf (.inr (by omega))⟩)
      simp [results, Tryd.results32, go_sem, x0, x1]
end Go.Proofs.YtfihfjbakfadkaaDoor
namespace Go.Proofs.YtfihfjbakfadkaaDoor
open Go.RowKit
set_option maxRecDepth 100000
set_option linter.unusedVariables false

/-- What at says of a ref: 0, it is live; 1, it is no slot's; 4, it is stale. -/
def atC (ss : List Sl) (sl gn : Int) : Int :=
  if sl < 1 ∨ (ss.length : Int) < sl then 1 else
  match ss[(sl - 1).toNat]? with
  | some s => if s.used = true ∧ s.gen = gn then 0 else 4
  | none => 1
theorem atC_cases (ss : List Sl) (sl gn : Int) : (atC ss sl gn = 1 ∧ (sl < 1 ∨ (ss.length : Int) < sl)) ∨ ∃ (i : Nat) (s : Sl), sl = (i : Int) + 1 ∧ ss[i]? = some s ∧ ((atC ss sl gn = 4 ∧ ¬ (s.used = true ∧ s.gen = gn)) ∨ (atC ss sl gn = 0 ∧ s.used = true ∧ s.gen = gn)) := by
  unfold atC
  by_cases h : sl < 1 ∨ (ss.length : Int) < sl
  · exact .inl ⟨if_pos h, h⟩
  · rw [if_neg h]
    have hl : (sl - 1).toNat < ss.length := by omega
    refine .inr ⟨(sl - 1).toNat, ss[(sl - 1).toNat], by omega, List.getElem?_eq_getElem hl, ?_⟩
    rw [List.getElem?_eq_getElem hl]
    by_cases h2 : ss[(sl - 1).toNat].used = true ∧ ss[(sl - 1).toNat].gen = gn
    · exact .inr ⟨if_pos h2, h2⟩
    · exact .inl ⟨if_neg h2, h2⟩

section
variable (w : World) (a G : Nat) (last : Int) (ss : List Sl) (sl gn : Int)
variable {w a G last ss}
theorem at_arg1 (h : Ar w a G last ss) (h1 : sl < 1) : Calls Tryd.prog 63 #[.pointer (some ⟨a, 0, none⟩), .agg #[.int .i64 sl, .int .i64 gn]] w fun e w' => e = .returned (.tuple #[.pointer none, errV 1]) ∧ Fr none_ w w' := by
  have F0 := hid_ ((Fr.refl none_ w).alloc (.cells #[.int .i64 sl, .int .i64 gn] 25))
  have h1 : decide (sl < 1) = true := by simpa using h1
  clear h
  go_enter Tryd.func63, Tryd.ntmps63
  go_wp2_with fail
  go_quiet (fail)
  have FQ := hid_ (F0.out.drewN nq)
  go_wp2
  go_ret2
  exact ⟨rfl, FQ.out⟩
theorem at_arg2 (h : Ar w a G last ss) (h1 : ¬ sl < 1) (h2 : (ss.length : Int) < sl) : Calls Tryd.prog 63 #[.pointer (some ⟨a, 0, none⟩), .agg #[.int .i64 sl, .int .i64 gn]] w fun e w' => e = .returned (.tuple #[.pointer none, errV 1]) ∧ Fr none_ w w' := by
  have F0 := hid_ ((Fr.refl none_ w).alloc (.cells #[.int .i64 sl, .int .i64 gn] 25))
  have h1 : decide (sl < 1) = false := by simpa using h1
  have h2 : decide ((ss.length : Int) < sl) = true := by simpa using h2
  have lA := h.ltA
  have lA1 : a < w.heap.size + 1 := by omega
  have c0 : w.cell? ⟨a, 0, none⟩ = some (.slice (some ⟨G, 0, none⟩) ss.length ss.length) := h.hA.cell' rfl
  clear h
  go_enter Tryd.func63, Tryd.ntmps63
  go_wp2_with fail
  go_quiet (fail)
  have FQ := hid_ (F0.out.drewN nq)
  go_wp2
  go_ret2
  exact ⟨rfl, FQ.out⟩
theorem at_stale {i : Nat} {s : Sl} (h : Ar w a G last ss) (hs : ss[i]? = some s) (hi : sl = (i : Int) + 1) (hb : ¬ (s.used = true ∧ s.gen = gn)) : Calls Tryd.prog 63 #[.pointer (some ⟨a, 0, none⟩), .agg #[.int .i64 sl, .int .i64 gn]] w fun e w' => e = .returned (.tuple #[.pointer none, errV 4]) ∧ Fr none_ w w' := by
  have hlen := h.len
  have hlt := (List.getElem?_eq_some_iff.1 hs).1
  obtain ⟨w0, hw0⟩ : ∃ w0, w0 = w.alloc (.cells #[.int .i64 sl, .int .i64 gn] 25) := ⟨_, rfl⟩
  have f0 : Fr none_ w w0 := by rw [hw0]; exact (Fr.refl none_ w).alloc _
  have F0 := hid_ f0
  have X0 := h.keep f0
  have p0 : Blk w0 w.heap.size 25 #[.int .i64 sl, .int .i64 gn] := by rw [hw0]; exact Blk.new w _ _
  have x0 : w0.cell? ⟨w.heap.size, 0, none⟩ = some (.int .i64 sl) := p0.cell' rfl
  have x1 : w0.cell? ⟨w.heap.size, 1, none⟩ = some (.int .i64 gn) := p0.cell' rfl
  have h1 : decide (sl < 1) = false := by simp; omega
  have h2 : decide ((ss.length : Int) < sl) = false := by simp; omega
  have hw : IntKind.i64.wrap (sl - 1) = (i : Int) := by rw [show sl - 1 = (i : Int) by omega]; exact IntWalk.i64_in _ (by omega)
  have hi0 : (0 : Int) ≤ (i : Int) := Int.natCast_nonneg _
  have hi1 : (i : Int) < (ss.length : Int) := by omega
  have c0 : w0.cell? ⟨a, 0, none⟩ = some (.slice (some ⟨G, 0, none⟩) ss.length ss.length) := X0.hA.cell' rfl
  have g0 : w0.cell? ⟨G, i * 17, none⟩ = some (.int .i64 s.gen) := X0.cell hs 0 rfl
  have lA := h.ltA
  have lA1 : a < w.heap.size + 1 := by omega
  cases hu : s.used with
  | false =>
    have g1 : w0.cell? ⟨G, i * 17 + 1, none⟩ = some (.bool false) := by rw [← hu]; exact X0.cell hs 1 rfl
    clear h hi f0 hb X0 p0 hs hlt
    go_enter Tryd.func63, Tryd.ntmps63
    go_wp2_with fail
    change Code.wp _ _ _ _ (w.alloc (.cells #[.int .i64 sl, .int .i64 gn] 25))
    rw [← hw0]
    clear hw0
    go_quiet (fail)
    go_wp2_with fail
    go_quiet (fail)
    go_wp2_with fail
    go_quiet (fail)
    go_wp2
    go_ret2
    exact ⟨rfl, by repeat (first | exact F0.out | apply Fr.drewN | apply Fr.drew)⟩
  | true =>
    have g1 : w0.cell? ⟨G, i * 17 + 1, none⟩ = some (.bool true) := by rw [← hu]; exact X0.cell hs 1 rfl
    have hg : (s.gen == gn) = false := by
      have : s.gen ≠ gn := fun e => hb ⟨hu, e⟩
      simpa using this
    clear h hi f0 hb X0 p0 hs hlt
    go_enter Tryd.func63, Tryd.ntmps63
    go_wp2_with fail
    change Code.wp _ _ _ _ (w.alloc (.cells #[.int .i64 sl, .int .i64 gn] 25))
    rw [← hw0]
    clear hw0
    go_quiet (fail)
    go_wp2_with fail
    go_quiet (fail)
    go_wp2_with fail
    go_quiet (fail)
    go_wp2
    go_ret2
    exact ⟨rfl, by repeat (first | exact F0.out | apply Fr.drewN | apply Fr.drew)⟩
theorem at_ok {i : Nat} {s : Sl} (h : Ar w a G last ss) (hs : ss[i]? = some s) (hi : sl = (i : Int) + 1) (hu : s.used = true) (hg : s.gen = gn) : Calls Tryd.prog 63 #[.pointer (some ⟨a, 0, none⟩), .agg #[.int .i64 sl, .int .i64 gn]] w fun e w' => e = .returned (.tuple #[.pointer (some ⟨G, i * 17, none⟩), .nilIface]) ∧ Fr none_ w w' := by
  have hlen := h.len
  have hlt := (List.getElem?_eq_some_iff.1 hs).1
  obtain ⟨w0, hw0⟩ : ∃ w0, w0 = w.alloc (.cells #[.int .i64 sl, .int .i64 gn] 25) := ⟨_, rfl⟩
  have f0 : Fr none_ w w0 := by rw [hw0]; exact (Fr.refl none_ w).alloc _
  have F0 := hid_ f0
  have X0 := h.keep f0
  have p0 : Blk w0 w.heap.size 25 #[.int .i64 sl, .int .i64 gn] := by rw [hw0]; exact Blk.new w _ _
  have x0 : w0.cell? ⟨w.heap.size, 0, none⟩ = some (.int .i64 sl) := p0.cell' rfl
  have x1 : w0.cell? ⟨w.heap.size, 1, none⟩ = some (.int .i64 gn) := p0.cell' rfl
  have h1 : decide (sl < 1) = false := by simp; omega
  have h2 : decide ((ss.length : Int) < sl) = false := by simp; omega
  have hw : IntKind.i64.wrap (sl - 1) = (i : Int) := by rw [show sl - 1 = (i : Int) by omega]; exact IntWalk.i64_in _ (by omega)
  have hi0 : (0 : Int) ≤ (i : Int) := Int.natCast_nonneg _
  have hi1 : (i : Int) < (ss.length : Int) := by omega
  have c0 : w0.cell? ⟨a, 0, none⟩ = some (.slice (some ⟨G, 0, none⟩) ss.length ss.length) := X0.hA.cell' rfl
  have g0 : w0.cell? ⟨G, i * 17, none⟩ = some (.int .i64 gn) := by rw [← hg]; exact X0.cell hs 0 rfl
  have g1 : w0.cell? ⟨G, i * 17 + 1, none⟩ = some (.bool true) := by rw [← hu]; exact X0.cell hs 1 rfl
  have lA := h.ltA
  have lA1 : a < w.heap.size + 1 := by omega
  clear h hi f0 X0 p0 hs hlt
  go_enter Tryd.func63, Tryd.ntmps63
  go_wp2_with fail
  change Code.wp _ _ _ _ (w.alloc (.cells #[.int .i64 sl, .int .i64 gn] 25))
  rw [← hw0]
  clear hw0
  go_quiet (fail)
  go_wp2_with fail
  go_quiet (fail)
  go_wp2_with fail
  go_quiet (fail)
  go_wp2
  go_ret2
  exact ⟨rfl, by repeat (first | exact F0.out | apply Fr.drewN | apply Fr.drew)⟩
/-- at where it tells an error. -/
theorem at_bad (h : Ar w a G last ss) (hb : atC ss sl gn ≠ 0) : Calls Tryd.prog 63 #[.pointer (some ⟨a, 0, none⟩), .agg #[.int .i64 sl, .int .i64 gn]] w fun e w' => e = .returned (.tuple #[.pointer none, errV (atC ss sl gn)]) ∧ Fr none_ w w' := by
  rcases atC_cases ss sl gn with ⟨e, h1⟩ | ⟨i, s, hi, hs, ⟨e, hn⟩ | ⟨e, _⟩⟩
  · rw [e]
    by_cases h2 : sl < 1
    · exact at_arg1 sl gn h h2
    · exact at_arg2 sl gn h h2 (by omega)
  · rw [e]
    exact at_stale sl gn h hs hi hn
  · exact absurd e hb
end
end Go.Proofs.YtfihfjbakfadkaaDoor

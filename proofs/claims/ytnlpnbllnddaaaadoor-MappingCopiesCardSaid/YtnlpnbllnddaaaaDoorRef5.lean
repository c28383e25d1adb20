/- Contracts of package rowlockref05's functions: the document's table as a list of used pages. -/
import Derived.Test.YtnlpnbllnddaaaaDoorReads
import Derived.Test.YtnlpnbllnddaaaaDoorCode
import Derived.Test.YtnlpnbllnddaaaaDoorMap3
import Derived.Deep.RegionHeld3
import Derived.Deep.RegionLaw
import Derived.Deep.RegionWith
namespace Go.Proofs.YtnlpnbllnddaaaaDoor
open Go.RowKit
set_option linter.unusedVariables false

/-- A used page of the document's: its number, its head. -/
abbrev Rp := Int × Int × Int
def rpFlat (L : List Rp) : List Value := L.flatMap fun p => [.int .i64 p.1, .int .i64 p.2.1, .int .i64 p.2.2]
theorem rpFlat_len (L : List Rp) : (rpFlat L).length = L.length * 3 := by
  induction L with
  | nil => rfl
  | cons p L ih => simp only [rpFlat, List.flatMap_cons, List.length_append, List.length_cons, List.length_nil] at *; omega
theorem rpFlat_get : ∀ (L : List Rp) (i : Nat) (p : Rp), L[i]? = some p → (rpFlat L)[i * 3]? = some (.int .i64 p.1) ∧ (rpFlat L)[i * 3 + 1]? = some (.int .i64 p.2.1) ∧ (rpFlat L)[i * 3 + 1 + 1]? = some (.int .i64 p.2.2)
  | [], i, p, h => by simp at h
  | q :: L, 0, p, h => by
    obtain rfl : q = p := by simpa using h
    simp [rpFlat]
  | q :: L, i + 1, p, h => by
    have := rpFlat_get L i p (by simpa using h)
    rw [show (i + 1) * 3 = i * 3 + 1 + 1 + 1 by omega]
    simpa [rpFlat, List.flatMap_cons] using this
theorem rpFlat_app (L M : List Rp) : rpFlat (L ++ M) = rpFlat L ++ rpFlat M := by simp [rpFlat]
theorem rpFlat_take (L : List Rp) (i : Nat) : rpFlat (L.take i) = (rpFlat L).take (i * 3) := by
  induction L generalizing i with
  | nil => simp [rpFlat]
  | cons p L ih =>
    cases i with
    | zero => simp [rpFlat]
    | succ i =>
      have := ih i
      rw [show (i + 1) * 3 = i * 3 + 3 by omega]
      simp only [rpFlat, List.take_succ_cons, List.flatMap_cons, List.cons_append, List.nil_append] at *
      rw [this]
theorem rpFlat_drop (L : List Rp) (i : Nat) : rpFlat (L.drop i) = (rpFlat L).drop (i * 3) := by
  induction L generalizing i with
  | nil => simp [rpFlat]
  | cons p L ih =>
    cases i with
    | zero => simp [rpFlat]
    | succ i =>
      have := ih i
      rw [show (i + 1) * 3 = i * 3 + 3 by omega]
      simp only [rpFlat, List.drop_succ_cons, List.flatMap_cons, List.cons_append, List.nil_append] at *
      rw [this]
theorem rpFlat_one (L : List Rp) : ∀ u ∈ rpFlat L, u.oneCell' = true := by
  intro u hu
  simp only [rpFlat, List.mem_flatMap, List.mem_cons, List.not_mem_nil, or_false] at hu
  obtain ⟨p, _, rfl | rfl | rfl⟩ := hu <;> rfl

/-- Where a used page stands in the list; -1: nowhere. -/
def findL : List Rp → Int → Int
  | [], _ => -1
  | p :: L, n => if p.1 = n then 0 else if findL L n < 0 then -1 else findL L n + 1
theorem findL_ge (L : List Rp) (n : Int) : -1 ≤ findL L n ∧ findL L n < L.length := by
  induction L with
  | nil => simp [findL]
  | cons p L ih => simp only [findL, List.length_cons]; split <;> (try split) <;> omega
theorem findL_at : ∀ (L : List Rp) (n : Int) (i : Nat) (p : Rp), L[i]? = some p → p.1 = n → (∀ j q, j < i → L[j]? = some q → q.1 ≠ n) → findL L n = i
  | [], n, i, p, h, _, _ => by simp at h
  | q :: L, n, 0, p, h, hp, _ => by
    obtain rfl : q = p := by simpa using h
    simp [findL, hp]
  | q :: L, n, i + 1, p, h, hp, hb => by
    have h0 : q.1 ≠ n := hb 0 q (by omega) rfl
    have := findL_at L n i p (by simpa using h) hp (fun j r hj hr => hb (j + 1) r (by omega) (by simpa using hr))
    simp only [findL, if_neg h0, this]
    rw [if_neg (by omega)]
    omega
theorem findL_no (L : List Rp) (n : Int) (h : ∀ p ∈ L, p.1 ≠ n) : findL L n = -1 := by
  induction L with
  | nil => rfl
  | cons p L ih => simp [findL, h p (by simp), ih (fun q hq => h q (by simp [hq]))]

abbrev ROwn (w : World) (v : Value) (L : List Rp) : Prop := w.ownsRow 0 76 3 v L.length (rpFlat L)
abbrev rtab (count : Int) (v : Value) : Value := .agg #[.int .i64 count, v]
abbrev rbox (count : Int) (v : Value) : Obj := .cells #[.int .i64 count, v] 28

theorem rown_cell {w : World} {A : Option Addr} {c : Nat} {L : List Rp} (h : ROwn w (.slice A L.length c) L) : 0 < L.length → ∃ g, A = some ⟨g, 0, none⟩ ∧ g < w.heap.size ∧ ∀ i p, L[i]? = some p →
    w.cell? ⟨g, i * 3, none⟩ = some (.int .i64 p.1) ∧ w.cell? ⟨g, i * 3 + 1, none⟩ = some (.int .i64 p.2.1) ∧ w.cell? ⟨g, i * 3 + 1 + 1, none⟩ = some (.int .i64 p.2.2) := by
  intro hn
  obtain ⟨A', c', hv, _, _, hp⟩ := own_parts h
  obtain ⟨g, hA, hg, hc⟩ := hp hn
  have hA' : A = some ⟨g, 0, none⟩ := by
    injection hv with h1
    rw [h1, hA]
  refine ⟨g, hA', hg, fun i p hi => ?_⟩
  obtain ⟨d0, d1, d2⟩ := rpFlat_get L i p hi
  exact ⟨hc _ _ d0, hc _ _ d1, hc _ _ d2⟩

set_option maxHeartbeats 400000 in
theorem find_any (count n : Int) (A : Option Addr) (c : Nat) (L : List Rp) (w : World) (h : ROwn w (.slice A L.length c) L) (hl : L.length ≤ 1000) :
    Calls Tryd.prog 25 #[rtab count (.slice A L.length c), .int .i64 n] w fun e w' => e = .returned (.int .i64 (findL L n)) ∧ w' = w.alloc (rbox count (.slice A L.length c)) := by
  have hcell := rown_cell h
  have Hc := hid_ hcell
  clear hcell h
  go_enter Tryd.func25, Tryd.ntmps25
  go_wp2_with fail
  go_loop [5] (fun i => ∃ k : Nat, k ≤ L.length ∧ i = .int .i64 k ∧ ∀ j q, j < k → L[j]? = some q → q.1 ≠ n) (fun i => L.length - (intOf i).toNat)
  case atStart => exact ⟨0, Nat.zero_le _, rfl, fun j q hj => by omega⟩
  case round =>
    obtain ⟨k, hk, rfl, hb⟩ := hrel
    have Hb := hid_ hb
    clear hb
    by_cases hlt : k < L.length
    · obtain ⟨g, rfl, hgl, hcl⟩ := Hc.out (by omega)
      obtain ⟨p, hp⟩ : ∃ p, L[k]? = some p := ⟨L[k], List.getElem?_eq_getElem hlt⟩
      have c0 := (hcl k p hp).1
      have Hp := hid_ hp
      clear hcl hp
      by_cases he : p.1 = n
      · have Hf := hid_ (findL_at L n k p Hp.out he Hb.out)
        have he2 : (p.1 == n) = true := by simpa using he
        clear he
        go_wp2
        go_ret
        exact ⟨by rw [Hf.out]; rfl, rfl⟩
      · have he2 : (p.1 == n) = false := by simpa using he
        have He := hid_ he
        clear he
        go_wp2
        go_round
        case rel => exact ⟨k + 1, by omega, by go_num, fun j q hj hq => by
          rcases Nat.lt_or_ge j k with h1 | h1
          · exact Hb.out j q h1 hq
          · obtain rfl : j = k := by omega
            obtain rfl : p = q := by have := Hp.out.symm.trans hq; simpa using this
            exact He.out⟩
        case measure => simp [intOf]; omega
    · obtain rfl : k = L.length := by omega
      have Hf := hid_ (findL_no L n (fun p hp => by
        obtain ⟨j, hj, hpj⟩ := List.mem_iff_getElem.1 hp
        exact Hb.out j p hj (by rw [List.getElem?_eq_getElem hj, hpj])))
      go_wp2
      go_ret
      exact ⟨by rw [Hf.out]; rfl, rfl⟩
end Go.Proofs.YtnlpnbllnddaaaaDoor

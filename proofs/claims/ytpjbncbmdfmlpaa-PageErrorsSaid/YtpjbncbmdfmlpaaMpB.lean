/- Texts of one proof, merged: Cmp, Qx, Vw, Join, Rw7. -/
import Derived.IntWalk
import Derived.Deep.QuietTactic
import Derived.BigQuiet
import Derived.WalkSpells
import Derived.WalkLawsBesides
import Derived.Deep.DeepCutAuto
import Derived.Deep.RegionHeld3
import Derived.Test.YtpjbncbmdfmlpaaMpA
namespace Go.Proofs.Ytpjbncbmdfmlpaa
open Go.RowKit
set_option maxRecDepth 100000
set_option linter.unusedVariables false

/-- Is one list of bytes ahead of another one? -/
def ltL : List UInt8 → List UInt8 → Bool
  | [], [] => false
  | [], _ :: _ => true
  | _ :: _, [] => false
  | a :: x, b :: y => decide (a.toNat < b.toNat) || (decide (a.toNat = b.toNat) && ltL x y)
theorem u8_eq {a b : UInt8} (h : a.toNat = b.toNat) : a = b := UInt8.toNat_inj.1 h
theorem ltL_cons {a b : UInt8} {x y : List UInt8} : ltL (a :: x) (b :: y) = true ↔ a.toNat < b.toNat ∨ a.toNat = b.toNat ∧ ltL x y = true := by
  simp [ltL]
theorem ltL_irrefl : ∀ x : List UInt8, ltL x x = false
  | [] => rfl
  | a :: x => by simp [ltL, ltL_irrefl x]
theorem ltL_trans : ∀ {x y z : List UInt8}, ltL x y = true → ltL y z = true → ltL x z = true
  | [], [], _, h, _ => by simp [ltL] at h
  | [], _ :: _, [], _, h => by simp [ltL] at h
  | [], _ :: _, _ :: _, _, _ => rfl
  | _ :: _, [], _, h, _ => by simp [ltL] at h
  | _ :: _, _ :: _, [], _, h => by simp [ltL] at h
  | a :: x, b :: y, c :: z, h, k => by
    rw [ltL_cons] at h k ⊢
    rcases h with h | ⟨h, h'⟩ <;> rcases k with k | ⟨k, k'⟩
    · left; omega
    · left; omega
    · left; omega
    · right; exact ⟨by omega, ltL_trans h' k'⟩
theorem ltL_total : ∀ (x y : List UInt8), ltL x y = true ∨ x = y ∨ ltL y x = true
  | [], [] => .inr (.inl rfl)
  | [], _ :: _ => .inl rfl
  | _ :: _, [] => .inr (.inr rfl)
  | a :: x, b :: y => by
    rw [ltL_cons, ltL_cons]
    rcases Nat.lt_trichotomy a.toNat b.toNat with h | h | h
    · exact .inl (.inl h)
    · rcases ltL_total x y with k | rfl | k
      · exact .inl (.inr ⟨h, k⟩)
      · exact .inr (.inl (by rw [u8_eq h]))
      · exact .inr (.inr (.inr ⟨h.symm, k⟩))
    · exact .inr (.inr (.inl h))
/-- How many bytes two lists begin with alike. -/
def cpL : List UInt8 → List UInt8 → Nat
  | a :: x, b :: y => if a = b then cpL x y + 1 else 0
  | _, _ => 0
theorem cpL_le : ∀ (x y : List UInt8), cpL x y ≤ x.length ∧ cpL x y ≤ y.length
  | [], _ => ⟨Nat.le_refl _, Nat.zero_le _⟩
  | _ :: _, [] => ⟨Nat.zero_le _, Nat.le_refl _⟩
  | a :: x, b :: y => by
    have := cpL_le x y
    rw [cpL]
    split <;> simp <;> omega
theorem cpL_in : ∀ {x y : List UInt8} {i : Nat}, i < cpL x y → x[i]? = y[i]?
  | [], _, i, h => by simp [cpL] at h
  | _ :: _, [], i, h => by simp [cpL] at h
  | a :: x, b :: y, i, h => by
    rw [cpL] at h
    split at h
    · rename_i e
      cases i with
      | zero => simp [e]
      | succ i => simpa using cpL_in (x := x) (y := y) (i := i) (by omega)
    · omega
theorem cpL_stop : ∀ {x y : List UInt8} {a b : UInt8}, x[cpL x y]? = some a → y[cpL x y]? = some b → a ≠ b
  | [], _, a, b, h, _ => by simp at h
  | _ :: _, [], a, b, _, h => by simp at h
  | c :: x, d :: y, a, b, h, k => by
    rw [cpL] at h k
    split at h
    · rename_i e
      rw [if_pos e] at k
      exact cpL_stop (x := x) (y := y) (by simpa using h) (by simpa using k)
    · rename_i e
      rw [if_neg e] at k
      have h1 : c = a := by simpa using h
      have h2 : d = b := by simpa using k
      rw [← h1, ← h2]; exact e
/-- A number that is as far as two lists are alike, and no farther, is that. -/
theorem cpL_is : ∀ {x y : List UInt8} {n : Nat}, (∀ i, i < n → x[i]? = y[i]?) → n ≤ x.length → n ≤ y.length → (n = x.length ∨ n = y.length ∨ ∃ a b, x[n]? = some a ∧ y[n]? = some b ∧ a ≠ b) → cpL x y = n
  | [], y, n, _, h1, _, _ => by
    obtain rfl : n = 0 := by simpa using h1
    simp [cpL]
  | _ :: _, [], n, _, _, h2, _ => by
    obtain rfl : n = 0 := by simpa using h2
    simp [cpL]
  | c :: x, d :: y, 0, _, _, _, h => by
    rcases h with h | h | ⟨a, b, h1, h2, h3⟩
    · simp at h
    · simp at h
    · have e1 : c = a := by simpa using h1
      have e2 : d = b := by simpa using h2
      rw [cpL, if_neg (by rw [e1, e2]; exact h3)]
  | c :: x, d :: y, n + 1, hi, h1, h2, h => by
    have e0 : c = d := by simpa using hi 0 (by omega)
    rw [cpL, if_pos e0]
    congr 1
    refine cpL_is (fun i hn => by simpa using hi (i + 1) (by omega)) (by simpa using h1) (by simpa using h2) ?_
    rcases h with h | h | ⟨a, b, h1, h2, h3⟩
    · exact .inl (by simpa using h)
    · exact .inr (.inl (by simpa using h))
    · exact .inr (.inr ⟨a, b, by simpa using h1, by simpa using h2, h3⟩)
theorem lt_of_end : ∀ {x y : List UInt8}, cpL x y = x.length → x.length < y.length → ltL x y = true
  | [], [], _, h => by simp at h
  | [], _ :: _, _, _ => rfl
  | _ :: _, [], _, h => by simp at h
  | a :: x, b :: y, h, hl => by
    rw [cpL] at h
    split at h
    · rename_i e
      rw [ltL_cons]
      right
      exact ⟨by rw [e], lt_of_end (by simpa using h) (by simpa using hl)⟩
    · simp at h
theorem cp_comm : ∀ x y : List UInt8, cpL x y = cpL y x
  | [], [] => rfl
  | [], _ :: _ => rfl
  | _ :: _, [] => rfl
  | a :: x, b :: y => by
    rw [cpL, cpL]
    by_cases h : a = b
    · rw [if_pos h, if_pos h.symm, cp_comm x y]
    · rw [if_neg h, if_neg (fun e => h e.symm)]
theorem lt_of_stop : ∀ {x y : List UInt8} {a b : UInt8}, x[cpL x y]? = some a → y[cpL x y]? = some b → a.toNat < b.toNat → ltL x y = true
  | [], _, a, b, h, _, _ => by simp at h
  | _ :: _, [], a, b, _, h, _ => by simp at h
  | c :: x, d :: y, a, b, h, k, l => by
    rw [ltL_cons]
    rw [cpL] at h k
    split at h
    · rename_i e
      rw [if_pos e] at k
      exact .inr ⟨by rw [e], lt_of_stop (by simpa using h) (by simpa using k) l⟩
    · rename_i e
      rw [if_neg e] at k
      have h1 : c = a := by simpa using h
      have h2 : d = b := by simpa using k
      rw [h1, h2]; exact .inl l
theorem eq_of_cp {x y : List UInt8} (h1 : cpL x y = x.length) (h2 : cpL x y = y.length) : x = y := by
  apply List.ext_getElem?
  intro i
  rcases Nat.lt_or_ge i (cpL x y) with h | h
  · exact cpL_in h
  · rw [List.getElem?_eq_none (by omega), List.getElem?_eq_none (by omega)]

def ltS (a b : ByteArray) : Bool := ltL a.data.toList b.data.toList
theorem ba_eq {a b : ByteArray} (h : a.data.toList = b.data.toList) : a = b := by
  cases a; cases b
  congr
  exact Array.toList_inj.1 h
theorem ltS_irrefl (a : ByteArray) : ltS a a = false := ltL_irrefl _
theorem ltS_trans {a b c : ByteArray} (h : ltS a b = true) (k : ltS b c = true) : ltS a c = true := ltL_trans h k
theorem ltS_total (a b : ByteArray) : ltS a b = true ∨ a = b ∨ ltS b a = true := by
  rcases ltL_total a.data.toList b.data.toList with h | h | h
  · exact .inl h
  · exact .inr (.inl (ba_eq h))
  · exact .inr (.inr h)
theorem ltS_asymm {a b : ByteArray} (h : ltS a b = true) : ltS b a = false := by
  cases h' : ltS b a with
  | false => rfl
  | true => have := ltS_trans h h'; rw [ltS_irrefl] at this; cases this
theorem ltS_ne {a b : ByteArray} (h : ltS a b = true) : a ≠ b := by rintro rfl; rw [ltS_irrefl] at h; cases h
theorem ba_toList (a : ByteArray) : a.toList = a.data.toList := ByteArray.toList_eq a
/-- Are two texts the same? As the walk spells it. -/
def sEq (a b : ByteArray) : Bool := a.toList == b.toList
theorem sEq_iff {a b : ByteArray} : sEq a b = true ↔ a = b := by
  unfold sEq
  rw [beq_iff_eq, ba_toList, ba_toList]
  exact ⟨ba_eq, fun h => by rw [h]⟩
theorem sEq_ne {a b : ByteArray} (h : a ≠ b) : sEq a b = false := by
  cases e : sEq a b with
  | false => rfl
  | true => exact absurd (sEq_iff.1 e) h
def cmpI (a b : ByteArray) : Int := if ltS a b = true then -1 else if a = b then 0 else 1
theorem cmp_lt {a b : ByteArray} (h : ltS a b = true) : cmpI a b = -1 := if_pos h
theorem cmp_eq (a : ByteArray) : cmpI a a = 0 := by rw [cmpI, if_neg (by rw [ltS_irrefl]; decide), if_pos rfl]
theorem cmp_gt {a b : ByteArray} (h : ltS b a = true) : cmpI a b = 1 := by rw [cmpI, if_neg (by rw [ltS_asymm h]; decide), if_neg (fun e => ltS_ne h e.symm)]
theorem cmp_neg (a b : ByteArray) : decide (cmpI a b < 0) = ltS a b := by
  rcases ltS_total a b with h | rfl | h
  · rw [cmp_lt h, h]; rfl
  · rw [cmp_eq, ltS_irrefl]; rfl
  · rw [cmp_gt h, ltS_asymm h]; rfl
theorem cmp_le (a b : ByteArray) : decide (cmpI a b ≤ 0) = !ltS b a := by
  rcases ltS_total a b with h | rfl | h
  · rw [cmp_lt h, ltS_asymm h]; rfl
  · rw [cmp_eq, ltS_irrefl]; rfl
  · rw [cmp_gt h, h]; rfl
theorem cmp_ge (a b : ByteArray) : decide (0 ≤ cmpI a b) = !ltS a b := by
  rcases ltS_total a b with h | rfl | h
  · rw [cmp_lt h, h]; rfl
  · rw [cmp_eq, ltS_irrefl]; rfl
  · rw [cmp_gt h, ltS_asymm h]; rfl
def inS (low high : ByteArray) (unb : Bool) (key : ByteArray) : Bool := !ltS key low && (unb || ltS key high)

theorem ba_len (a : ByteArray) : a.data.toList.length = a.size := by simp
theorem ba_get {a : ByteArray} {i : Nat} (h : i < a.size) : a.data.toList[i]? = some a[i] := by
  rw [List.getElem?_eq_getElem (by rw [ba_len]; exact h)]
  rfl

theorem drewN_drewN (w : World) (a b : Nat) : (w.drewN a).drewN b = w.drewN (a + b) := by
  simp [World.drewN, Nat.add_assoc]
set_option maxHeartbeats 2000000 in
theorem common_ok (a b : ByteArray) (w : World) (ha : a.size ≤ 9000000000000000000) (hb : b.size ≤ 9000000000000000000) :
    Calls Try.prog 103 #[.string a, .string b] w fun e w' => e = .returned (.int .i64 (cpL a.data.toList b.data.toList : Nat)) ∧ ∃ n, w' = w.drewN n := by
  by_cases hmin : b.size < a.size
  · go_enter Try.func103, Try.ntmps103
    go_wp2
    go_loopw [5, 11] (fun n i wr => ∃ k : Nat, k ≤ b.size ∧ n = .int .i64 k ∧ i = .int .i64 k ∧ (∀ j, j < k → a.data.toList[j]? = b.data.toList[j]?) ∧ ∃ q, wr = w.drewN q) (fun _ i _ => b.size - (intOf i).toNat)
    case atStart => exact ⟨0, Nat.zero_le _, rfl, rfl, fun j hj => by omega, 0, rfl⟩
    case round =>
      obtain ⟨k, hk, rfl, rfl, hall, q, rfl⟩ := hrel
      have HA := hid_ hall
      clear hall
      by_cases hlt : k < b.size
      · have hka : k < a.size := by omega
        have hkb : k < b.size := by omega
        have hi0 : (0 : Int) ≤ (k : Int) := Int.natCast_nonneg _
        have hia : (k : Int) < (a.size : Int) := by omega
        have hib : (k : Int) < (b.size : Int) := by omega
        by_cases he : a[k] = b[k]
        · have hne : ((a[k].toNat : Int) != (b[k].toNat : Int)) = false := by rw [he]; simp
          have HS : Hid (∀ j, j < k + 1 → a.data.toList[j]? = b.data.toList[j]?) := hid_ (fun j hj => by
            rcases Nat.lt_succ_iff_lt_or_eq.1 hj with h | rfl
            · exact HA.out j h
            · rw [ba_get hka, ba_get hkb, he])
          clear he
          go_wp2_with fail
          go_quiet (fail)
          go_wp2_with fail
          go_roundw
          case rel => exact ⟨k + 1, by omega, by go_num, by go_num, HS.out, _, rfl⟩
          case measure => simp [intOf]; omega
        · have hne : ((a[k].toNat : Int) != (b[k].toNat : Int)) = true := by
            rw [bne_iff_ne]
            intro e
            exact he (u8_eq (by omega))
          have HE : Hid (cpL a.data.toList b.data.toList = k) := hid_ (cpL_is HA.out (by rw [ba_len]; omega) (by rw [ba_len]; omega) (.inr (.inr ⟨a[k], b[k], ba_get hka, ba_get hkb, he⟩)))
          clear he
          go_wp2_with fail
          go_quiet (fail)
          go_wp2_with fail
          go_ret
          refine ⟨by rw [HE.out]; rfl, ?_⟩
          first | exact ⟨_, rfl⟩ | exact ⟨_, drewN_drewN _ _ _⟩
      · obtain rfl : k = b.size := by omega
        have HE : Hid (cpL a.data.toList b.data.toList = b.size) := hid_ (cpL_is HA.out (by rw [ba_len]; omega) (by rw [ba_len]; omega) (by rw [ba_len, ba_len]; omega))
        go_wp2_with fail
        go_ret
        refine ⟨by rw [HE.out]; rfl, ?_⟩
        first | exact ⟨_, rfl⟩ | exact ⟨_, drewN_drewN _ _ _⟩
  · go_enter Try.func103, Try.ntmps103
    go_wp2
    go_loopw [5, 11] (fun n i wr => ∃ k : Nat, k ≤ a.size ∧ n = .int .i64 k ∧ i = .int .i64 k ∧ (∀ j, j < k → a.data.toList[j]? = b.data.toList[j]?) ∧ ∃ q, wr = w.drewN q) (fun _ i _ => a.size - (intOf i).toNat)
    case atStart => exact ⟨0, Nat.zero_le _, rfl, rfl, fun j hj => by omega, 0, rfl⟩
    case round =>
      obtain ⟨k, hk, rfl, rfl, hall, q, rfl⟩ := hrel
      have HA := hid_ hall
      clear hall
      by_cases hlt : k < a.size
      · have hka : k < a.size := by omega
        have hkb : k < b.size := by omega
        have hi0 : (0 : Int) ≤ (k : Int) := Int.natCast_nonneg _
        have hia : (k : Int) < (a.size : Int) := by omega
        have hib : (k : Int) < (b.size : Int) := by omega
        by_cases he : a[k] = b[k]
        · have hne : ((a[k].toNat : Int) != (b[k].toNat : Int)) = false := by rw [he]; simp
          have HS : Hid (∀ j, j < k + 1 → a.data.toList[j]? = b.data.toList[j]?) := hid_ (fun j hj => by
            rcases Nat.lt_succ_iff_lt_or_eq.1 hj with h | rfl
            · exact HA.out j h
            · rw [ba_get hka, ba_get hkb, he])
          clear he
          go_wp2_with fail
          go_quiet (fail)
          go_wp2_with fail
          go_roundw
          case rel => exact ⟨k + 1, by omega, by go_num, by go_num, HS.out, _, rfl⟩
          case measure => simp [intOf]; omega
        · have hne : ((a[k].toNat : Int) != (b[k].toNat : Int)) = true := by
            rw [bne_iff_ne]
            intro e
            exact he (u8_eq (by omega))
          have HE : Hid (cpL a.data.toList b.data.toList = k) := hid_ (cpL_is HA.out (by rw [ba_len]; omega) (by rw [ba_len]; omega) (.inr (.inr ⟨a[k], b[k], ba_get hka, ba_get hkb, he⟩)))
          clear he
          go_wp2_with fail
          go_quiet (fail)
          go_wp2_with fail
          go_ret
          refine ⟨by rw [HE.out]; rfl, ?_⟩
          first | exact ⟨_, rfl⟩ | exact ⟨_, drewN_drewN _ _ _⟩
      · obtain rfl : k = a.size := by omega
        have HE : Hid (cpL a.data.toList b.data.toList = a.size) := hid_ (cpL_is HA.out (by rw [ba_len]; omega) (by rw [ba_len]; omega) (by rw [ba_len, ba_len]; omega))
        go_wp2_with fail
        go_ret
        refine ⟨by rw [HE.out]; rfl, ?_⟩
        first | exact ⟨_, rfl⟩ | exact ⟨_, drewN_drewN _ _ _⟩

set_option maxHeartbeats 2000000 in
theorem compare_ok (a b : ByteArray) (w : World) (ha : a.size ≤ 9000000000000000000) (hb : b.size ≤ 9000000000000000000) :
    Calls Try.prog 72 #[.string a, .string b] w fun e w' => e = .returned (.int .i64 (cmpI a b)) ∧ ∃ n, w' = w.drewN n := by
  obtain ⟨n, hn⟩ : ∃ n, n = cpL a.data.toList b.data.toList := ⟨_, rfl⟩
  have hle := cpL_le a.data.toList b.data.toList
  rw [ba_len, ba_len, ← hn] at hle
  obtain ⟨hla, hlb⟩ := hle
  have HN := hid_ hn
  clear hn
  by_cases h1 : n = a.size
  · have hA : ((n : Int) == (a.size : Int)) = true := beq_iff_eq.2 (by omega)
    by_cases h2 : n = b.size
    · have hB : ((n : Int) == (b.size : Int)) = true := beq_iff_eq.2 (by omega)
      have he : a = b := ba_eq (eq_of_cp (by rw [ba_len, ← HN.out, h1]) (by rw [ba_len, ← HN.out, h2]))
      have HE : Hid (cmpI a b = 0) := hid_ (by rw [he]; exact cmp_eq b)
      clear h1 h2 he
      go_enter Try.func72, Try.ntmps72
      go_wp2_with fail
      refine (common_ok a b w ha hb).mono ?_
      rintro e w1 ⟨rfl, q, rfl⟩
      rw [← HN.out]
      go_wp2_with fail
      go_ret
      refine ⟨by rw [HE.out]; rfl, ?_⟩
      first | exact ⟨_, rfl⟩ | exact ⟨_, drewN_drewN _ _ _⟩
    · have hB : ((n : Int) == (b.size : Int)) = false := beq_eq_false_iff_ne.2 (by omega)
      have HE : Hid (cmpI a b = -1) := hid_ (cmp_lt (lt_of_end (by rw [ba_len, ← HN.out, h1]) (by rw [ba_len, ba_len]; omega)))
      clear h1 h2
      go_enter Try.func72, Try.ntmps72
      go_wp2_with fail
      refine (common_ok a b w ha hb).mono ?_
      rintro e w1 ⟨rfl, q, rfl⟩
      rw [← HN.out]
      go_wp2_with fail
      go_ret
      refine ⟨by rw [HE.out]; rfl, ?_⟩
      first | exact ⟨_, rfl⟩ | exact ⟨_, drewN_drewN _ _ _⟩
  · have hA : ((n : Int) == (a.size : Int)) = false := beq_eq_false_iff_ne.2 (by omega)
    by_cases h2 : n = b.size
    · have hB : ((n : Int) == (b.size : Int)) = true := beq_iff_eq.2 (by omega)
      have HE : Hid (cmpI a b = 1) := hid_ (cmp_gt (lt_of_end (by rw [cp_comm, ba_len, ← HN.out, h2]) (by rw [ba_len, ba_len]; omega)))
      clear h1 h2
      go_enter Try.func72, Try.ntmps72
      go_wp2_with fail
      refine (common_ok a b w ha hb).mono ?_
      rintro e w1 ⟨rfl, q, rfl⟩
      rw [← HN.out]
      go_wp2_with fail
      go_ret
      refine ⟨by rw [HE.out]; rfl, ?_⟩
      first | exact ⟨_, rfl⟩ | exact ⟨_, drewN_drewN _ _ _⟩
    · have hB : ((n : Int) == (b.size : Int)) = false := beq_eq_false_iff_ne.2 (by omega)
      have hka : n < a.size := by omega
      have hkb : n < b.size := by omega
      have hi0 : (0 : Int) ≤ (n : Int) := Int.natCast_nonneg _
      have hia : (n : Int) < (a.size : Int) := by omega
      have hib : (n : Int) < (b.size : Int) := by omega
      have ga : a.data.toList[cpL a.data.toList b.data.toList]? = some a[n] := by rw [← HN.out]; exact ba_get hka
      have gb : b.data.toList[cpL a.data.toList b.data.toList]? = some b[n] := by rw [← HN.out]; exact ba_get hkb
      have hst := cpL_stop ga gb
      by_cases h3 : a[n].toNat < b[n].toNat
      · have hC : decide (a[n].toNat < b[n].toNat) = true := decide_eq_true h3
        have HE : Hid (cmpI a b = -1) := hid_ (cmp_lt (lt_of_stop ga gb h3))
        clear h1 h2 h3 ga gb hst
        go_enter Try.func72, Try.ntmps72
        go_wp2_with fail
        refine (common_ok a b w ha hb).mono ?_
        rintro e w1 ⟨rfl, q, rfl⟩
        rw [← HN.out]
        go_wp2_with fail
        go_quiet (fail)
        go_wp2_with fail
        go_ret
        refine ⟨by rw [HE.out]; rfl, ?_⟩
        first | exact ⟨_, rfl⟩ | exact ⟨_, drewN_drewN _ _ _⟩
      · have hC : decide (a[n].toNat < b[n].toNat) = false := decide_eq_false h3
        have hgt : b[n].toNat < a[n].toNat := by
          rcases Nat.lt_trichotomy a[n].toNat b[n].toNat with h | h | h
          · exact absurd h h3
          · exact absurd (u8_eq h) hst
          · exact h
        rw [cp_comm] at ga gb
        have HE : Hid (cmpI a b = 1) := hid_ (cmp_gt (lt_of_stop gb ga hgt))
        clear h1 h2 h3 ga gb hst hgt
        go_enter Try.func72, Try.ntmps72
        go_wp2_with fail
        refine (common_ok a b w ha hb).mono ?_
        rintro e w1 ⟨rfl, q, rfl⟩
        rw [← HN.out]
        go_wp2_with fail
        go_quiet (fail)
        go_wp2_with fail
        go_ret
        refine ⟨by rw [HE.out]; rfl, ?_⟩
        first | exact ⟨_, rfl⟩ | exact ⟨_, drewN_drewN _ _ _⟩

set_option maxHeartbeats 2000000 in
theorem in_ok (low high : ByteArray) (unb : Bool) (key : ByteArray) (w : World) (h1 : low.size ≤ 9000000000000000000) (h2 : high.size ≤ 9000000000000000000) (h3 : key.size ≤ 9000000000000000000) :
    Calls Try.prog 69 #[.string low, .string high, .bool unb, .string key] w fun e w' => e = .returned (.bool (inS low high unb key)) ∧ ∃ n, w' = w.drewN n := by
  have ca := cmp_le low key
  have cb := cmp_neg key high
  cases ha : ltS key low with
  | true =>
    have hr : Hid (inS low high unb key = false) := hid_ (by simp [inS, ha])
    rw [ha] at ca
    have ca' : decide (cmpI low key ≤ 0) = false := ca
    clear ca cb ha
    go_enter Try.func69, Try.ntmps69
    go_wp2_with fail
    refine (compare_ok low key w h1 h3).mono ?_
    rintro e w1 ⟨rfl, q, rfl⟩
    go_wp2_with fail
    go_ret
    refine ⟨by rw [hr.out]; rfl, ?_⟩
    first | exact ⟨_, rfl⟩ | exact ⟨_, drewN_drewN _ _ _⟩
  | false =>
    rw [ha] at ca
    have ca' : decide (cmpI low key ≤ 0) = true := ca
    cases unb with
    | true =>
      have hr : Hid (inS low high true key = true) := hid_ (by simp [inS, ha])
      clear ca cb ha
      go_enter Try.func69, Try.ntmps69
      go_wp2_with fail
      refine (compare_ok low key w h1 h3).mono ?_
      rintro e w1 ⟨rfl, q, rfl⟩
      go_wp2_with fail
      go_ret
      refine ⟨by rw [hr.out]; rfl, ?_⟩
      first | exact ⟨_, rfl⟩ | exact ⟨_, drewN_drewN _ _ _⟩
    | false =>
      have hr : Hid (inS low high false key = ltS key high) := hid_ (by simp [inS, ha])
      have CB := hid_ cb
      clear ca cb ha
      go_enter Try.func69, Try.ntmps69
      go_wp2_with fail
      refine (compare_ok low key w h1 h3).mono ?_
      rintro e w1 ⟨rfl, q, rfl⟩
      go_wp2_with fail
      refine (compare_ok key high _ h3 h2).mono ?_
      rintro e w1 ⟨rfl, q2, rfl⟩
      go_wp2_with fail
      go_ret
      refine ⟨by rw [hr.out, ← CB.out]; rfl, ?_⟩
      first | exact ⟨_, rfl⟩ | exact ⟨_, drewN_drewN _ _ _⟩
end Go.Proofs.Ytpjbncbmdfmlpaa
namespace Go.Proofs.Ytpjbncbmdfmlpaa
open Go

/-- A world in which all that was there is as it was. -/
structure Wx (w : World) where
  v : World
  h : Fr none_ w v
instance Wx.some_ (w : World) : Nonempty (Wx w) := ⟨⟨w, Fr.refl _ _⟩⟩
def Wx.to {w : World} (x : Wx w) : World := x.v
theorem Wx.fr {w : World} (x : Wx w) : Fr none_ w x.to := x.h
theorem Wx.cell {w : World} (x : Wx w) {b o : Nat} {v : Value} (h : w.cell? ⟨b, o, none⟩ = some v) : x.to.cell? ⟨b, o, none⟩ = some v :=
  (World.cell?_of_block (x.h.block b (World.block_lt_of_cell? w _ h) id)).trans h
section
variable {P : Program} {w : World}
theorem wp_region_quiet_x {id : Nat} {Q : Exit → Act → World → Prop} {a : Act} {l : List Oper} (hm : P.follows .mixedOrders = true) (hB : Region.lexB .any l.toArray = true)
    (h : wpQuiet P l.toArray (fun w' => ∃ x : Wx w, w' = x.to) (fun a' => ∀ w', (∃ x : Wx w, w' = x.to) → Q .normal a' w') l a) : (Code.region id l.toArray true).wp P Q a w :=
  wp_region_quiet (C := fun w' => ∃ x : Wx w, w' = x.to) hm hB ⟨⟨_, (Fr.refl none_ w).drew⟩, rfl⟩ (by simpa using h)
theorem Calls.quiet_x {f : FuncId} {args : Array Value} {x : Wx w} {v : Value}
    (h : Calls P f args x.to fun e w' => e = .returned v ∧ Fr none_ x.to w') : Calls P f args x.to fun e w'' => e = .returned v ∧ ∃ y : Wx w, w'' = y.to :=
  h.mono fun _ w' ⟨he, hf⟩ => ⟨he, ⟨w', x.h.then_none hf⟩, rfl⟩
end
end Go.Proofs.Ytpjbncbmdfmlpaa
namespace Go.Proofs.Ytpjbncbmdfmlpaa
open Go.RowKit Go.BigFrame
set_option maxRecDepth 100000
set_option linter.unusedVariables false

structure Vw where
  low : ByteArray
  high : ByteArray
  unb : Bool
  right : Int
  ents : List Et
  held : Bool
  hp : Int
  hl : Int
  hk : ByteArray
def Vw.zero : Vw := ⟨nilS, nilS, false, 0, [], false, 0, 0, nilS⟩
abbrev vwA (V : Vw) (ve : Value) : Array Value := #[.string V.low, .string V.high, .bool V.unb, .int .i64 V.right, ve, .bool V.held, .int .i64 V.hp, .int .i64 V.hl, .string V.hk]
abbrev vwV (V : Vw) (ve : Value) : Value := .agg (vwA V ve)
def SzOk (s : ByteArray) : Prop := s.size ≤ 9000000000000000000
theorem SzOk.le {s : ByteArray} (h : SzOk s) : s.size ≤ 9000000000000000000 := h
theorem SzOk.nil : SzOk nilS := by unfold SzOk; decide
def EtsOk (L : List Et) : Prop := L.length ≤ 1000 ∧ ∀ p ∈ L, SzOk p.1
structure Vw.Ok (V : Vw) : Prop where
  low : SzOk V.low
  high : SzOk V.high
  hk : SzOk V.hk
  ents : EtsOk V.ents
/-- A view's entries lie where its slice says. -/
structure VwIn (w : World) (V : Vw) (A : Option Addr) (c : Nat) : Prop where
  rd : Reads w 2 A V.ents.length (etFlat V.ents)
  cap : V.ents.length ≤ c
  capm : c ≤ maxLen
  ok : V.Ok
theorem VwIn.keep {w w' : World} {V : Vw} {A : Option Addr} {c : Nat} (h : VwIn w V A c) (hf : Fr none_ w w') : VwIn w' V A c := ⟨h.rd.none_fr hf, h.cap, h.capm, h.ok⟩

/-- How many entries stand ahead of a key. -/
def plN : List Et → ByteArray → Nat
  | [], _ => 0
  | p :: t, key => if ltS p.1 key = true then plN t key + 1 else 0
theorem plN_le : ∀ (L : List Et) (key : ByteArray), plN L key ≤ L.length
  | [], _ => Nat.le_refl _
  | p :: t, key => by
    have := plN_le t key
    rw [plN]
    split <;> simp <;> omega
theorem plN_in : ∀ {L : List Et} {key : ByteArray} {i : Nat} {p : Et}, i < plN L key → L[i]? = some p → ltS p.1 key = true
  | [], _, i, p, h, _ => by simp [plN] at h
  | q :: t, key, i, p, h, hp => by
    rw [plN] at h
    split at h
    · cases i with
      | zero =>
        obtain rfl : q = p := by simpa using hp
        assumption
      | succ i => exact plN_in (L := t) (i := i) (by omega) (by simpa using hp)
    · omega
theorem plN_at : ∀ {L : List Et} {key : ByteArray} {p : Et}, L[plN L key]? = some p → ltS p.1 key = false
  | [], _, p, h => by simp at h
  | q :: t, key, p, h => by
    rw [plN] at h
    split at h
    · exact plN_at (L := t) (by simpa using h)
    · obtain rfl : q = p := by simpa using h
      rename_i h1
      simpa using h1
def atB (L : List Et) (key : ByteArray) : Bool :=
  match L[plN L key]? with
  | some p => sEq p.1 key
  | none => false
theorem atB_some {L : List Et} {key : ByteArray} {p : Et} (h : L[plN L key]? = some p) : atB L key = sEq p.1 key := by simp [atB, h]
theorem atB_none {L : List Et} {key : ByteArray} (h : plN L key = L.length) : atB L key = false := by simp [atB, h]

set_option maxHeartbeats 4000000 in
theorem place_ok (V : Vw) (A : Option Addr) (c : Nat) (key : ByteArray) (w : World) (h : VwIn w V A c) (hk : SzOk key) :
    Calls Try.prog 70 #[vwV V (.slice A V.ents.length c), .string key] w fun e w' => e = .returned (.tuple #[.int .i64 (plN V.ents key : Nat), .bool (atB V.ents key)]) ∧ Fr none_ w w' := by
  obtain ⟨w0, hw0⟩ : ∃ w0, w0 = w.alloc (.cells (vwA V (.slice A V.ents.length c)) 43) := ⟨_, rfl⟩
  have f0 : Fr none_ w w0 := by rw [hw0]; exact (Fr.refl none_ w).alloc _
  have F0 := hid_ f0
  have H0 := hid_ (h.keep f0)
  have B0 : Hid (Blk w0 w.heap.size 43 (vwA V (.slice A V.ents.length c))) := hid_ (by rw [hw0]; exact Blk.new w _ _)
  have hle := plN_le V.ents key
  have h1000 := h.ok.ents.1
  have HSZ := hid_ (And.intro h.ok.ents.2 hk)
  clear h f0 hk
  go_enter Try.func70, Try.ntmps70
  go_wp2_with fail
  change Code.wp _ _ _ _ (w.alloc (.cells (vwA V (.slice A V.ents.length c)) 43))
  rw [← hw0]
  clear hw0
  go_loopw [6] (fun i wr => ∃ k : Nat, k ≤ plN V.ents key ∧ i = .int .i64 k ∧ Fr none_ w0 wr) (fun i _ => plN V.ents key - (intOf i).toNat)
  case atStart => exact ⟨0, Nat.zero_le _, rfl, Fr.refl _ _⟩
  case round =>
    obtain ⟨k, hk, rfl, hF⟩ := hrel
    have B := hid_ (B0.out.fr hF id)
    have H := hid_ (H0.out.keep hF)
    have F := hid_ hF
    clear hF
    have v4 : wr.cell? ⟨w.heap.size, 4, none⟩ = some (.slice A V.ents.length c) := B.out.cell' rfl
    have hi0 : (0 : Int) ≤ (k : Int) := Int.natCast_nonneg _
    by_cases hlt : k < plN V.ents key
    · have hkl : k < V.ents.length := by omega
      have hi1 : (k : Int) < (V.ents.length : Int) := by omega
      have hd1 : decide ((k : Int) < (V.ents.length : Int)) = true := by simp; omega
      obtain ⟨p, hp⟩ : ∃ p, V.ents[k]? = some p := ⟨_, List.getElem?_eq_getElem hkl⟩
      obtain ⟨b, off, rfl, hb, c0, c1⟩ := et_at H.out.rd hp
      have hcmp : decide (cmpI p.1 key < 0) = true := by rw [cmp_neg]; exact plN_in hlt hp
      have hsz := HSZ.out.1 p (List.mem_of_getElem? hp)
      have HCMP := hid_ hcmp
      clear hp hcmp c1
      go_wp2_with fail
      refine (compare_ok p.1 key _ hsz.le HSZ.out.2.le).mono ?_
      rintro e w1 ⟨rfl, q, rfl⟩
      have hcmp := HCMP.out
      have FQ := hid_ (F.out.drewN q)
      clear v4 c0
      go_wp2_with fail
      go_roundw
      case rel => exact ⟨k + 1, by omega, by go_num, FQ.out⟩
      case measure => simp [intOf]; omega
    · obtain rfl : k = plN V.ents key := by omega
      by_cases hl : plN V.ents key < V.ents.length
      · obtain ⟨p, hp⟩ : ∃ p, V.ents[plN V.ents key]? = some p := ⟨_, List.getElem?_eq_getElem hl⟩
        obtain ⟨b, off, rfl, hb, c0, c1⟩ := et_at H.out.rd hp
        have hcmp : decide (cmpI p.1 key < 0) = false := by rw [cmp_neg]; exact plN_at hp
        have hsz := HSZ.out.1 p (List.mem_of_getElem? hp)
        have hat := atB_some hp
        obtain ⟨n, hn⟩ : ∃ n, n = plN V.ents key := ⟨_, rfl⟩
        have hi1 : (n : Int) < (V.ents.length : Int) := by omega
        have hd1 : decide ((n : Int) < (V.ents.length : Int)) = true := by simp; omega
        have hd2 : decide (n < V.ents.length) = true := by simp; omega
        rw [← hn] at c0 c1 hi0
        rw [← hn]
        have HCMP := hid_ hcmp
        have HAT := hid_ hat
        have HN := hid_ hn
        clear hp hcmp c1 hl hlt hat hn hk hle
        go_wp2_with fail
        refine (compare_ok p.1 key _ hsz.le HSZ.out.2.le).mono ?_
        rintro e w1 ⟨rfl, q, rfl⟩
        have hcmp := HCMP.out
        have FQ := hid_ (F.out.drewN q)
        go_wp2_with fail
        go_quiet (fail)
        go_wp2_with fail
        go_ret2
        exact ⟨by rw [HAT.out, ← HN.out]; rfl, F0.out.then_none (by repeat (first | exact FQ.out | apply Fr.drewN | apply Fr.drew))⟩
      · have he : plN V.ents key = V.ents.length := by omega
        have hat := atB_none he
        have HAT := hid_ hat
        have HE := hid_ he
        have hd1 : decide ((V.ents.length : Int) < (V.ents.length : Int)) = false := by simp
        rw [he]
        clear he hat hl hlt hk hle
        go_wp2_with fail
        go_quiet (fail)
        go_wp2_with fail
        go_ret2
        exact ⟨by rw [HAT.out, HE.out]; rfl, F0.out.then_none (by repeat (first | exact F.out | apply Fr.drewN | apply Fr.drew))⟩

theorem vin_ok (V : Vw) (ve : Value) (key : ByteArray) (w : World) (h1 : SzOk V.low) (h2 : SzOk V.high) (h3 : SzOk key) :
    Calls Try.prog 71 #[vwV V ve, .string key] w fun e w' => e = .returned (.bool (inS V.low V.high V.unb key)) ∧ Fr none_ w w' := by
  have F0 := hid_ ((Fr.refl none_ w).alloc (.cells (vwA V ve) 43))
  have H := hid_ (And.intro h1 (And.intro h2 h3))
  clear h1 h2 h3
  go_enter Try.func71, Try.ntmps71
  go_wp2_with fail
  refine (in_ok V.low V.high V.unb key _ H.out.1.le H.out.2.1.le H.out.2.2.le).mono ?_
  rintro e w1 ⟨rfl, q, rfl⟩
  go_wp2
  go_ret
  exact ⟨rfl, F0.out.drewN q⟩
/-- What sound says of a view. -/
structure Sound (V : Vw) : Prop where
  head : ∃ p, V.ents[0]? = some p ∧ p.1 = V.low
  high : V.unb = true → V.high = nilS
  inn : ∀ p ∈ V.ents, inS V.low V.high V.unb p.1 = true
  ris : ∀ (i : Nat) (p q : Et), V.ents[i]? = some p → V.ents[i + 1]? = some q → ltS p.1 q.1 = true
def SoundTo (V : Vw) (k : Nat) : Prop := (∀ (j : Nat) (p : Et), j < k → V.ents[j]? = some p → inS V.low V.high V.unb p.1 = true) ∧ ∀ (j : Nat) (p q : Et), j + 1 < k → V.ents[j]? = some p → V.ents[j + 1]? = some q → ltS p.1 q.1 = true
def SoundPost (V : Vw) (w : World) (e : Ending) (w' : World) : Prop := ∃ b : Bool, e = .returned (.bool b) ∧ (b = true ↔ Sound V) ∧ Fr none_ w w'
set_option maxHeartbeats 4000000 in
theorem sound_ok (V : Vw) (A : Option Addr) (c : Nat) (w : World) (h : VwIn w V A c) :
    Calls Try.prog 89 #[vwV V (.slice A V.ents.length c)] w (SoundPost V w) := by
  obtain ⟨w0, hw0⟩ : ∃ w0, w0 = w.alloc (.cells (vwA V (.slice A V.ents.length c)) 43) := ⟨_, rfl⟩
  have f0 : Fr none_ w w0 := by rw [hw0]; exact (Fr.refl none_ w).alloc _
  have F0 := hid_ f0
  have H0 := hid_ (h.keep f0)
  have B0 : Hid (Blk w0 w.heap.size 43 (vwA V (.slice A V.ents.length c))) := hid_ (by rw [hw0]; exact Blk.new w _ _)
  have h1000 := h.ok.ents.1
  have OK := hid_ h.ok
  have v0 : w0.cell? ⟨w.heap.size, 0, none⟩ = some (.string V.low) := B0.out.cell' rfl
  have v1 : w0.cell? ⟨w.heap.size, 1, none⟩ = some (.string V.high) := B0.out.cell' rfl
  have v2 : w0.cell? ⟨w.heap.size, 2, none⟩ = some (.bool V.unb) := B0.out.cell' rfl
  have v4 : w0.cell? ⟨w.heap.size, 4, none⟩ = some (.slice A V.ents.length c) := B0.out.cell' rfl
  clear h f0
  by_cases hl0 : V.ents.length = 0
  · have hne : ¬ Sound V := fun h => by
      obtain ⟨p, hp, _⟩ := h.head
      rw [List.getElem?_eq_none (by omega)] at hp
      cases hp
    have HNE := hid_ hne
    rw [hl0] at v4 hw0
    rw [hl0]
    clear hl0 hne
    go_enter Try.func89, Try.ntmps89
    go_wp2_with fail
    change Code.wp _ _ _ _ (w.alloc (.cells (vwA V (.slice A 0 c)) 43))
    rw [← hw0]
    clear hw0
    go_quiet (fail)
    go_wp2_with fail
    go_ret
    exact ⟨false, rfl, ⟨(fun h => by cases h), fun h => absurd h HNE.out⟩, F0.out.drewN _⟩
  obtain ⟨p0, hp0⟩ : ∃ p, V.ents[0]? = some p := ⟨_, List.getElem?_eq_getElem (by omega)⟩
  obtain ⟨b, off, rfl, hb, c0, c1⟩ := et_at H0.out.rd hp0
  have hd0 : decide ((0 : Int) < (V.ents.length : Int)) = true := by simp; omega
  have hd0' : ((V.ents.length : Int) == 0) = false := beq_eq_false_iff_ne.2 (by omega)
  have hi1 : (0 : Int) < (V.ents.length : Int) := by omega
  simp only [Nat.zero_mul, Nat.add_zero] at c0
  have HP0 := hid_ hp0
  have HL0 := hid_ hl0
  clear hp0 c1 hl0
  by_cases hlow : p0.1 = V.low
  case neg =>
    have hne : ¬ Sound V := fun h => by
      obtain ⟨p, hp, e⟩ := h.head
      rw [HP0.out] at hp
      cases hp
      exact hlow e
    have HNE := hid_ hne
    have hs1 := sEq_ne hlow
    unfold sEq at hs1
    have hs2 : (p0.1.toList != V.low.toList) = true := by simpa [bne] using hs1
    clear hne hlow
    go_enter Try.func89, Try.ntmps89
    go_wp2_with fail
    change Code.wp _ _ _ _ (w.alloc (.cells (vwA V (.slice (some ⟨b, off, none⟩) V.ents.length c)) 43))
    rw [← hw0]
    clear hw0
    go_quiet (fail)
    go_wp2_with fail
    go_ret
    exact ⟨false, rfl, ⟨(fun h => by cases h), fun h => absurd h HNE.out⟩, F0.out.drewN _⟩
  have hs1 : (p0.1.toList == V.low.toList) = true := sEq_iff.2 hlow
  have hs2 : (p0.1.toList != V.low.toList) = false := by simpa [bne] using hs1
  have HLOW := hid_ hlow
  clear hlow
  by_cases hhi : V.unb = true ∧ V.high ≠ nilS
  · have hne : ¬ Sound V := fun h => hhi.2 (h.high hhi.1)
    have HNE := hid_ hne
    rw [hhi.1] at v2
    have hh : V.high.toList.isEmpty = false := by
      cases e : V.high.toList.isEmpty with
      | false => rfl
      | true => exact absurd (ba_eq (by rw [← ba_toList, List.isEmpty_iff.1 e])) hhi.2
    have hh2 : (!V.high.toList.isEmpty) = true := by rw [hh]; rfl
    clear hne hhi
    go_enter Try.func89, Try.ntmps89
    go_wp2_with fail
    change Code.wp _ _ _ _ (w.alloc (.cells (vwA V (.slice (some ⟨b, off, none⟩) V.ents.length c)) 43))
    rw [← hw0]
    clear hw0
    go_quiet (fail)
    go_wp2_with fail
    go_ret
    exact ⟨false, rfl, ⟨(fun h => by cases h), fun h => absurd h HNE.out⟩, F0.out.drewN _⟩
  have HHI : Hid (V.unb = true → V.high = nilS) := hid_ (fun hu => Classical.byContradiction fun hn => hhi ⟨hu, hn⟩)
  clear hhi
  go_enter Try.func89, Try.ntmps89
  go_upto_region 1 with fail
  change Code.wp _ _ _ _ (w.alloc (.cells (vwA V (.slice (some ⟨b, off, none⟩) V.ents.length c)) 43))
  rw [← hw0]
  clear hw0
  go_cut [27] (fun v wq => v = .bool false ∧ Fr none_ w0 wq)
  case first =>
    cases hu : V.unb with
    | false =>
      rw [hu] at v2
      clear hu
      go_quiet (fail)
      go_wp2
      go_meet
      case rel => exact ⟨rfl, (Fr.refl none_ w0).drewN _⟩
    | true =>
      have hh := HHI.out hu
      rw [hu] at v2
      rw [hh] at v1
      clear hu hh
      go_quiet (fail)
      go_wp2
      go_meet
      case rel => exact ⟨rfl, (Fr.refl none_ w0).drewN _⟩
  case rest =>
  obtain ⟨rfl, hf⟩ := hcut
  have B1 := hid_ (B0.out.fr hf id)
  have F1 := hid_ (F0.out.then_none hf)
  have H1 := hid_ (H0.out.keep hf)
  clear hf v0 v1 v2 v4 c0 hs1 hs2 hd0 hd0'
  have v4 : wc.cell? ⟨w.heap.size, 4, none⟩ = some (.slice (some ⟨b, off, none⟩) V.ents.length c) := B1.out.cell' rfl
  go_wp2_with fail
  clear v4 F0 H0 B0
  go_loopw [31] (fun i wr => ∃ k : Nat, k ≤ V.ents.length ∧ i = .int .i64 k ∧ SoundTo V k ∧ Fr none_ wc wr) (fun i _ => V.ents.length - (intOf i).toNat)
  case atStart => exact ⟨0, Nat.zero_le _, rfl, ⟨fun j p hj => by omega, fun j p q hj => by omega⟩, Fr.refl _ _⟩
  case round =>
    obtain ⟨k, hk, rfl, hst, hF⟩ := hrel
    have ST := hid_ hst
    have B := hid_ (B1.out.fr hF id)
    have H := hid_ (H1.out.keep hF)
    have F := hid_ (F1.out.then_none hF)
    have FC := hid_ hF
    clear hst hF
    have hi0 : (0 : Int) ≤ (k : Int) := Int.natCast_nonneg _
    by_cases hlt : k < V.ents.length
    · have hi1' : (k : Int) < (V.ents.length : Int) := by omega
      obtain ⟨p, hp⟩ : ∃ p, V.ents[k]? = some p := ⟨_, List.getElem?_eq_getElem hlt⟩
      obtain ⟨b2, off2, hA, hb2, c0, c1⟩ := et_at H.out.rd hp
      obtain ⟨rfl, rfl⟩ : b = b2 ∧ off = off2 := by injection hA with hA; injection hA with e1 e2; exact ⟨e1, e2⟩
      have HP := hid_ hp
      clear hp hA
      go_upto_region 6 with fail
      obtain ⟨X, hX⟩ : ∃ X, X = wr.heap.size := ⟨_, rfl⟩
      obtain ⟨w2, hw2⟩ : ∃ w2, w2 = wr.alloc (.cells #[.string p.1, .int .i64 p.2] 64) := ⟨_, rfl⟩
      have f2 : Fr none_ wr w2 := by rw [hw2]; exact (Fr.refl none_ wr).alloc _
      have BX : Hid (Blk w2 X 64 #[.string p.1, .int .i64 p.2]) := hid_ (by rw [hw2, hX]; exact Blk.new wr _ _)
      have B2 := hid_ (B.out.fr f2 id)
      have H2 := hid_ (H.out.keep f2)
      have F2 := hid_ (FC.out.then_none f2)
      rw [← hX]
      change Code.wp _ _ _ _ (wr.alloc (.cells #[.string p.1, .int .i64 p.2] 64))
      rw [← hw2]
      clear hw2 hX f2 c0 c1
      have hpk := OK.out.ents.2 p (List.mem_of_getElem? HP.out)
      have HPK := hid_ hpk
      clear hpk
      go_cut [57] (fun v wq => ∃ bb : Bool, v = .bool bb ∧ (bb = false ↔ (inS V.low V.high V.unb p.1 = true ∧ ∀ q, 0 < k → V.ents[k - 1]? = some q → ltS q.1 p.1 = true)) ∧ Fr none_ w2 wq)
      case first =>
        have v0 : w2.cell? ⟨w.heap.size, 0, none⟩ = some (.string V.low) := B2.out.cell' rfl
        have v1 : w2.cell? ⟨w.heap.size, 1, none⟩ = some (.string V.high) := B2.out.cell' rfl
        have v2 : w2.cell? ⟨w.heap.size, 2, none⟩ = some (.bool V.unb) := B2.out.cell' rfl
        have v3 : w2.cell? ⟨w.heap.size, 3, none⟩ = some (.int .i64 V.right) := B2.out.cell' rfl
        have v4 : w2.cell? ⟨w.heap.size, 4, none⟩ = some (.slice (some ⟨b, off, none⟩) V.ents.length c) := B2.out.cell' rfl
        have v5 : w2.cell? ⟨w.heap.size, 5, none⟩ = some (.bool V.held) := B2.out.cell' rfl
        have v6 : w2.cell? ⟨w.heap.size, 6, none⟩ = some (.int .i64 V.hp) := B2.out.cell' rfl
        have v7 : w2.cell? ⟨w.heap.size, 7, none⟩ = some (.int .i64 V.hl) := B2.out.cell' rfl
        have v8 : w2.cell? ⟨w.heap.size, 8, none⟩ = some (.string V.hk) := B2.out.cell' rfl
        have x0 : w2.cell? ⟨X, 0, none⟩ = some (.string p.1) := BX.out.cell' rfl
        have y0 : ∀ x : Wx w2, x.to.cell? ⟨w.heap.size, 0, none⟩ = some (.string V.low) := fun x => x.cell v0
        have y1 : ∀ x : Wx w2, x.to.cell? ⟨w.heap.size, 1, none⟩ = some (.string V.high) := fun x => x.cell v1
        have y2 : ∀ x : Wx w2, x.to.cell? ⟨w.heap.size, 2, none⟩ = some (.bool V.unb) := fun x => x.cell v2
        have y3 : ∀ x : Wx w2, x.to.cell? ⟨w.heap.size, 3, none⟩ = some (.int .i64 V.right) := fun x => x.cell v3
        have y4 : ∀ x : Wx w2, x.to.cell? ⟨w.heap.size, 4, none⟩ = some (.slice (some ⟨b, off, none⟩) V.ents.length c) := fun x => x.cell v4
        have y5 : ∀ x : Wx w2, x.to.cell? ⟨w.heap.size, 5, none⟩ = some (.bool V.held) := fun x => x.cell v5
        have y6 : ∀ x : Wx w2, x.to.cell? ⟨w.heap.size, 6, none⟩ = some (.int .i64 V.hp) := fun x => x.cell v6
        have y7 : ∀ x : Wx w2, x.to.cell? ⟨w.heap.size, 7, none⟩ = some (.int .i64 V.hl) := fun x => x.cell v7
        have y8 : ∀ x : Wx w2, x.to.cell? ⟨w.heap.size, 8, none⟩ = some (.string V.hk) := fun x => x.cell v8
        have z0 : ∀ x : Wx w2, x.to.cell? ⟨X, 0, none⟩ = some (.string p.1) := fun x => x.cell x0
        clear v0 v1 v2 v3 v4 v5 v6 v7 v8 x0
        cases hin : inS V.low V.high V.unb p.1 with
        | false =>
          have HC : Hid (∀ x : Wx w2, Calls Try.prog 71 #[vwV V (.slice (some ⟨b, off, none⟩) V.ents.length c), .string p.1] x.to fun e w' => e = .returned (.bool false) ∧ Fr none_ x.to w') := hid_ (fun x => by
            have h := vin_ok V (.slice (some ⟨b, off, none⟩) V.ents.length c) p.1 x.to OK.out.low OK.out.high HPK.out
            rwa [hin] at h)
          have HIN := hid_ hin
          clear hin
          refine wp_region_quiet_x (by kernel_rfl) (by kernel_rfl) ?_
          repeat (first | go_big_quiet_step ((go_at_call 71; exact Calls.quiet_x (HC.out _))) | quiet_step ((go_at_call 71; exact Calls.quiet_x (HC.out _))))
          refine wpQuiet_nil ?_
          intro _ hw'
          obtain ⟨xq, hw''⟩ := hw'
          subst hw''
          go_wp2
          go_meet
          case rel => exact ⟨true, rfl, ⟨(fun h => by cases h), fun h => by rw [HIN.out] at h; cases h.1⟩, xq.fr⟩
        | true =>
          have HC : Hid (∀ x : Wx w2, Calls Try.prog 71 #[vwV V (.slice (some ⟨b, off, none⟩) V.ents.length c), .string p.1] x.to fun e w' => e = .returned (.bool true) ∧ Fr none_ x.to w') := hid_ (fun x => by
            have h := vin_ok V (.slice (some ⟨b, off, none⟩) V.ents.length c) p.1 x.to OK.out.low OK.out.high HPK.out
            rwa [hin] at h)
          have HIN := hid_ hin
          clear hin
          by_cases hk0 : 0 < k
          · obtain ⟨q, hq⟩ : ∃ q, V.ents[k - 1]? = some q := ⟨_, List.getElem?_eq_getElem (by omega)⟩
            obtain ⟨b3, off3, hA, hb3, d0, d1⟩ := et_at H2.out.rd hq
            obtain ⟨rfl, rfl⟩ : b = b3 ∧ off = off3 := by injection hA with hA; injection hA with e1 e2; exact ⟨e1, e2⟩
            have e0 : ∀ x : Wx w2, x.to.cell? ⟨b, off + (k - 1) * 2, none⟩ = some (.string q.1) := fun x => x.cell d0
            have hqk := OK.out.ents.2 q (List.mem_of_getElem? hq)
            have HQK := hid_ hqk
            have HQ := hid_ hq
            have HQ' : Hid ((∀ q', 0 < k → V.ents[k - 1]? = some q' → ltS q'.1 p.1 = true) ↔ ltS q.1 p.1 = true) := hid_ ⟨fun h => h q hk0 hq, fun h q' _ hq' => by rw [hq] at hq'; cases hq'; exact h⟩
            have HC2 : Hid (∀ x : Wx w2, Calls Try.prog 72 #[.string q.1, .string p.1] x.to fun e w' => e = .returned (.int .i64 (cmpI q.1 p.1)) ∧ Fr none_ x.to w') := hid_ (fun x => (compare_ok q.1 p.1 x.to HQK.out.le HPK.out.le).mono (by rintro e w' ⟨rfl, n, rfl⟩; exact ⟨rfl, (Fr.refl none_ _).drewN n⟩))
            have hw1 : IntKind.i64.wrap ((k : Int) - 1) = ((k - 1 : Nat) : Int) := by rw [show (k : Int) - 1 = ((k - 1 : Nat) : Int) by omega]; exact IntWalk.i64_in _ (by omega)
            have hdk : decide (0 < k) = true := decide_eq_true hk0
            have hj0 : (0 : Int) ≤ ((k - 1 : Nat) : Int) := Int.natCast_nonneg _
            have hj1 : ((k - 1 : Nat) : Int) < (V.ents.length : Int) := by omega
            obtain ⟨j, hj⟩ : ∃ j, j = k - 1 := ⟨_, rfl⟩
            rw [← hj] at e0 hw1 hj0 hj1
            have HJ := hid_ hj
            have hge := cmp_ge q.1 p.1
            have HGE := hid_ hge
            clear hq hA d0 d1 hqk hj hge hk0
            refine wp_region_quiet_x (by kernel_rfl) (by kernel_rfl) ?_
            repeat (first | go_big_quiet_step ((first | (go_at_call 71; exact Calls.quiet_x (HC.out _)) | (go_at_call 72; exact Calls.quiet_x (HC2.out _)))) | quiet_step ((first | (go_at_call 71; exact Calls.quiet_x (HC.out _)) | (go_at_call 72; exact Calls.quiet_x (HC2.out _)))))
            refine wpQuiet_nil ?_
            intro _ hw'
            obtain ⟨xq, hw''⟩ := hw'
            subst hw''
            go_wp2
            go_meet
            case rel => exact ⟨_, rfl, by
              rw [HGE.out, HIN.out, HQ'.out]
              cases ltS q.1 p.1 <;> simp, xq.fr⟩
          · have hdk : decide (0 < k) = false := decide_eq_false hk0
            have hk0' : k = 0 := by omega
            have HK0 := hid_ hk0'
            clear hk0 hk0'
            refine wp_region_quiet_x (by kernel_rfl) (by kernel_rfl) ?_
            repeat (first | go_big_quiet_step ((go_at_call 71; exact Calls.quiet_x (HC.out _))) | quiet_step ((go_at_call 71; exact Calls.quiet_x (HC.out _))))
            refine wpQuiet_nil ?_
            intro _ hw'
            obtain ⟨xq, hw''⟩ := hw'
            subst hw''
            go_wp2
            go_meet
            case rel => exact ⟨false, rfl, ⟨fun _ => ⟨HIN.out, fun q h => by have := HK0.out; omega⟩, fun _ => rfl⟩, xq.fr⟩
      case rest =>
      obtain ⟨bb, rfl, hbb, hf⟩ := hcut
      have F3 := hid_ (F2.out.then_none hf)
      have HB := hid_ hbb
      clear hf hbb B2 H2 BX F2
      cases bb with
      | true =>
        have hns : ¬ Sound V := fun hS => by
          have h := HB.out.2 ⟨hS.inn p (List.mem_of_getElem? HP.out), fun q h0 hq => hS.ris (k - 1) q p hq (by rw [show k - 1 + 1 = k by omega]; exact HP.out)⟩
          cases h
        have HNS := hid_ hns
        clear hns
        go_wp2_with fail
        go_ret
        exact ⟨false, rfl, ⟨(fun h => by cases h), fun h => absurd h HNS.out⟩, F1.out.then_none F3.out⟩
      | false =>
        have hst : SoundTo V (k + 1) := by
          have h := HB.out.1 rfl
          refine ⟨fun j p' hj hp' => ?_, fun j p' q hj hp' hq => ?_⟩
          · rcases Nat.lt_succ_iff_lt_or_eq.1 hj with hj | rfl
            · exact ST.out.1 j p' hj hp'
            · rw [HP.out] at hp'; cases hp'; exact h.1
          · rcases Nat.lt_succ_iff_lt_or_eq.1 hj with hj | hj
            · exact ST.out.2 j p' q hj hp' hq
            · rw [hj, HP.out] at hq
              cases hq
              exact h.2 p' (by omega) (by rw [show k - 1 = j by omega]; exact hp')
        have HST := hid_ hst
        clear hst
        go_wp2_with fail
        go_roundw
        case rel => exact ⟨k + 1, by omega, by go_num, HST.out, F3.out⟩
        case measure => simp [intOf]; omega
    · obtain rfl : k = V.ents.length := by omega
      have hS : Sound V := ⟨⟨p0, HP0.out, HLOW.out⟩, HHI.out, fun p hp => by obtain ⟨j, hj, e⟩ := List.mem_iff_getElem.1 hp; exact ST.out.1 j p hj (by rw [List.getElem?_eq_getElem hj, e]), fun j p q hp hq => ST.out.2 j p q (List.getElem?_eq_some_iff.1 hq).1 hp hq⟩
      have HS := hid_ hS
      clear hS
      go_wp2_with fail
      go_ret
      exact ⟨true, rfl, ⟨fun _ => HS.out, fun _ => rfl⟩, F.out⟩
end Go.Proofs.Ytpjbncbmdfmlpaa
namespace Go.Proofs.Ytpjbncbmdfmlpaa
open Go.RowKit Go.BigFrame
set_option maxRecDepth 100000
set_option linter.unusedVariables false

theorem box9 {w1 : World} {b : Nat} {t : TypeId} {c0 c1 c2 c3 c4 c5 c6 c7 c8 : Value} (h : Blk w1 b t #[c0, c1, c2, c3, c4, c5, c6, c7, c8]) (x0 x1 x2 x3 x4 x5 x6 x7 x8 : Value) :
    Blk (((((((((w1.setCell ⟨b, 0, none⟩ x0).setCell ⟨b, 1, none⟩ x1).setCell ⟨b, 2, none⟩ x2).setCell ⟨b, 3, none⟩ x3).setCell ⟨b, 4, none⟩ x4).setCell ⟨b, 5, none⟩ x5).setCell ⟨b, 6, none⟩ x6).setCell ⟨b, 7, none⟩ x7).setCell ⟨b, 8, none⟩ x8) b t #[x0, x1, x2, x3, x4, x5, x6, x7, x8] ∧ Fr (only b) w1 (((((((((w1.setCell ⟨b, 0, none⟩ x0).setCell ⟨b, 1, none⟩ x1).setCell ⟨b, 2, none⟩ x2).setCell ⟨b, 3, none⟩ x3).setCell ⟨b, 4, none⟩ x4).setCell ⟨b, 5, none⟩ x5).setCell ⟨b, 6, none⟩ x6).setCell ⟨b, 7, none⟩ x7).setCell ⟨b, 8, none⟩ x8) := by
  refine ⟨?_, (((((((((Fr.refl (only b) w1).setCell (p := ⟨b, 0, none⟩) (.inl (Eq.refl _)) x0).setCell (p := ⟨b, 1, none⟩) (.inl (Eq.refl _)) x1).setCell (p := ⟨b, 2, none⟩) (.inl (Eq.refl _)) x2).setCell (p := ⟨b, 3, none⟩) (.inl (Eq.refl _)) x3).setCell (p := ⟨b, 4, none⟩) (.inl (Eq.refl _)) x4).setCell (p := ⟨b, 5, none⟩) (.inl (Eq.refl _)) x5).setCell (p := ⟨b, 6, none⟩) (.inl (Eq.refl _)) x6).setCell (p := ⟨b, 7, none⟩) (.inl (Eq.refl _)) x7).setCell (p := ⟨b, 8, none⟩) (.inl (Eq.refl _)) x8⟩
  have e := (((((((((h.set_ 0 x0).set_ 1 x1).set_ 2 x2).set_ 3 x3).set_ 4 x4).set_ 5 x5).set_ 6 x6).set_ 7 x7).set_ 8 x8)
  simp only [List.setIfInBounds_toArray, List.set_cons_zero, List.set_cons_succ] at e
  exact e

abbrev Pt := Option Addr × Nat × List Et
abbrev ptV (x : Pt) : Value := .slice x.1 x.2.2.length x.2.1
def ptL (ps : List Pt) : List Et := (ps.map (·.2.2)).flatten
theorem etFlat_app (L M : List Et) : etFlat (L ++ M) = etFlat L ++ etFlat M := by simp [etFlat]
theorem etFlat_take : ∀ (L : List Et) (n : Nat), etFlat (L.take n) = (etFlat L).take (n * 2)
  | [], n => by simp [etFlat]
  | p :: t, 0 => by simp [etFlat]
  | p :: t, n + 1 => by
    have := etFlat_take t n
    rw [show (n + 1) * 2 = n * 2 + 1 + 1 by omega]
    show etCells p ++ etFlat (t.take n) = (etCells p ++ etFlat t).take (n * 2 + 1 + 1)
    rw [this]
    rfl
theorem etFlat_drop (L : List Et) (n : Nat) : etFlat (L.drop n) = (etFlat L).drop (n * 2) := by
  have h : etFlat L = etFlat (L.take n) ++ etFlat (L.drop n) := by rw [← etFlat_app, List.take_append_drop]
  rcases Nat.lt_or_ge L.length n with hl | hl
  · rw [List.drop_eq_nil_of_le (by omega), List.drop_eq_nil_of_le (by rw [etFlat_len]; omega)]
    rfl
  · rw [h, List.drop_left' (by rw [etFlat_len]; simp; omega)]
theorem ptL_take {ps : List Pt} {k : Nat} {x : Pt} (h : ps[k]? = some x) : ptL (ps.take (k + 1)) = ptL (ps.take k) ++ x.2.2 := by
  simp [ptL, List.take_add_one, h]
theorem ptL_le (ps : List Pt) : ∀ k, (ptL (ps.take k)).length ≤ (ptL ps).length := fun k => by
  have : ptL ps = ptL (ps.take k) ++ ptL (ps.drop k) := by
    unfold ptL
    rw [← List.flatten_append, ← List.map_append, List.take_append_drop]
  rw [this, List.length_append]
  omega
def JoinPost (w : World) (L : List Et) (e : Ending) (w' : World) : Prop :=
  ∃ A c, e = .returned (.slice A L.length c) ∧ w'.ownsRow w.heap.size 64 2 (.slice A L.length c) L.length (etFlat L) ∧ Fr none_ w w'
set_option maxHeartbeats 2000000 in
theorem joined_ok (b : Nat) (ps : List Pt) (w : World) (hb : ∀ (i : Nat) x, ps[i]? = some x → w.cell? ⟨b, i, none⟩ = some (ptV x)) (hr : ∀ x ∈ ps, Reads w 2 x.1 x.2.2.length (etFlat x.2.2)) (hl : (ptL ps).length ≤ 2000) (hn : ps.length ≤ 10) :
    Calls Try.prog 88 #[.slice (some ⟨b, 0, none⟩) ps.length ps.length] w (JoinPost w (ptL ps)) := by
  obtain ⟨i0, hi0, hz0, hs0, hb0⟩ := info_parts entry_info
  have Hi := hid_ (And.intro hi0 (And.intro hz0 (And.intro hs0 hb0)))
  have HB := hid_ hb
  have HR := hid_ hr
  clear hi0 hz0 hs0 hb0 hb hr
  go_enter Try.func88, Try.ntmps88
  go_wp2_with fail
  go_loopw [3, 8] (fun v i wr => ∃ k : Nat, k ≤ ps.length ∧ i = .int .i64 k ∧ wr.ownsRow w.heap.size 64 2 v (ptL (ps.take k)).length (etFlat (ptL (ps.take k))) ∧ Fr none_ w wr) (fun _ i _ => ps.length - (intOf i).toNat)
  case atStart => exact ⟨0, Nat.zero_le _, rfl, World.ownsRow_nil _ _ _ _, Fr.refl _ _⟩
  case round =>
    obtain ⟨k, hk, rfl, hown, hF⟩ := hrel
    obtain ⟨A, c, rfl⟩ := hown.shape
    have O := hid_ hown
    have F := hid_ hF
    clear hown hF
    have hi0 : (0 : Int) ≤ (k : Int) := Int.natCast_nonneg _
    by_cases hlt : k < ps.length
    · have hi1 : (k : Int) < (ps.length : Int) := by omega
      obtain ⟨x, hx⟩ : ∃ x, ps[k]? = some x := ⟨_, List.getElem?_eq_getElem hlt⟩
      obtain ⟨A2, c2, L2⟩ := x
      have hc : wr.cell? ⟨b, k, none⟩ = some (.slice A2 L2.length c2) := cellFr (HB.out k _ hx) F.out
      have R := hid_ ((HR.out _ (List.mem_of_getElem? hx)).none_fr F.out)
      have HT := hid_ (ptL_take hx)
      have hle : (ptL (ps.take k)).length + L2.length ≤ (ptL ps).length := by
        have := ptL_le ps (k + 1)
        rw [HT.out, List.length_append] at this
        exact this
      have hfs := F.out.size
      clear hx
      go_wp2_with (at_builtin; refine wpList_append_any _ rfl (.tmp 12) (.tmp 13) 39 rfl w.heap.size 64 i0 _ 2 24 Try.underlying39 Hi.out.1 Hi.out.2.1 Hi.out.2.2.1 Hi.out.2.2.2 rfl (by omega) (.slice A (ptL (ps.take k)).length c) (ptL (ps.take k)).length (etFlat (ptL (ps.take k))) rfl O.out A2 L2.length c2 (etFlat L2) rfl R.out (etFlat_one _) (by simp only [maxLen]; omega) (by omega) hfs ?_; intro A3 c3 w3 hown3 hgr3)
      have R3 : w3.ownsRow w.heap.size 64 2 (.slice A3 ((ptL (ps.take k)).length + L2.length) c3) (ptL (ps.take (k + 1))).length (etFlat (ptL (ps.take (k + 1)))) ∧ Fr none_ w w3 := by
        refine ⟨?_, F.out.grown hgr3 (fun b hb => .inr (O.out.lt b hb).1)⟩
        rw [HT.out, List.length_append, etFlat_app]
        exact hown3
      have HR3 := hid_ R3
      clear R3 hown3 hgr3
      go_wp2
      go_roundw
      case rel => exact ⟨k + 1, by omega, by go_num, HR3.out.1, HR3.out.2⟩
      case measure => simp [intOf]; omega
    · obtain rfl : k = ps.length := by omega
      have o := O.out
      have f := F.out
      rw [List.take_length] at o
      go_wp2
      go_ret
      rw [List.take_length]
      exact ⟨A, c, rfl, o, f⟩
end Go.Proofs.Ytpjbncbmdfmlpaa
namespace Go.Proofs.Ytpjbncbmdfmlpaa
open Go.RowKit Go.BigFrame
set_option maxRecDepth 100000
set_option linter.unusedVariables false

/-- How many rows stand ahead of a key. -/
def plR : List Rw → ByteArray → Nat
  | [], _ => 0
  | p :: t, key => if ltS p.1 key = true then plR t key + 1 else 0
theorem plR_le : ∀ (L : List Rw) (key : ByteArray), plR L key ≤ L.length
  | [], _ => Nat.le_refl _
  | p :: t, key => by
    have := plR_le t key
    rw [plR]
    split <;> simp <;> omega
theorem plR_in : ∀ {L : List Rw} {key : ByteArray} {i : Nat} {p : Rw}, i < plR L key → L[i]? = some p → ltS p.1 key = true
  | [], _, i, p, h, _ => by simp [plR] at h
  | q :: t, key, i, p, h, hp => by
    rw [plR] at h
    split at h
    · cases i with
      | zero =>
        obtain rfl : q = p := by simpa using hp
        assumption
      | succ i => exact plR_in (L := t) (i := i) (by omega) (by simpa using hp)
    · omega
theorem plR_at : ∀ {L : List Rw} {key : ByteArray} {p : Rw}, L[plR L key]? = some p → ltS p.1 key = false
  | [], _, p, h => by simp at h
  | q :: t, key, p, h => by
    rw [plR] at h
    split at h
    · exact plR_at (L := t) (by simpa using h)
    · obtain rfl : q = p := by simpa using h
      rename_i h1
      simpa using h1
def atR (L : List Rw) (key : ByteArray) : Bool :=
  match L[plR L key]? with
  | some p => sEq p.1 key
  | none => false
theorem atR_some {L : List Rw} {key : ByteArray} {p : Rw} (h : L[plR L key]? = some p) : atR L key = sEq p.1 key := by simp [atR, h]
theorem atR_none {L : List Rw} {key : ByteArray} (h : plR L key = L.length) : atR L key = false := by simp [atR, h]
theorem atR_lt {L : List Rw} {key : ByteArray} (h : atR L key = true) : plR L key < L.length := by
  have h1 := plR_le L key
  rcases Nat.lt_or_ge (plR L key) L.length with h2 | h2
  · exact h2
  · rw [atR_none (by omega)] at h; cases h
/-- May a row be? -/
def fitsR (p : Rw) : Bool := (decide (1 ≤ p.1.size) && decide (p.1.size ≤ 16)) && decide (p.2.size ≤ 16)
structure RightR (L : List Rw) : Prop where
  fit : ∀ p ∈ L, fitsR p = true
  ris : ∀ (i : Nat) (p q : Rw), L[i]? = some p → L[i + 1]? = some q → ltS p.1 q.1 = true
def RightTo (L : List Rw) (k : Nat) : Prop := (∀ (j : Nat) (p : Rw), j < k → L[j]? = some p → fitsR p = true) ∧ ∀ (j : Nat) (p q : Rw), j + 1 < k → L[j]? = some p → L[j + 1]? = some q → ltS p.1 q.1 = true
def RwsOk (L : List Rw) : Prop := L.length ≤ 300000 ∧ ∀ p ∈ L, SzOk p.1 ∧ SzOk p.2
def putR (L : List Rw) (r : Rw) : List Rw := L.take (plR L r.1) ++ [r] ++ L.drop (plR L r.1 + if atR L r.1 then 1 else 0)
def dropR (L : List Rw) (key : ByteArray) : List Rw := if atR L key then L.take (plR L key) ++ L.drop (plR L key + 1) else L
theorem putR_len (L : List Rw) (r : Rw) : (putR L r).length ≤ L.length + 1 := by
  have := plR_le L r.1
  simp only [putR, List.length_append, List.length_take, List.length_drop, List.length_cons, List.length_nil]
  omega
theorem dropR_len (L : List Rw) (key : ByteArray) : (dropR L key).length ≤ L.length := by
  unfold dropR
  split
  · simp only [List.length_append, List.length_take, List.length_drop]; omega
  · exact Nat.le_refl _
/-- The rows that lie in a span. -/
def inR (low high : ByteArray) (unb : Bool) (L : List Rw) : List Rw := L.filter fun p => inS low high unb p.1
theorem inR_all {low high : ByteArray} {unb : Bool} {L : List Rw} : (inR low high unb L).length = L.length ↔ ∀ p ∈ L, inS low high unb p.1 = true := by
  unfold inR
  rw [List.length_filter_eq_length_iff]
structure SoundR (low high : ByteArray) (unb : Bool) (L : List Rw) : Prop where
  hi : unb = true → high = nilS
  right : RightR L
  inn : ∀ p ∈ L, inS low high unb p.1 = true
abbrev PtR := Option Addr × Nat × List Rw
abbrev ptRV (x : PtR) : Value := .slice x.1 x.2.2.length x.2.1
def ptRL (ps : List PtR) : List Rw := (ps.map (·.2.2)).flatten
theorem rwFlat_app (L M : List Rw) : rwFlat (L ++ M) = rwFlat L ++ rwFlat M := by simp [rwFlat]
theorem rwFlat_take : ∀ (L : List Rw) (n : Nat), rwFlat (L.take n) = (rwFlat L).take (n * 2)
  | [], n => by simp [rwFlat]
  | p :: t, 0 => by simp [rwFlat]
  | p :: t, n + 1 => by
    have := rwFlat_take t n
    rw [show (n + 1) * 2 = n * 2 + 1 + 1 by omega]
    show rwCells p ++ rwFlat (t.take n) = (rwCells p ++ rwFlat t).take (n * 2 + 1 + 1)
    rw [this]
    rfl
theorem rwFlat_drop (L : List Rw) (n : Nat) : rwFlat (L.drop n) = (rwFlat L).drop (n * 2) := by
  have h : rwFlat L = rwFlat (L.take n) ++ rwFlat (L.drop n) := by rw [← rwFlat_app, List.take_append_drop]
  rcases Nat.lt_or_ge L.length n with hl | hl
  · rw [List.drop_eq_nil_of_le (by omega), List.drop_eq_nil_of_le (by rw [rwFlat_len]; omega)]
    rfl
  · rw [h, List.drop_left' (by rw [rwFlat_len]; simp; omega)]
theorem ptRL_take {ps : List PtR} {k : Nat} {x : PtR} (h : ps[k]? = some x) : ptRL (ps.take (k + 1)) = ptRL (ps.take k) ++ x.2.2 := by
  simp [ptRL, List.take_add_one, h]
theorem ptRL_le (ps : List PtR) : ∀ k, (ptRL (ps.take k)).length ≤ (ptRL ps).length := fun k => by
  have : ptRL ps = ptRL (ps.take k) ++ ptRL (ps.drop k) := by
    unfold ptRL
    rw [← List.flatten_append, ← List.map_append, List.take_append_drop]
  rw [this, List.length_append]
  omega
def JoinPostR (w : World) (L : List Rw) (e : Ending) (w' : World) : Prop :=
  ∃ A c, e = .returned (.slice A L.length c) ∧ w'.ownsRow w.heap.size 62 2 (.slice A L.length c) L.length (rwFlat L) ∧ Fr none_ w w'
set_option maxHeartbeats 2000000 in
theorem list_ok (b : Nat) (ps : List PtR) (w : World) (hb : ∀ (i : Nat) x, ps[i]? = some x → w.cell? ⟨b, i, none⟩ = some (ptRV x)) (hr : ∀ x ∈ ps, Reads w 2 x.1 x.2.2.length (rwFlat x.2.2)) (hl : (ptRL ps).length ≤ 900000) (hn : ps.length ≤ 10) :
    Calls Try.prog 105 #[.slice (some ⟨b, 0, none⟩) ps.length ps.length] w (JoinPostR w (ptRL ps)) := by
  obtain ⟨i0, hi0, hz0, hs0, hb0⟩ := info_parts row_info
  have Hi := hid_ (And.intro hi0 (And.intro hz0 (And.intro hs0 hb0)))
  have HB := hid_ hb
  have HR := hid_ hr
  clear hi0 hz0 hs0 hb0 hb hr
  go_enter Try.func105, Try.ntmps105
  go_wp2_with fail
  go_loopw [3, 8] (fun v i wr => ∃ k : Nat, k ≤ ps.length ∧ i = .int .i64 k ∧ wr.ownsRow w.heap.size 62 2 v (ptRL (ps.take k)).length (rwFlat (ptRL (ps.take k))) ∧ Fr none_ w wr) (fun _ i _ => ps.length - (intOf i).toNat)
  case atStart => exact ⟨0, Nat.zero_le _, rfl, World.ownsRow_nil _ _ _ _, Fr.refl _ _⟩
  case round =>
    obtain ⟨k, hk, rfl, hown, hF⟩ := hrel
    obtain ⟨A, c, rfl⟩ := hown.shape
    have O := hid_ hown
    have F := hid_ hF
    clear hown hF
    have hi0 : (0 : Int) ≤ (k : Int) := Int.natCast_nonneg _
    by_cases hlt : k < ps.length
    · have hi1 : (k : Int) < (ps.length : Int) := by omega
      obtain ⟨x, hx⟩ : ∃ x, ps[k]? = some x := ⟨_, List.getElem?_eq_getElem hlt⟩
      obtain ⟨A2, c2, L2⟩ := x
      have hc : wr.cell? ⟨b, k, none⟩ = some (.slice A2 L2.length c2) := cellFr (HB.out k _ hx) F.out
      have R := hid_ ((HR.out _ (List.mem_of_getElem? hx)).none_fr F.out)
      have HT := hid_ (ptRL_take hx)
      have hle : (ptRL (ps.take k)).length + L2.length ≤ (ptRL ps).length := by
        have := ptRL_le ps (k + 1)
        rw [HT.out, List.length_append] at this
        exact this
      have hfs := F.out.size
      clear hx
      go_wp2_with (at_builtin; refine wpList_append_any _ rfl (.tmp 12) (.tmp 13) 36 rfl w.heap.size 62 i0 _ 2 32 Try.underlying36 Hi.out.1 Hi.out.2.1 Hi.out.2.2.1 Hi.out.2.2.2 rfl (by omega) (.slice A (ptRL (ps.take k)).length c) (ptRL (ps.take k)).length (rwFlat (ptRL (ps.take k))) rfl O.out A2 L2.length c2 (rwFlat L2) rfl R.out (rwFlat_one _) (by simp only [maxLen]; omega) (by omega) hfs ?_; intro A3 c3 w3 hown3 hgr3)
      have R3 : w3.ownsRow w.heap.size 62 2 (.slice A3 ((ptRL (ps.take k)).length + L2.length) c3) (ptRL (ps.take (k + 1))).length (rwFlat (ptRL (ps.take (k + 1)))) ∧ Fr none_ w w3 := by
        refine ⟨?_, F.out.grown hgr3 (fun b hb => .inr (O.out.lt b hb).1)⟩
        rw [HT.out, List.length_append, rwFlat_app]
        exact hown3
      have HR3 := hid_ R3
      clear R3 hown3 hgr3
      go_wp2
      go_roundw
      case rel => exact ⟨k + 1, by omega, by go_num, HR3.out.1, HR3.out.2⟩
      case measure => simp [intOf]; omega
    · obtain rfl : k = ps.length := by omega
      have o := O.out
      have f := F.out
      rw [List.take_length] at o
      go_wp2
      go_ret
      rw [List.take_length]
      exact ⟨A, c, rfl, o, f⟩
set_option maxHeartbeats 2000000 in
theorem bright_ok (k : ByteArray) (w : World) (h : SzOk k) : Calls Try.prog 120 #[.string k] w fun e w' => e = .returned (.bool (decide (1 ≤ k.size) && decide (k.size ≤ 16))) ∧ Fr none_ w w' := by
  have hl := h.le
  clear h
  go_enter Try.func120, Try.ntmps120
  by_cases h1 : 1 ≤ k.size
  · have e1 : decide ((1 : Int) ≤ (k.size : Int)) = true := by simp; omega
    have H1 := hid_ h1
    by_cases h2 : k.size ≤ 16
    · have e2 : decide ((k.size : Int) ≤ 16) = true := by simp; omega
      have H2 := hid_ h2
      clear h1 h2
      go_wp2
      go_ret
      exact ⟨by simp [H1.out, H2.out], Fr.refl _ _⟩
    · have e2 : decide ((k.size : Int) ≤ 16) = false := by simp; omega
      have H2 := hid_ h2
      clear h1 h2
      go_wp2
      go_ret
      exact ⟨by simp [H1.out, H2.out], Fr.refl _ _⟩
  · have e1 : decide ((1 : Int) ≤ (k.size : Int)) = false := by simp; omega
    have H1 := hid_ h1
    clear h1
    go_wp2
    go_ret
    exact ⟨by simp [H1.out], Fr.refl _ _⟩
abbrev rwV (p : Rw) : Value := .agg #[.string p.1, .string p.2]
set_option maxHeartbeats 2000000 in
theorem fits_ok (p : Rw) (w : World) (h1 : SzOk p.1) (h2 : SzOk p.2) : Calls Try.prog 116 #[rwV p] w fun e w' => e = .returned (.bool (fitsR p)) ∧ Fr none_ w w' := by
  have hl := h2.le
  have H1 := hid_ h1
  obtain ⟨w0, hw0⟩ : ∃ z, z = w.alloc (.cells #[.string p.1, .string p.2] 62) := ⟨_, rfl⟩
  have f0 : Fr none_ w w0 := by rw [hw0]; exact (Fr.refl none_ w).alloc _
  have B0 : Hid (Blk w0 w.heap.size 62 #[.string p.1, .string p.2]) := hid_ (by rw [hw0]; exact Blk.new w _ _)
  have F0 := hid_ f0
  clear h1 h2 f0
  go_enter Try.func116, Try.ntmps116
  go_upto_region 1 with fail
  change Code.wp _ _ _ _ (w.alloc (.cells #[.string p.1, .string p.2] 62))
  rw [← hw0]
  clear hw0
  have c0 : w0.cell? ⟨w.heap.size, 0, none⟩ = some (.string p.1) := B0.out.cell' rfl
  go_wp2_with fail
  refine (bright_ok p.1 _ H1.out).mono ?_
  rintro e w1 ⟨rfl, hf⟩
  have c1 : w1.cell? ⟨w.heap.size, 1, none⟩ = some (.string p.2) := (B0.out.fr hf id).cell' rfl
  replace F0 := hid_ (F0.out.then_none hf)
  clear c0 hf
  obtain ⟨b, hb⟩ : ∃ b, (decide (1 ≤ p.1.size) && decide (p.1.size ≤ 16)) = b := ⟨_, rfl⟩
  rw [hb]
  have HB := hid_ hb
  clear hb
  cases b with
  | false =>
    go_wp2
    go_ret
    exact ⟨by simp [fitsR, HB.out], F0.out⟩
  | true =>
    by_cases h2 : p.2.size ≤ 16
    · have e2 : decide ((p.2.size : Int) ≤ 16) = true := by simp; omega
      have H2 := hid_ h2
      clear h2
      go_wp2
      go_ret
      exact ⟨by simp [fitsR, HB.out, H2.out], F0.out⟩
    · have e2 : decide ((p.2.size : Int) ≤ 16) = false := by simp; omega
      have H2 := hid_ h2
      clear h2
      go_wp2
      go_ret
      exact ⟨by simp [fitsR, HB.out, H2.out], F0.out⟩
set_option maxHeartbeats 4000000 in
theorem placeR_ok (L : List Rw) (A : Option Addr) (c : Nat) (key : ByteArray) (w : World) (h : Reads w 2 A L.length (rwFlat L)) (ho : RwsOk L) (hk : SzOk key) :
    Calls Try.prog 119 #[.slice A L.length c, .string key] w fun e w' => e = .returned (.int .i64 (plR L key : Nat)) ∧ Fr none_ w w' := by
  have H0 := hid_ h
  have hle := plR_le L key
  have h1000 := ho.1
  have HSZ := hid_ (And.intro ho.2 hk)
  clear h ho hk
  go_enter Try.func119, Try.ntmps119
  go_wp2_with fail
  go_loopw [5] (fun i wr => ∃ k : Nat, k ≤ plR L key ∧ i = .int .i64 k ∧ Fr none_ w wr) (fun i _ => plR L key - (intOf i).toNat)
  case atStart => exact ⟨0, Nat.zero_le _, rfl, Fr.refl _ _⟩
  case round =>
    obtain ⟨k, hk, rfl, hF⟩ := hrel
    have H := hid_ (H0.out.none_fr hF)
    have F := hid_ hF
    clear hF
    have hi0 : (0 : Int) ≤ (k : Int) := Int.natCast_nonneg _
    by_cases hlt : k < plR L key
    · have hkl : k < L.length := by omega
      have hi1 : (k : Int) < (L.length : Int) := by omega
      have hd1 : decide ((k : Int) < (L.length : Int)) = true := by simp; omega
      obtain ⟨p, hp⟩ : ∃ p, L[k]? = some p := ⟨_, List.getElem?_eq_getElem hkl⟩
      obtain ⟨b, off, rfl, hb, c0, c1⟩ := rw_at H.out hp
      have hcmp : decide (cmpI p.1 key < 0) = true := by rw [cmp_neg]; exact plR_in hlt hp
      have hsz := (HSZ.out.1 p (List.mem_of_getElem? hp)).1
      have HCMP := hid_ hcmp
      clear hp hcmp c1
      go_wp2_with fail
      refine (compare_ok p.1 key _ hsz.le HSZ.out.2.le).mono ?_
      rintro e w1 ⟨rfl, q, rfl⟩
      have hcmp := HCMP.out
      have FQ := hid_ (F.out.drewN q)
      clear c0
      go_wp2_with fail
      go_roundw
      case rel => exact ⟨k + 1, by omega, by go_num, FQ.out⟩
      case measure => simp [intOf]; omega
    · obtain rfl : k = plR L key := by omega
      by_cases hl : plR L key < L.length
      · obtain ⟨p, hp⟩ : ∃ p, L[plR L key]? = some p := ⟨_, List.getElem?_eq_getElem hl⟩
        obtain ⟨b, off, rfl, hb, c0, c1⟩ := rw_at H.out hp
        have hcmp : decide (cmpI p.1 key < 0) = false := by rw [cmp_neg]; exact plR_at hp
        have hsz := (HSZ.out.1 p (List.mem_of_getElem? hp)).1
        obtain ⟨n, hn⟩ : ∃ n, n = plR L key := ⟨_, rfl⟩
        have hi1 : (n : Int) < (L.length : Int) := by omega
        have hd1 : decide ((n : Int) < (L.length : Int)) = true := by simp; omega
        rw [← hn] at c0 c1 hi0
        rw [← hn]
        have HCMP := hid_ hcmp
        have HN := hid_ hn
        clear hp hcmp c1 hl hlt hn hk hle
        go_wp2_with fail
        refine (compare_ok p.1 key _ hsz.le HSZ.out.2.le).mono ?_
        rintro e w1 ⟨rfl, q, rfl⟩
        have hcmp := HCMP.out
        have FQ := hid_ (F.out.drewN q)
        go_wp2_with fail
        go_ret
        exact ⟨by rw [← HN.out]; rfl, FQ.out⟩
      · have he : plR L key = L.length := by omega
        have HE := hid_ he
        have hd1 : decide ((L.length : Int) < (L.length : Int)) = false := by simp
        rw [he]
        clear he hl hlt hk hle
        go_wp2_with fail
        go_ret
        exact ⟨by rw [HE.out]; rfl, F.out⟩
set_option maxHeartbeats 4000000 in
theorem findR_ok (L : List Rw) (A : Option Addr) (c : Nat) (key : ByteArray) (w : World) (h : Reads w 2 A L.length (rwFlat L)) (ho : RwsOk L) (hk : SzOk key) :
    Calls Try.prog 118 #[.slice A L.length c, .string key] w fun e w' => e = .returned (.tuple #[.int .i64 (plR L key : Nat), .bool (atR L key)]) ∧ Fr none_ w w' := by
  have H0 := hid_ h
  have HO := hid_ ho
  have HK := hid_ hk
  have hle := plR_le L key
  have h1000 := ho.1
  clear h ho hk
  go_enter Try.func118, Try.ntmps118
  go_wp2_with fail
  refine (placeR_ok L A c key _ H0.out HO.out HK.out).mono ?_
  rintro e w1 ⟨rfl, hf⟩
  have H := hid_ (H0.out.none_fr hf)
  have F := hid_ hf
  clear hf
  obtain ⟨n, hn⟩ : ∃ n, n = plR L key := ⟨_, rfl⟩
  rw [← hn]
  rw [← hn] at hle
  have HN := hid_ hn
  have hi0 : (0 : Int) ≤ (n : Int) := Int.natCast_nonneg _
  by_cases hl : n < L.length
  · obtain ⟨p, hp⟩ : ∃ p, L[n]? = some p := ⟨_, List.getElem?_eq_getElem hl⟩
    obtain ⟨b, off, rfl, hb, c0, c1⟩ := rw_at H.out hp
    have hat : atR L key = sEq p.1 key := atR_some (by rw [← hn]; exact hp)
    have HAT := hid_ hat
    have hi1 : (n : Int) < (L.length : Int) := by omega
    have hd1 : decide ((n : Int) < (L.length : Int)) = true := by simp; omega
    have hd2 : decide (n < L.length) = true := by simp; omega
    clear hp c1 hat hn hl
    go_wp2_with fail
    go_quiet (fail)
    go_wp2_with fail
    go_ret2
    exact ⟨by rw [HAT.out, ← HN.out]; rfl, by repeat (first | exact F.out | apply Fr.drewN | apply Fr.drew)⟩
  · have he : n = L.length := by omega
    have hat : atR L key = false := atR_none (by rw [← hn]; exact he)
    have HAT := hid_ hat
    have hd1 : decide ((n : Int) < (L.length : Int)) = false := by simp; omega
    have hd2 : decide (n < L.length) = false := by simp; omega
    clear hat hn hl he
    go_wp2_with fail
    go_quiet (fail)
    go_wp2_with fail
    go_ret2
    exact ⟨by rw [HAT.out, ← HN.out]; rfl, by repeat (first | exact F.out | apply Fr.drewN | apply Fr.drew)⟩
theorem copyR_ok (L : List Rw) (A : Option Addr) (c : Nat) (w : World) (h : Reads w 2 A L.length (rwFlat L)) (hl : L.length ≤ 300000) :
    Calls Try.prog 84 #[.slice A L.length c] w (JoinPostR w L) := by
  have H := hid_ h
  clear h
  go_enter Try.func84, Try.ntmps84
  go_wp2_with fail
  have hB := Blk.new w 36 #[.slice A L.length c]
  refine (list_ok w.heap.size [(A, c, L)] _ ?_ ?_ ?_ ?_).mono ?_
  · intro i x hx
    match i, hx with
    | 0, hx => cases hx; rw [hB.cell]; rfl
    | k + 1, hx => simp at hx
  · intro x hx
    obtain rfl : x = (A, c, L) := by simpa using hx
    exact H.out.alloc _
  · simp [ptRL]; omega
  · simp
  rintro e w1 ⟨A', c', rfl, ho, hf⟩
  rw [show ptRL [(A, c, L)] = L by simp [ptRL]] at ho ⊢
  have O := hid_ ho
  have F := hid_ hf
  clear ho hf hB
  go_wp2
  go_ret
  exact ⟨A', c', rfl, own_base O.out (by simp), (((Fr.refl none_ w).alloc _).then_none F.out)⟩
end Go.Proofs.Ytpjbncbmdfmlpaa

/- bkey's Common, Compare and In by contracts: the order of texts as lists of bytes. -/
import Derived.Test.YtpjbncbmdfmlpaaErr
import Derived.IntWalk
namespace Go.Proofs.Ytpjbncbmdfmlpaa
open Go.RowKit
set_option maxRecDepth 100000
set_option linter.unusedVariables false

/-- Is one list of bytes ahead of another one? -/
def ltL : List UInt8 → List UInt8 → Bool
  | [], [] => false
  | [], _ :: _ => true
  | _ :: _, [] => false
  | a :: x, b :: y => decide (a.toNat < b.toNat) || (decide (a.toNat = b.toNat) && ltL x y)
theorem u8_eq {a b : UInt8} (h : a.toNat = b.toNat) : a = b := UInt8.toNat_inj.1 h
theorem ltL_cons {a b : UInt8} {x y : List UInt8} : ltL (a :: x) (b :: y) = true ↔ a.toNat < b.toNat ∨ a.toNat = b.toNat ∧ ltL x y = true := by
  simp [ltL]
theorem ltL_irrefl : ∀ x : List UInt8, ltL x x = false
  | [] => rfl
  | a :: x => by simp [ltL, ltL_irrefl x]
theorem ltL_trans : ∀ {x y z : List UInt8}, ltL x y = true → ltL y z = true → ltL x z = true
  | [], [], _, h, _ => by simp [ltL] at h
  | [], _ :: _, [], _, h => by simp [ltL] at h
  | [], _ :: _, _ :: _, _, _ => rfl
  | _ :: _, [], _, h, _ => by simp [ltL] at h
  | _ :: _, _ :: _, [], _, h => by simp [ltL] at h
  | a :: x, b :: y, c :: z, h, k => by
    rw [ltL_cons] at h k ⊢
    rcases h with h | ⟨h, h'⟩ <;> rcases k with k | ⟨k, k'⟩
    · left; omega
    · left; omega
    · left; omega
    · right; exact ⟨by omega, ltL_trans h' k'⟩
theorem ltL_total : ∀ (x y : List UInt8), ltL x y = true ∨ x = y ∨ ltL y x = true
  | [], [] => .inr (.inl rfl)
  | [], _ :: _ => .inl rfl
  | _ :: _, [] => .inr (.inr rfl)
  | a :: x, b :: y => by
    rw [ltL_cons, ltL_cons]
    rcases Nat.lt_trichotomy a.toNat b.toNat with h | h | h
    · exact .inl (.inl h)
    · rcases ltL_total x y with k | rfl | k
      · exact .inl (.inr ⟨h, k⟩)
      · exact .inr (.inl (by rw [u8_eq h]))
      · exact .inr (.inr (.inr ⟨h.symm, k⟩))
    · exact .inr (.inr (.inl h))
/-- How many bytes two lists begin with alike. -/
def cpL : List UInt8 → List UInt8 → Nat
  | a :: x, b :: y => if a = b then cpL x y + 1 else 0
  | _, _ => 0
theorem cpL_le : ∀ (x y : List UInt8), cpL x y ≤ x.length ∧ cpL x y ≤ y.length
  | [], _ => ⟨Nat.le_refl _, Nat.zero_le _⟩
  | _ :: _, [] => ⟨Nat.zero_le _, Nat.le_refl _⟩
  | a :: x, b :: y => by
    have := cpL_le x y
    rw [cpL]
    split <;> simp <;> omega
theorem cpL_in : ∀ {x y : List UInt8} {i : Nat}, i < cpL x y → x[i]? = y[i]?
  | [], _, i, h => by simp [cpL] at h
  | _ :: _, [], i, h => by simp [cpL] at h
  | a :: x, b :: y, i, h => by
    rw [cpL] at h
    split at h
    · rename_i e
      cases i with
      | zero => simp [e]
      | succ i => simpa using cpL_in (x := x) (y := y) (i := i) (by omega)
    · omega
theorem cpL_stop : ∀ {x y : List UInt8} {a b : UInt8}, x[cpL x y]? = some a → y[cpL x y]? = some b → a ≠ b
  | [], _, a, b, h, _ => by simp at h
  | _ :: _, [], a, b, _, h => by simp at h
  | c :: x, d :: y, a, b, h, k => by
    rw [cpL] at h k
    split at h
    · rename_i e
      rw [if_pos e] at k
      exact cpL_stop (x := x) (y := y) (by simpa using h) (by simpa using k)
    · rename_i e
      rw [if_neg e] at k
      have h1 : c = a := by simpa using h
      have h2 : d = b := by simpa using k
      rw [← h1, ← h2]; exact e
/-- A number that is as far as two lists are alike, and no farther, is that. -/
theorem cpL_is : ∀ {x y : List UInt8} {n : Nat}, (∀ i, i < n → x[i]? = y[i]?) → n ≤ x.length → n ≤ y.length → (n = x.length ∨ n = y.length ∨ ∃ a b, x[n]? = some a ∧ y[n]? = some b ∧ a ≠ b) → cpL x y = n
  | [], y, n, _, h1, _, _ => by
    obtain rfl : n = 0 := by simpa using h1
    simp [cpL]
  | _ :: _, [], n, _, _, h2, _ => by
    obtain rfl : n = 0 := by simpa using h2
    simp [cpL]
  | c :: x, d :: y, 0, _, _, _, h => by
    rcases h with h | h | ⟨a, b, h1, h2, h3⟩
    · simp at h
    · simp at h
    · have e1 : c = a := by simpa using h1
      have e2 : d = b := by simpa using h2
      rw [cpL, if_neg (by rw [e1, e2]; exact h3)]
  | c :: x, d :: y, n + 1, hi, h1, h2, h => by
    have e0 : c = d := by simpa using hi 0 (by omega)
    rw [cpL, if_pos e0]
    congr 1
    refine cpL_is (fun i hn => by simpa using hi (i + 1) (by omega)) (by simpa using h1) (by simpa using h2) ?_
    rcases h with h | h | ⟨a, b, h1, h2, h3⟩
    · exact .inl (by simpa using h)
    · exact .inr (.inl (by simpa using h))
    · exact .inr (.inr ⟨a, b, by simpa using h1, by simpa using h2, h3⟩)
theorem lt_of_end : ∀ {x y : List UInt8}, cpL x y = x.length → x.length < y.length → ltL x y = true
  | [], [], _, h => by simp at h
  | [], _ :: _, _, _ => rfl
  | _ :: _, [], _, h => by simp at h
  | a :: x, b :: y, h, hl => by
    rw [cpL] at h
    split at h
    · rename_i e
      rw [ltL_cons]
      right
      exact ⟨by rw [e], lt_of_end (by simpa using h) (by simpa using hl)⟩
    · simp at h
theorem cp_comm : ∀ x y : List UInt8, cpL x y = cpL y x
  | [], [] => rfl
  | [], _ :: _ => rfl
  | _ :: _, [] => rfl
  | a :: x, b :: y => by
    rw [cpL, cpL]
    by_cases h : a = b
    · rw [if_pos h, if_pos h.symm, cp_comm x y]
    · rw [if_neg h, if_neg (fun e => h e.symm)]
theorem lt_of_stop : ∀ {x y : List UInt8} {a b : UInt8}, x[cpL x y]? = some a → y[cpL x y]? = some b → a.toNat < b.toNat → ltL x y = true
  | [], _, a, b, h, _, _ => by simp at h
  | _ :: _, [], a, b, _, h, _ => by simp at h
  | c :: x, d :: y, a, b, h, k, l => by
    rw [ltL_cons]
    rw [cpL] at h k
    split at h
    · rename_i e
      rw [if_pos e] at k
      exact .inr ⟨by rw [e], lt_of_stop (by simpa using h) (by simpa using k) l⟩
    · rename_i e
      rw [if_neg e] at k
      have h1 : c = a := by simpa using h
      have h2 : d = b := by simpa using k
      rw [h1, h2]; exact .inl l
theorem eq_of_cp {x y : List UInt8} (h1 : cpL x y = x.length) (h2 : cpL x y = y.length) : x = y := by
  apply List.ext_getElem?
  intro i
  rcases Nat.lt_or_ge i (cpL x y) with h | h
  · exact cpL_in h
  · rw [List.getElem?_eq_none (by omega), List.getElem?_eq_none (by omega)]

def ltS (a b : ByteArray) : Bool := ltL a.data.toList b.data.toList
theorem ba_eq {a b : ByteArray} (h : a.data.toList = b.data.toList) : a = b := by
  cases a; cases b
  congr
  exact Array.toList_inj.1 h
theorem ltS_irrefl (a : ByteArray) : ltS a a = false := ltL_irrefl _
theorem ltS_trans {a b c : ByteArray} (h : ltS a b = true) (k : ltS b c = true) : ltS a c = true := ltL_trans h k
theorem ltS_total (a b : ByteArray) : ltS a b = true ∨ a = b ∨ ltS b a = true := by
  rcases ltL_total a.data.toList b.data.toList with h | h | h
  · exact .inl h
  · exact .inr (.inl (ba_eq h))
  · exact .inr (.inr h)
theorem ltS_asymm {a b : ByteArray} (h : ltS a b = true) : ltS b a = false := by
  cases h' : ltS b a with
  | false => rfl
  | true => have := ltS_trans h h'; rw [ltS_irrefl] at this; cases this
theorem ltS_ne {a b : ByteArray} (h : ltS a b = true) : a ≠ b := by rintro rfl; rw [ltS_irrefl] at h; cases h
theorem ba_toList (a : ByteArray) : a.toList = a.data.toList := ByteArray.toList_eq a
/-- Are two texts the same? As the walk spells it. -/
def sEq (a b : ByteArray) : Bool := a.toList == b.toList
theorem sEq_iff {a b : ByteArray} : sEq a b = true ↔ a = b := by
  unfold sEq
  rw [beq_iff_eq, ba_toList, ba_toList]
  exact ⟨ba_eq, fun h => by rw [h]⟩
theorem sEq_self (a : ByteArray) : sEq a a = true := sEq_iff.2 rfl
theorem sEq_ne {a b : ByteArray} (h : a ≠ b) : sEq a b = false := by
  cases e : sEq a b with
  | false => rfl
  | true => exact absurd (sEq_iff.1 e) h
def cmpI (a b : ByteArray) : Int := if ltS a b = true then -1 else if a = b then 0 else 1
theorem cmp_lt {a b : ByteArray} (h : ltS a b = true) : cmpI a b = -1 := if_pos h
theorem cmp_eq (a : ByteArray) : cmpI a a = 0 := by rw [cmpI, if_neg (by rw [ltS_irrefl]; decide), if_pos rfl]
theorem cmp_gt {a b : ByteArray} (h : ltS b a = true) : cmpI a b = 1 := by rw [cmpI, if_neg (by rw [ltS_asymm h]; decide), if_neg (fun e => ltS_ne h e.symm)]
theorem cmp_neg (a b : ByteArray) : decide (cmpI a b < 0) = ltS a b := by
  rcases ltS_total a b with h | rfl | h
  · rw [cmp_lt h, h]; rfl
  · rw [cmp_eq, ltS_irrefl]; rfl
  · rw [cmp_gt h, ltS_asymm h]; rfl
theorem cmp_le (a b : ByteArray) : decide (cmpI a b ≤ 0) = !ltS b a := by
  rcases ltS_total a b with h | rfl | h
  · rw [cmp_lt h, ltS_asymm h]; rfl
  · rw [cmp_eq, ltS_irrefl]; rfl
  · rw [cmp_gt h, h]; rfl
theorem cmp_ge (a b : ByteArray) : decide (0 ≤ cmpI a b) = !ltS a b := by
  rcases ltS_total a b with h | rfl | h
  · rw [cmp_lt h, h]; rfl
  · rw [cmp_eq, ltS_irrefl]; rfl
  · rw [cmp_gt h, ltS_asymm h]; rfl
def inS (low high : ByteArray) (unb : Bool) (key : ByteArray) : Bool := !ltS key low && (unb || ltS key high)

theorem ba_len (a : ByteArray) : a.data.toList.length = a.size := by simp
theorem ba_get {a : ByteArray} {i : Nat} (h : i < a.size) : a.data.toList[i]? = some a[i] := by
  rw [List.getElem?_eq_getElem (by rw [ba_len]; exact h)]
  rfl

theorem drewN_drewN (w : World) (a b : Nat) : (w.drewN a).drewN b = w.drewN (a + b) := by
  simp [World.drewN, Nat.add_assoc]
set_option maxHeartbeats 2000000 in
theorem common_ok (a b : ByteArray) (w : World) (ha : a.size ≤ 9000000000000000000) (hb : b.size ≤ 9000000000000000000) :
    Calls Try.prog 103 #[.string a, .string b] w fun e w' => e = .returned (.int .i64 (cpL a.data.toList b.data.toList : Nat)) ∧ ∃ n, w' = w.drewN n := by
  by_cases hmin : b.size < a.size
  · go_enter Try.func103, Try.ntmps103
    go_wp2
    go_loopw [5, 11] (fun n i wr => ∃ k : Nat, k ≤ b.size ∧ n = .int .i64 k ∧ i = .int .i64 k ∧ (∀ j, j < k → a.data.toList[j]? = b.data.toList[j]?) ∧ ∃ q, wr = w.drewN q) (fun _ i _ => b.size - (intOf i).toNat)
    case atStart => exact ⟨0, Nat.zero_le _, rfl, rfl, fun j hj => by omega, 0, rfl⟩
    case round =>
      obtain ⟨k, hk, rfl, rfl, hall, q, rfl⟩ := hrel
      have HA := hid_ hall
      clear hall
      by_cases hlt : k < b.size
      · have hka : k < a.size := by omega
        have hkb : k < b.size := by omega
        have hi0 : (0 : Int) ≤ (k : Int) := Int.natCast_nonneg _
        have hia : (k : Int) < (a.size : Int) := by omega
        have hib : (k : Int) < (b.size : Int) := by omega
        by_cases he : a[k] = b[k]
        · have hne : ((a[k].toNat : Int) != (b[k].toNat : Int)) = false := by rw [he]; simp
          have HS : Hid (∀ j, j < k + 1 → a.data.toList[j]? = b.data.toList[j]?) := hid_ (fun j hj => by
            rcases Nat.lt_succ_iff_lt_or_eq.1 hj with h | rfl
            · exact HA.out j h
            · rw [ba_get hka, ba_get hkb, he])
          clear he
          go_wp2_with fail
          go_quiet (fail)
          go_wp2_with fail
          go_roundw
          case rel => exact ⟨k + 1, by omega, by go_num, by go_num, HS.out, _, rfl⟩
          case measure => simp [intOf]; omega
        · have hne : ((a[k].toNat : Int) != (b[k].toNat : Int)) = true := by
            rw [bne_iff_ne]
            intro e
            exact he (u8_eq (by omega))
          have HE : Hid (cpL a.data.toList b.data.toList = k) := hid_ (cpL_is HA.out (by rw [ba_len]; omega) (by rw [ba_len]; omega) (.inr (.inr ⟨a[k], b[k], ba_get hka, ba_get hkb, he⟩)))
          clear he
          go_wp2_with fail
          go_quiet (fail)
          go_wp2_with fail
          go_ret
          refine ⟨by rw [HE.out]; rfl, ?_⟩
          first | exact ⟨_, rfl⟩ | exact ⟨_, drewN_drewN _ _ _⟩
      · obtain rfl : k = b.size := by omega
        have HE : Hid (cpL a.data.toList b.data.toList = b.size) := hid_ (cpL_is HA.out (by rw [ba_len]; omega) (by rw [ba_len]; omega) (by rw [ba_len, ba_len]; omega))
        go_wp2_with fail
        go_ret
        refine ⟨by rw [HE.out]; rfl, ?_⟩
        first | exact ⟨_, rfl⟩ | exact ⟨_, drewN_drewN _ _ _⟩
  · go_enter Try.func103, Try.ntmps103
    go_wp2
    go_loopw [5, 11] (fun n i wr => ∃ k : Nat, k ≤ a.size ∧ n = .int .i64 k ∧ i = .int .i64 k ∧ (∀ j, j < k → a.data.toList[j]? = b.data.toList[j]?) ∧ ∃ q, wr = w.drewN q) (fun _ i _ => a.size - (intOf i).toNat)
    case atStart => exact ⟨0, Nat.zero_le _, rfl, rfl, fun j hj => by omega, 0, rfl⟩
    case round =>
      obtain ⟨k, hk, rfl, rfl, hall, q, rfl⟩ := hrel
      have HA := hid_ hall
      clear hall
      by_cases hlt : k < a.size
      · have hka : k < a.size := by omega
        have hkb : k < b.size := by omega
        have hi0 : (0 : Int) ≤ (k : Int) := Int.natCast_nonneg _
        have hia : (k : Int) < (a.size : Int) := by omega
        have hib : (k : Int) < (b.size : Int) := by omega
        by_cases he : a[k] = b[k]
        · have hne : ((a[k].toNat : Int) != (b[k].toNat : Int)) = false := by rw [he]; simp
          have HS : Hid (∀ j, j < k + 1 → a.data.toList[j]? = b.data.toList[j]?) := hid_ (fun j hj => by
            rcases Nat.lt_succ_iff_lt_or_eq.1 hj with h | rfl
            · exact HA.out j h
            · rw [ba_get hka, ba_get hkb, he])
          clear he
          go_wp2_with fail
          go_quiet (fail)
          go_wp2_with fail
          go_roundw
          case rel => exact ⟨k + 1, by omega, by go_num, by go_num, HS.out, _, rfl⟩
          case measure => simp [intOf]; omega
        · have hne : ((a[k].toNat : Int) != (b[k].toNat : Int)) = true := by
            rw [bne_iff_ne]
            intro e
            exact he (u8_eq (by omega))
          have HE : Hid (cpL a.data.toList b.data.toList = k) := hid_ (cpL_is HA.out (by rw [ba_len]; omega) (by rw [ba_len]; omega) (.inr (.inr ⟨a[k], b[k], ba_get hka, ba_get hkb, he⟩)))
          clear he
          go_wp2_with fail
          go_quiet (fail)
          go_wp2_with fail
          go_ret
          refine ⟨by rw [HE.out]; rfl, ?_⟩
          first | exact ⟨_, rfl⟩ | exact ⟨_, drewN_drewN _ _ _⟩
      · obtain rfl : k = a.size := by omega
        have HE : Hid (cpL a.data.toList b.data.toList = a.size) := hid_ (cpL_is HA.out (by rw [ba_len]; omega) (by rw [ba_len]; omega) (by rw [ba_len, ba_len]; omega))
        go_wp2_with fail
        go_ret
        refine ⟨by rw [HE.out]; rfl, ?_⟩
        first | exact ⟨_, rfl⟩ | exact ⟨_, drewN_drewN _ _ _⟩

set_option maxHeartbeats 2000000 in
theorem compare_ok (a b : ByteArray) (w : World) (ha : a.size ≤ 9000000000000000000) (hb : b.size ≤ 9000000000000000000) :
    Calls Try.prog 72 #[.string a, .string b] w fun e w' => e = .returned (.int .i64 (cmpI a b)) ∧ ∃ n, w' = w.drewN n := by
  obtain ⟨n, hn⟩ : ∃ n, n = cpL a.data.toList b.data.toList := ⟨_, rfl⟩
  have hle := cpL_le a.data.toList b.data.toList
  rw [ba_len, ba_len, ← hn] at hle
  obtain ⟨hla, hlb⟩ := hle
  have HN := hid_ hn
  clear hn
  by_cases h1 : n = a.size
  · have hA : ((n : Int) == (a.size : Int)) = true := beq_iff_eq.2 (by omega)
    by_cases h2 : n = b.size
    · have hB : ((n : Int) == (b.size : Int)) = true := beq_iff_eq.2 (by omega)
      have he : a = b := ba_eq (eq_of_cp (by rw [ba_len, ← HN.out, h1]) (by rw [ba_len, ← HN.out, h2]))
      have HE : Hid (cmpI a b = 0) := hid_ (by rw [he]; exact cmp_eq b)
      clear h1 h2 he
      go_enter Try.func72, Try.ntmps72
      go_wp2_with fail
      refine (common_ok a b w ha hb).mono ?_
      rintro e w1 ⟨rfl, q, rfl⟩
      rw [← HN.out]
      go_wp2_with fail
      go_ret
      refine ⟨by rw [HE.out]; rfl, ?_⟩
      first | exact ⟨_, rfl⟩ | exact ⟨_, drewN_drewN _ _ _⟩
    · have hB : ((n : Int) == (b.size : Int)) = false := beq_eq_false_iff_ne.2 (by omega)
      have HE : Hid (cmpI a b = -1) := hid_ (cmp_lt (lt_of_end (by rw [ba_len, ← HN.out, h1]) (by rw [ba_len, ba_len]; omega)))
      clear h1 h2
      go_enter Try.func72, Try.ntmps72
      go_wp2_with fail
      refine (common_ok a b w ha hb).mono ?_
      rintro e w1 ⟨rfl, q, rfl⟩
      rw [← HN.out]
      go_wp2_with fail
      go_ret
      refine ⟨by rw [HE.out]; rfl, ?_⟩
      first | exact ⟨_, rfl⟩ | exact ⟨_, drewN_drewN _ _ _⟩
  · have hA : ((n : Int) == (a.size : Int)) = false := beq_eq_false_iff_ne.2 (by omega)
    by_cases h2 : n = b.size
    · have hB : ((n : Int) == (b.size : Int)) = true := beq_iff_eq.2 (by omega)
      have HE : Hid (cmpI a b = 1) := hid_ (cmp_gt (lt_of_end (by rw [cp_comm, ba_len, ← HN.out, h2]) (by rw [ba_len, ba_len]; omega)))
      clear h1 h2
      go_enter Try.func72, Try.ntmps72
      go_wp2_with fail
      refine (common_ok a b w ha hb).mono ?_
      rintro e w1 ⟨rfl, q, rfl⟩
      rw [← HN.out]
      go_wp2_with fail
      go_ret
      refine ⟨by rw [HE.out]; rfl, ?_⟩
      first | exact ⟨_, rfl⟩ | exact ⟨_, drewN_drewN _ _ _⟩
    · have hB : ((n : Int) == (b.size : Int)) = false := beq_eq_false_iff_ne.2 (by omega)
      have hka : n < a.size := by omega
      have hkb : n < b.size := by omega
      have hi0 : (0 : Int) ≤ (n : Int) := Int.natCast_nonneg _
      have hia : (n : Int) < (a.size : Int) := by omega
      have hib : (n : Int) < (b.size : Int) := by omega
      have ga : a.data.toList[cpL a.data.toList b.data.toList]? = some a[n] := by rw [← HN.out]; exact ba_get hka
      have gb : b.data.toList[cpL a.data.toList b.data.toList]? = some b[n] := by rw [← HN.out]; exact ba_get hkb
      have hst := cpL_stop ga gb
      by_cases h3 : a[n].toNat < b[n].toNat
      · have hC : decide (a[n].toNat < b[n].toNat) = true := decide_eq_true h3
        have HE : Hid (cmpI a b = -1) := hid_ (cmp_lt (lt_of_stop ga gb h3))
        clear h1 h2 h3 ga gb hst
        go_enter Try.func72, Try.ntmps72
        go_wp2_with fail
        refine (common_ok a b w ha hb).mono ?_
        rintro e w1 ⟨rfl, q, rfl⟩
        rw [← HN.out]
        go_wp2_with fail
        go_quiet (fail)
        go_wp2_with fail
        go_ret
        refine ⟨by rw [HE.out]; rfl, ?_⟩
        first | exact ⟨_, rfl⟩ | exact ⟨_, drewN_drewN _ _ _⟩
      · have hC : decide (a[n].toNat < b[n].toNat) = false := decide_eq_false h3
        have hgt : b[n].toNat < a[n].toNat := by
          rcases Nat.lt_trichotomy a[n].toNat b[n].toNat with h | h | h
          · exact absurd h h3
          · exact absurd (u8_eq h) hst
          · exact h
        rw [cp_comm] at ga gb
        have HE : Hid (cmpI a b = 1) := hid_ (cmp_gt (lt_of_stop gb ga hgt))
        clear h1 h2 h3 ga gb hst hgt
        go_enter Try.func72, Try.ntmps72
        go_wp2_with fail
        refine (common_ok a b w ha hb).mono ?_
        rintro e w1 ⟨rfl, q, rfl⟩
        rw [← HN.out]
        go_wp2_with fail
        go_quiet (fail)
        go_wp2_with fail
        go_ret
        refine ⟨by rw [HE.out]; rfl, ?_⟩
        first | exact ⟨_, rfl⟩ | exact ⟨_, drewN_drewN _ _ _⟩

set_option maxHeartbeats 2000000 in
theorem in_ok (low high : ByteArray) (unb : Bool) (key : ByteArray) (w : World) (h1 : low.size ≤ 9000000000000000000) (h2 : high.size ≤ 9000000000000000000) (h3 : key.size ≤ 9000000000000000000) :
    Calls Try.prog 69 #[.string low, .string high, .bool unb, .string key] w fun e w' => e = .returned (.bool (inS low high unb key)) ∧ ∃ n, w' = w.drewN n := by
  have ca := cmp_le low key
  have cb := cmp_neg key high
  cases ha : ltS key low with
  | true =>
    have hr : Hid (inS low high unb key = false) := hid_ (by simp [inS, ha])
    rw [ha] at ca
    have ca' : decide (cmpI low key ≤ 0) = false := ca
    clear ca cb ha
    go_enter Try.func69, Try.ntmps69
    go_wp2_with fail
    refine (compare_ok low key w h1 h3).mono ?_
    rintro e w1 ⟨rfl, q, rfl⟩
    go_wp2_with fail
    go_ret
    refine ⟨by rw [hr.out]; rfl, ?_⟩
    first | exact ⟨_, rfl⟩ | exact ⟨_, drewN_drewN _ _ _⟩
  | false =>
    rw [ha] at ca
    have ca' : decide (cmpI low key ≤ 0) = true := ca
    cases unb with
    | true =>
      have hr : Hid (inS low high true key = true) := hid_ (by simp [inS, ha])
      clear ca cb ha
      go_enter Try.func69, Try.ntmps69
      go_wp2_with fail
      refine (compare_ok low key w h1 h3).mono ?_
      rintro e w1 ⟨rfl, q, rfl⟩
      go_wp2_with fail
      go_ret
      refine ⟨by rw [hr.out]; rfl, ?_⟩
      first | exact ⟨_, rfl⟩ | exact ⟨_, drewN_drewN _ _ _⟩
    | false =>
      have hr : Hid (inS low high false key = ltS key high) := hid_ (by simp [inS, ha])
      have CB := hid_ cb
      clear ca cb ha
      go_enter Try.func69, Try.ntmps69
      go_wp2_with fail
      refine (compare_ok low key w h1 h3).mono ?_
      rintro e w1 ⟨rfl, q, rfl⟩
      go_wp2_with fail
      refine (compare_ok key high _ h3 h2).mono ?_
      rintro e w1 ⟨rfl, q2, rfl⟩
      go_wp2_with fail
      go_ret
      refine ⟨by rw [hr.out, ← CB.out]; rfl, ?_⟩
      first | exact ⟨_, rfl⟩ | exact ⟨_, drewN_drewN _ _ _⟩
end Go.Proofs.Ytpjbncbmdfmlpaa

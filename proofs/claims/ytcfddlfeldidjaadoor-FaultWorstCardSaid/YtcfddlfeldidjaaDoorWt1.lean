/- Weights and texts of codes; awake. Written by gen_wt1.py. -/
import Derived.Test.YtcfddlfeldidjaaDoorFlt1
namespace Go.Proofs.YtcfddlfeldidjaaDoor
open Go.RowKit
set_option maxRecDepth 100000
set_option linter.unusedVariables false

def wtM (k : Int) : Int := if k = 1 then 1 else if k = 2 then 1 else if k = 3 then 4 else if k = 4 then 5 else if k = 5 then 4 else if k = 6 then 2 else if k = 7 then 2 else if k = 8 then 1 else if k = 9 then 5 else if k = 10 then 5 else if k = 11 then 3 else if k = 12 then 3 else if k = 13 then 3 else if k = 14 then 1 else if k = 15 then 2 else if k = 16 then 4 else 0
def txM (k : Int) : ByteArray := if k = 1 then ⟨#[97, 114, 103]⟩ else if k = 2 then ⟨#[114, 97, 110, 103, 101]⟩ else if k = 3 then ⟨#[102, 117, 108, 108]⟩ else if k = 4 then ⟨#[115, 116, 97, 108, 101]⟩ else if k = 5 then ⟨#[101, 120, 104, 97, 117, 115, 116, 101, 100]⟩ else if k = 6 then ⟨#[110, 111, 110, 101]⟩ else if k = 7 then ⟨#[116, 104, 101, 114, 101]⟩ else if k = 8 then ⟨#[108, 111, 110, 103]⟩ else if k = 9 then ⟨#[107, 105, 110, 100]⟩ else if k = 10 then ⟨#[99, 104, 97, 105, 110]⟩ else if k = 11 then ⟨#[98, 117, 115, 121]⟩ else if k = 12 then ⟨#[99, 111, 110, 102, 108, 105, 99, 116]⟩ else if k = 13 then ⟨#[115, 116, 97, 116, 101]⟩ else if k = 14 then ⟨#[108, 105, 110, 101]⟩ else if k = 15 then ⟨#[114, 101, 97, 100, 111, 110, 108, 121]⟩ else if k = 16 then ⟨#[115, 116, 101, 112]⟩ else ⟨#[101, 114, 114, 111, 114]⟩
theorem wt_hi {k : Int} (h : ¬ (1 ≤ k ∧ k ≤ 16)) : wtM k = 0 := by
  unfold wtM
  repeat rw [if_neg (by omega)]
theorem tx_hi {k : Int} (h : ¬ (1 ≤ k ∧ k ≤ 16)) : txM k = ⟨#[101, 114, 114, 111, 114]⟩ := by
  unfold txM
  repeat rw [if_neg (by omega)]
theorem codes {k : Int} (h : 1 ≤ k ∧ k ≤ 16) : k = 1 ∨ k = 2 ∨ k = 3 ∨ k = 4 ∨ k = 5 ∨ k = 6 ∨ k = 7 ∨ k = 8 ∨ k = 9 ∨ k = 10 ∨ k = 11 ∨ k = 12 ∨ k = 13 ∨ k = 14 ∨ k = 15 ∨ k = 16 := by omega
set_option maxHeartbeats 8000000 in
theorem weight_ok (k : Int) (w : World) : Calls Tryd.prog 7 #[.int .i64 k] w fun e w' => e = .returned (.int .i64 (wtM k)) ∧ Fr none_ w w' := by
  by_cases h : 1 ≤ k ∧ k ≤ 16
  · rcases codes h with rfl | rfl | rfl | rfl | rfl | rfl | rfl | rfl | rfl | rfl | rfl | rfl | rfl | rfl | rfl | rfl
    all_goals
      clear h
      go_enter Tryd.func7, Tryd.ntmps7
      go_wp2
      go_ret
      exact ⟨rfl, by repeat (first | exact Fr.refl _ _ | apply Fr.drew | apply Fr.alloc)⟩
  · rw [wt_hi h]
    have h0 := hid_ h
    have n1 : (k == 1) = false := by simp; omega
    have n2 : (k == 2) = false := by simp; omega
    have n3 : (k == 3) = false := by simp; omega
    have n4 : (k == 4) = false := by simp; omega
    have n5 : (k == 5) = false := by simp; omega
    have n6 : (k == 6) = false := by simp; omega
    have n7 : (k == 7) = false := by simp; omega
    have n8 : (k == 8) = false := by simp; omega
    have n9 : (k == 9) = false := by simp; omega
    have n10 : (k == 10) = false := by simp; omega
    have n11 : (k == 11) = false := by simp; omega
    have n12 : (k == 12) = false := by simp; omega
    have n13 : (k == 13) = false := by simp; omega
    have n14 : (k == 14) = false := by simp; omega
    have n15 : (k == 15) = false := by simp; omega
    have n16 : (k == 16) = false := by simp; omega
    clear h h0
    go_enter Tryd.func7, Tryd.ntmps7
    go_wp2
    go_ret
    exact ⟨rfl, Fr.refl _ _⟩
set_option maxHeartbeats 8000000 in
theorem error_ok (k : Int) (w : World) : Calls Tryd.prog 9 #[.int .i64 k] w fun e w' => e = .returned (.string (txM k)) ∧ Fr none_ w w' := by
  by_cases h : 1 ≤ k ∧ k ≤ 16
  · rcases codes h with rfl | rfl | rfl | rfl | rfl | rfl | rfl | rfl | rfl | rfl | rfl | rfl | rfl | rfl | rfl | rfl
    all_goals
      clear h
      go_enter Tryd.func9, Tryd.ntmps9
      go_wp2
      go_ret
      exact ⟨rfl, by repeat (first | exact Fr.refl _ _ | apply Fr.drew | apply Fr.alloc)⟩
  · rw [tx_hi h]
    have h0 := hid_ h
    have n1 : (k == 1) = false := by simp; omega
    have n2 : (k == 2) = false := by simp; omega
    have n3 : (k == 3) = false := by simp; omega
    have n4 : (k == 4) = false := by simp; omega
    have n5 : (k == 5) = false := by simp; omega
    have n6 : (k == 6) = false := by simp; omega
    have n7 : (k == 7) = false := by simp; omega
    have n8 : (k == 8) = false := by simp; omega
    have n9 : (k == 9) = false := by simp; omega
    have n10 : (k == 10) = false := by simp; omega
    have n11 : (k == 11) = false := by simp; omega
    have n12 : (k == 12) = false := by simp; omega
    have n13 : (k == 13) = false := by simp; omega
    have n14 : (k == 14) = false := by simp; omega
    have n15 : (k == 15) = false := by simp; omega
    have n16 : (k == 16) = false := by simp; omega
    clear h h0
    go_enter Tryd.func9, Tryd.ntmps9
    go_wp2
    go_ret
    exact ⟨rfl, Fr.refl _ _⟩
set_option maxHeartbeats 8000000 in
theorem rweight_ok (k : Int) (w : World) : Calls Tryd.prog 8 #[.int .i64 k] w fun e w' => e = .returned (.int .i64 (wtM k)) ∧ Fr none_ w w' := by
  by_cases h : 1 ≤ k ∧ k ≤ 16
  · rcases codes h with rfl | rfl | rfl | rfl | rfl | rfl | rfl | rfl | rfl | rfl | rfl | rfl | rfl | rfl | rfl | rfl
    all_goals
      clear h
      go_enter Tryd.func8, Tryd.ntmps8
      go_wp2
      go_ret
      exact ⟨rfl, by repeat (first | exact Fr.refl _ _ | apply Fr.drew | apply Fr.alloc)⟩
  · rw [wt_hi h]
    have HH := hid_ h
    by_cases h0 : k < 0
    · clear h HH
      go_enter Tryd.func8, Tryd.ntmps8
      go_wp2
      go_ret
      exact ⟨rfl, by repeat (first | exact Fr.refl _ _ | apply Fr.drew | apply Fr.alloc)⟩
    · by_cases h1 : 16 < k
      · clear h HH
        go_enter Tryd.func8, Tryd.ntmps8
        go_wp2
        go_ret
        exact ⟨rfl, by repeat (first | exact Fr.refl _ _ | apply Fr.drew | apply Fr.alloc)⟩
      · obtain rfl : k = 0 := by omega
        clear h HH h0 h1
        go_enter Tryd.func8, Tryd.ntmps8
        go_wp2
        go_ret
        exact ⟨rfl, by repeat (first | exact Fr.refl _ _ | apply Fr.drew | apply Fr.alloc)⟩
set_option maxHeartbeats 8000000 in
theorem rtext_ok (k : Int) (w : World) : Calls Tryd.prog 10 #[.int .i64 k] w fun e w' => e = .returned (.string (txM k)) ∧ Fr none_ w w' := by
  by_cases h : 1 ≤ k ∧ k ≤ 16
  · rcases codes h with rfl | rfl | rfl | rfl | rfl | rfl | rfl | rfl | rfl | rfl | rfl | rfl | rfl | rfl | rfl | rfl
    all_goals
      clear h
      go_enter Tryd.func10, Tryd.ntmps10
      go_wp2
      go_ret
      exact ⟨rfl, by repeat (first | exact Fr.refl _ _ | apply Fr.drew | apply Fr.alloc)⟩
  · rw [tx_hi h]
    have HH := hid_ h
    by_cases h0 : k < 1
    · clear h HH
      go_enter Tryd.func10, Tryd.ntmps10
      go_wp2
      go_ret
      exact ⟨rfl, by repeat (first | exact Fr.refl _ _ | apply Fr.drew | apply Fr.alloc)⟩
    · have h1 : 16 < k := by omega
      clear h HH
      go_enter Tryd.func10, Tryd.ntmps10
      go_wp2
      go_ret
      exact ⟨rfl, by repeat (first | exact Fr.refl _ _ | apply Fr.drew | apply Fr.alloc)⟩
end Go.Proofs.YtcfddlfeldidjaaDoor

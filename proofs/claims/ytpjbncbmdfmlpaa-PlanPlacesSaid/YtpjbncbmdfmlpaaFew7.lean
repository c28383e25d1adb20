/- rowlocklaw07.Few. Written by gen_few7.py. -/
import Derived.Test.YtpjbncbmdfmlpaaFew8
namespace Go.Proofs.Ytpjbncbmdfmlpaa
open Go.RowKit Go.ChangeShapes Go.WideShapes
set_option maxRecDepth 100000
set_option linter.unusedVariables false

/-- The rows of records, and their values, are texts that may be. -/
def RwIn (L : List Ch) : Prop := ∀ C ∈ L, SzOk C.R.val ∧ ∀ p ∈ C.R.rows, SzOk p.1 ∧ SzOk p.2
def FewOk7 (L : List Ch) : Prop := L.length ≤ 40 ∧ ∀ (k : Nat) (C : Ch), L[k]? = some C → C.R.rows.length ≤ 100
def FewPost7 (L : List Ch) (w : World) (e : Ending) (w' : World) : Prop := ∃ b : Bool, e = .returned (.bool b) ∧ (b = true → FewOk7 L) ∧ Fr none_ w w'
theorem few_step7 {L : List Ch} {k m : Nat} {C : Ch} (h : m ≤ 100 → ∀ (j : Nat) (D : Ch), j < k → L[j]? = some D → D.R.rows.length ≤ 100) (hC : L[k]? = some C) :
    m + C.R.rows.length ≤ 100 → ∀ (j : Nat) (D : Ch), j < k + 1 → L[j]? = some D → D.R.rows.length ≤ 100 := fun hm j D hj hD => by
  rcases Nat.lt_or_ge j k with h1 | h1
  · exact h (by omega) j D h1 hD
  · obtain rfl : j = k := by omega
    rw [hC] at hD
    cases hD
    omega
set_option maxHeartbeats 4000000 in
theorem few7_ok (A : Option Addr) (n cap : Nat) (L : List Ch) (w : World) (h : InReads w A n L) (hw : RwIn L) (hm : n ≤ maxLen) : Calls Try.prog 57 #[.slice A n cap] w (FewPost7 L w) := by
  unfold maxLen at hm
  have HRL : Hid (∀ C ∈ L, C.R.rows.length ≤ 4398046511104) := hid_ (fun C hC => by obtain ⟨k, hk⟩ := List.mem_iff_getElem?.1 hC; obtain ⟨_, _, _, _, _, hO⟩ := h.at_ hk; exact hO.rows)
  have H := hid_ h
  have HW := hid_ hw
  have hln := h.1
  clear h hw
  go_enter Try.func57, Try.ntmps57
  go_wp2_with fail
  go_loopw [3, 4, 5] (fun a y i wr => ∃ (k m : Nat) (x : Int), k ≤ n ∧ k ≤ 41 ∧ i = .int .i64 k ∧ a = .int .i64 m ∧ y = .int .i64 x ∧ m ≤ k * 101 ∧ 0 ≤ x ∧ x ≤ (k : Int) * 700000 ∧ (m ≤ 100 → ∀ (j : Nat) (C : Ch), j < k → L[j]? = some C → C.R.rows.length ≤ 100) ∧ Fr none_ w wr) (fun _ _ i _ => n - (intOf i).toNat)
  case atStart => exact ⟨0, 0, 0, Nat.zero_le _, by omega, rfl, rfl, rfl, by omega, by omega, by omega, fun _ j C hj => by omega, Fr.refl _ _⟩
  case round =>
    obtain ⟨k, m, x, hk, hk41, rfl, rfl, rfl, hm1, hx0, hx1, hall, hfr⟩ := hrel
    have HA := hid_ hall
    have F := hid_ hfr
    clear hall hfr
    by_cases hlt : k < n
    · obtain ⟨C, hC⟩ : ∃ C, L[k]? = some C := ⟨_, List.getElem?_eq_getElem (by omega)⟩
      obtain ⟨b, off, rfl, hb, hR, hO⟩ := (H.out.keep F.out).at_ hC
      have hi0 : (0 : Int) ≤ (k : Int) := Int.natCast_nonneg _
      have hi1 : (k : Int) < (n : Int) := by omega
      by_cases h40 : (k : Int) ≤ 40
      · have HD := hid_ hC
        have r1 := hR 1 _ rfl
        have r2 := hR 2 _ rfl
        have r7 := hR 7 _ rfl
        have r8 := hR 8 _ rfl
        have z1 := hO.low.le
        have z2 := hO.high.le
        have z7 := hO.key.le
        have z8 := (HW.out C (List.mem_of_getElem? hC)).1.le
        have HE := hid_ (HW.out C (List.mem_of_getElem? hC)).2
        have hcap := HRL.out C (List.mem_of_getElem? hC)
        obtain ⟨m1, e1, m1a, m1b⟩ := min_le (C.R.low.size : Int) (by omega)
        obtain ⟨m2, e2, m2a, m2b⟩ := min_le (C.R.high.size : Int) (by omega)
        obtain ⟨m3, e3, m3a, m3b⟩ := min_le (C.R.key.size : Int) (by omega)
        obtain ⟨m4, e4, m4a, m4b⟩ := min_le (C.R.val.size : Int) (by omega)
        clear hR hO hC
        go_wp2_with fail
        go_quiet (fail)
        go_wp2_with fail
        clear r1 r2 r7 r8 e1 e2 e3 e4 z1 z2 z7 z8
        have hs0 : 0 ≤ x + (m3 + m4 + m1 + m2) := by omega
        have hs1 : x + (m3 + m4 + m1 + m2) ≤ (k : Int) * 700000 + 12004 := by omega
        clear m1a m1b m2a m2b m3a m3b m4a m4b hx0 hx1
        go_loopw [3, 4, 6] (fun a y i wr => ∃ (t : Nat) (x' : Int), t ≤ C.R.rows.length ∧ t ≤ 101 ∧ i = .int .i64 t ∧ a = .int .i64 ((m + t : Nat) : Int) ∧ y = .int .i64 x' ∧ 0 ≤ x' ∧ x' ≤ (k : Int) * 700000 + 12004 + (t : Int) * 6002 ∧ Fr none_ w wr) (fun _ _ i _ => C.R.rows.length - (intOf i).toNat)
        case atStart => exact ⟨0, _, Nat.zero_le _, by omega, rfl, rfl, rfl, by omega, by omega, F.out.drewN _⟩
        case round =>
          obtain ⟨t, x', ht, ht1, rfl, rfl, rfl, hx2, hx3, hfr⟩ := hrel
          have FX := hid_ hfr
          clear hfr hb
          obtain ⟨b', off', e, hb, hR, hO⟩ := (H.out.keep FX.out).at_ HD.out
          obtain ⟨rfl, rfl⟩ : b = b' ∧ off = off' := by injection e with e; injection e with e1 e2; exact ⟨e1, e2⟩
          clear e
          have r5 := hR 5 _ rfl
          have hj0 : (0 : Int) ≤ (t : Int) := Int.natCast_nonneg _
          by_cases hle : t < C.R.rows.length
          · obtain ⟨p, hp⟩ : ∃ p, C.R.rows[t]? = some p := ⟨_, List.getElem?_eq_getElem hle⟩
            obtain ⟨b2, off2, eB, hb2, q0, q1⟩ := rw_at hO.rd.1 hp
            have hj1 : (t : Int) < (C.R.rows.length : Int) := by omega
            have zp := (HE.out p (List.mem_of_getElem? hp)).1.le
            have zp2 := (HE.out p (List.mem_of_getElem? hp)).2.le
            rw [eB] at r5
            clear hR hO hp
            by_cases h100 : (t : Int) ≤ 100
            · obtain ⟨m5, e5, m5a, m5b⟩ := min_le (p.1.size : Int) (by omega)
              obtain ⟨m6, e6, m6a, m6b⟩ := min_le (p.2.size : Int) (by omega)
              go_wp2_with fail
              go_quiet (fail)
              go_wp2_with fail
              go_roundw
              case rel => exact ⟨t + 1, _, by omega, by omega, by go_num, by go_num, rfl, by omega, by omega, by repeat (first | exact FX.out | apply Fr.drewN | apply Fr.drew)⟩
              case measure => simp [intOf]; omega
            · go_wp2_with fail
              go_roundw
              case rel => exact ⟨k + 1, m + t, x', by omega, by omega, by go_num, rfl, rfl, by omega, by omega, by omega, fun h => by omega, FX.out⟩
              case measure => simp [intOf]; omega
          · obtain rfl : t = C.R.rows.length := by omega
            clear hR hO
            have hj1 : ¬ ((C.R.rows.length : Int) < (C.R.rows.length : Int)) := by omega
            go_wp2_with fail
            go_roundw
            case rel => exact ⟨k + 1, m + C.R.rows.length, x', by omega, by omega, by go_num, rfl, rfl, by omega, by omega, by omega, few_step7 HA.out HD.out, FX.out⟩
            case measure => simp [intOf]; omega
      · obtain rfl : k = 41 := by omega
        go_wp2
        go_ret
        exact ⟨false, rfl, (fun h => by cases h), F.out⟩
    · obtain rfl : k = n := by omega
      have hall : m ≤ 100 → ∀ (j : Nat) (C : Ch), L[j]? = some C → C.R.rows.length ≤ 100 := fun h j D hD => HA.out h j D (by have := (List.getElem?_eq_some_iff.1 hD).1; omega) hD
      have HB := hid_ hall
      clear hall
      by_cases g1 : (k : Int) ≤ 40
      · by_cases g2 : (m : Int) ≤ 100
        · by_cases g3 : x ≤ 3000
          · go_wp2
            go_ret
            exact ⟨true, rfl, fun _ => ⟨by omega, HB.out (by omega)⟩, F.out⟩
          · go_wp2
            go_ret
            exact ⟨false, rfl, (fun h => by cases h), F.out⟩
        · go_wp2
          go_ret
          exact ⟨false, rfl, (fun h => by cases h), F.out⟩
      · go_wp2
        go_ret
        exact ⟨false, rfl, (fun h => by cases h), F.out⟩
end Go.Proofs.Ytpjbncbmdfmlpaa

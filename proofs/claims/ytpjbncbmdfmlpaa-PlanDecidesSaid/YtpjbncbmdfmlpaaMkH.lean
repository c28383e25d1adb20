/- Texts of one proof, merged: Few8, In8, Few7, Aw11, Cs11, Md11, Qs7, Ux. -/
import Derived.Deep.QuietTactic
import Derived.BigQuiet
import Derived.Test.YtpjbncbmdfmlpaaMkA
import Derived.Test.YtpjbncbmdfmlpaaMkE
import Derived.Test.YtpjbncbmdfmlpaaMkG
namespace Go.Proofs.Ytpjbncbmdfmlpaa
open Go.RowKit Go.ChangeShapes Go.WideShapes
set_option maxRecDepth 100000
set_option linter.unusedVariables false

structure ChIn (w : World) (C : Ch) : Prop where
  rd : RecReads w C.R C.A C.B
  low : SzOk C.R.low
  high : SzOk C.R.high
  key : SzOk C.R.key
  hkey : SzOk C.R.hkey
  ents : ∀ p ∈ C.R.ents, SzOk p.1
  cap : C.R.ents.length ≤ C.d
  capm : C.d ≤ maxLen
  rows : C.R.rows.length ≤ 4398046511104
theorem ChIn.keep {w w' : World} {C : Ch} (h : ChIn w C) (hf : Fr none_ w w') : ChIn w' C := ⟨h.rd.keep hf, h.low, h.high, h.key, h.hkey, h.ents, h.cap, h.capm, h.rows⟩
def InReads (w : World) (A : Option Addr) (n : Nat) (L : List Ch) : Prop :=
  L.length = n ∧ (0 < n → ∃ b off, A = some ⟨b, off, none⟩ ∧ b < w.heap.size ∧ ∀ (k : Nat) (C : Ch), L[k]? = some C → w.rangeAt b (off + k * 15) (recL C) ∧ ChIn w C)
theorem InReads.keep {w w' : World} {A : Option Addr} {n : Nat} {L : List Ch} (h : InReads w A n L) (hf : Fr none_ w w') : InReads w' A n L :=
  ⟨h.1, fun hn => by
    obtain ⟨b, off, hA, hb, hc⟩ := h.2 hn
    exact ⟨b, off, hA, by have := hf.size; omega, fun k D hD => ⟨fun j v hv => cellFr ((hc k D hD).1 j v hv) hf, (hc k D hD).2.keep hf⟩⟩⟩
theorem InReads.at_ {w : World} {A : Option Addr} {n : Nat} {L : List Ch} (h : InReads w A n L) {k : Nat} {C : Ch} (hC : L[k]? = some C) : ∃ b off, A = some ⟨b, off, none⟩ ∧ b < w.heap.size ∧ w.rangeAt b (off + k * 15) (recL C) ∧ ChIn w C := by
  obtain ⟨b, off, hA, hb, hc⟩ := h.2 (by have := (List.getElem?_eq_some_iff.1 hC).1; have := h.1; omega)
  exact ⟨b, off, hA, hb, hc k C hC⟩
/-- A chain of few entries, read as the layer's contracts want it. -/
theorem InReads.few {w : World} {A : Option Addr} {n : Nat} {L : List Ch} (h : InReads w A n L) (hf : ∀ C ∈ L, C.R.ents.length ≤ 100) : ChReads w A n L :=
  ⟨h.1, fun hn => by
    obtain ⟨b, off, hA, hb, hc⟩ := h.2 hn
    refine ⟨b, off, hA, hb, fun k C hC => ⟨(hc k C hC).1, ?_⟩⟩
    have hi := (hc k C hC).2
    have := hf C (List.mem_of_getElem? hC)
    exact ⟨hi.rd, hi.low, hi.high, hi.key, hi.hkey, ⟨by omega, hi.ents⟩, hi.cap, hi.capm⟩⟩

def FewOk8 (L : List Ch) : Prop := L.length ≤ 40 ∧ ∀ (k : Nat) (C : Ch), L[k]? = some C → C.R.ents.length ≤ 100
def FewPost8 (L : List Ch) (w : World) (e : Ending) (w' : World) : Prop := ∃ b : Bool, e = .returned (.bool b) ∧ (b = true → FewOk8 L) ∧ Fr none_ w w'
theorem min_le (x : Int) (h : 0 ≤ x) : ∃ y : Int, (if 3001 < x then (3001 : Int) else x) = y ∧ 0 ≤ y ∧ y ≤ 3001 := ⟨_, rfl, by split <;> omega, by split <;> omega⟩
theorem few_step {L : List Ch} {k m : Nat} {C : Ch} (h : m ≤ 100 → ∀ (j : Nat) (D : Ch), j < k → L[j]? = some D → D.R.ents.length ≤ 100) (hC : L[k]? = some C) :
    m + C.R.ents.length ≤ 100 → ∀ (j : Nat) (D : Ch), j < k + 1 → L[j]? = some D → D.R.ents.length ≤ 100 := fun hm j D hj hD => by
  rcases Nat.lt_or_ge j k with h1 | h1
  · exact h (by omega) j D h1 hD
  · obtain rfl : j = k := by omega
    rw [hC] at hD
    cases hD
    omega
set_option maxHeartbeats 4000000 in
theorem few8_ok (A : Option Addr) (n cap : Nat) (L : List Ch) (w : World) (h : InReads w A n L) (hm : n ≤ maxLen) : Calls Try.prog 58 #[.slice A n cap] w (FewPost8 L w) := by
  unfold maxLen at hm
  have H := hid_ h
  have hln := h.1
  clear h
  go_enter Try.func58, Try.ntmps58
  go_wp2_with fail
  go_loopw [3, 4, 5] (fun a y i wr => ∃ (k m : Nat) (x : Int), k ≤ n ∧ k ≤ 41 ∧ i = .int .i64 k ∧ a = .int .i64 m ∧ y = .int .i64 x ∧ m ≤ k * 101 ∧ 0 ≤ x ∧ x ≤ (k : Int) * 400000 ∧ (m ≤ 100 → ∀ (j : Nat) (C : Ch), j < k → L[j]? = some C → C.R.ents.length ≤ 100) ∧ Fr none_ w wr) (fun _ _ i _ => n - (intOf i).toNat)
  case atStart => exact ⟨0, 0, 0, Nat.zero_le _, by omega, rfl, rfl, rfl, by omega, by omega, by omega, fun _ j C hj => by omega, Fr.refl _ _⟩
  case round =>
    obtain ⟨k, m, x, hk, hk41, rfl, rfl, rfl, hm1, hx0, hx1, hall, hfr⟩ := hrel
    have HA := hid_ hall
    have F := hid_ hfr
    clear hall hfr
    by_cases hlt : k < n
    · obtain ⟨C, hC⟩ : ∃ C, L[k]? = some C := ⟨_, List.getElem?_eq_getElem (by omega)⟩
      obtain ⟨b, off, rfl, hb, hR, hO⟩ := (H.out.keep F.out).at_ hC
      have hi0 : (0 : Int) ≤ (k : Int) := Int.natCast_nonneg _
      have hi1 : (k : Int) < (n : Int) := by omega
      by_cases h40 : (k : Int) ≤ 40
      · have HD := hid_ hC
        have r1 := hR 1 _ rfl
        have r2 := hR 2 _ rfl
        have r7 := hR 7 _ rfl
        have r12 := hR 12 _ rfl
        have z1 := hO.low.le
        have z2 := hO.high.le
        have z7 := hO.key.le
        have z12 := hO.hkey.le
        have HE := hid_ hO.ents
        have hcap := hO.cap
        have hcapm := hO.capm
        unfold maxLen at hcapm
        obtain ⟨m1, e1, m1a, m1b⟩ := min_le (C.R.low.size : Int) (by omega)
        obtain ⟨m2, e2, m2a, m2b⟩ := min_le (C.R.high.size : Int) (by omega)
        obtain ⟨m3, e3, m3a, m3b⟩ := min_le (C.R.key.size : Int) (by omega)
        obtain ⟨m4, e4, m4a, m4b⟩ := min_le (C.R.hkey.size : Int) (by omega)
        clear hR hO hC
        go_wp2_with fail
        go_quiet (fail)
        go_wp2_with fail
        clear r1 r2 r7 r12 e1 e2 e3 e4 z1 z2 z7 z12
        have hs0 : 0 ≤ x + (m3 + m1 + m2 + m4) := by omega
        have hs1 : x + (m3 + m1 + m2 + m4) ≤ (k : Int) * 400000 + 12004 := by omega
        clear m1a m1b m2a m2b m3a m3b m4a m4b hx0 hx1
        go_loopw [3, 4, 6] (fun a y i wr => ∃ (t : Nat) (x' : Int), t ≤ C.R.ents.length ∧ t ≤ 101 ∧ i = .int .i64 t ∧ a = .int .i64 ((m + t : Nat) : Int) ∧ y = .int .i64 x' ∧ 0 ≤ x' ∧ x' ≤ (k : Int) * 400000 + 12004 + (t : Int) * 3001 ∧ Fr none_ w wr) (fun _ _ i _ => C.R.ents.length - (intOf i).toNat)
        case atStart => exact ⟨0, _, Nat.zero_le _, by omega, rfl, rfl, rfl, by omega, by omega, F.out.drewN _⟩
        case round =>
          obtain ⟨t, x', ht, ht1, rfl, rfl, rfl, hx2, hx3, hfr⟩ := hrel
          have FX := hid_ hfr
          clear hfr hb
          obtain ⟨b', off', e, hb, hR, hO⟩ := (H.out.keep FX.out).at_ HD.out
          obtain ⟨rfl, rfl⟩ : b = b' ∧ off = off' := by injection e with e; injection e with e1 e2; exact ⟨e1, e2⟩
          clear e
          have r6 := hR 6 _ rfl
          have hj0 : (0 : Int) ≤ (t : Int) := Int.natCast_nonneg _
          by_cases hle : t < C.R.ents.length
          · obtain ⟨p, hp⟩ : ∃ p, C.R.ents[t]? = some p := ⟨_, List.getElem?_eq_getElem hle⟩
            obtain ⟨b2, off2, eB, hb2, q0, q1⟩ := et_at hO.rd.2 hp
            have hj1 : (t : Int) < (C.R.ents.length : Int) := by omega
            have zp := (HE.out p (List.mem_of_getElem? hp)).le
            rw [eB] at r6
            clear hR hO hp
            by_cases h100 : (t : Int) ≤ 100
            · obtain ⟨m5, e5, m5a, m5b⟩ := min_le (p.1.size : Int) (by omega)
              go_wp2_with fail
              go_roundw
              case rel => exact ⟨t + 1, _, by omega, by omega, by go_num, by go_num, rfl, by omega, by omega, FX.out⟩
              case measure => simp [intOf]; omega
            · go_wp2_with fail
              go_roundw
              case rel => exact ⟨k + 1, m + t, x', by omega, by omega, by go_num, rfl, rfl, by omega, by omega, by omega, fun h => by omega, FX.out⟩
              case measure => simp [intOf]; omega
          · obtain rfl : t = C.R.ents.length := by omega
            clear hR hO
            have hj1 : ¬ ((C.R.ents.length : Int) < (C.R.ents.length : Int)) := by omega
            go_wp2_with fail
            go_roundw
            case rel => exact ⟨k + 1, m + C.R.ents.length, x', by omega, by omega, by go_num, rfl, rfl, by omega, by omega, by omega, few_step HA.out HD.out, FX.out⟩
            case measure => simp [intOf]; omega
      · obtain rfl : k = 41 := by omega
        go_wp2
        go_ret
        exact ⟨false, rfl, (fun h => by cases h), F.out⟩
    · obtain rfl : k = n := by omega
      have hall : m ≤ 100 → ∀ (j : Nat) (C : Ch), L[j]? = some C → C.R.ents.length ≤ 100 := fun h j D hD => HA.out h j D (by have := (List.getElem?_eq_some_iff.1 hD).1; omega) hD
      have HB := hid_ hall
      clear hall
      by_cases g1 : (k : Int) ≤ 40
      · by_cases g2 : (m : Int) ≤ 100
        · by_cases g3 : x ≤ 3000
          · go_wp2
            go_ret
            exact ⟨true, rfl, fun _ => ⟨by omega, HB.out (by omega)⟩, F.out⟩
          · go_wp2
            go_ret
            exact ⟨false, rfl, (fun h => by cases h), F.out⟩
        · go_wp2
          go_ret
          exact ⟨false, rfl, (fun h => by cases h), F.out⟩
      · go_wp2
        go_ret
        exact ⟨false, rfl, (fun h => by cases h), F.out⟩
end Go.Proofs.Ytpjbncbmdfmlpaa
namespace Go.Proofs.Ytpjbncbmdfmlpaa
open Go.RowKit Go.ChangeShapes Go.WideShapes
set_option maxRecDepth 100000
set_option linter.unusedVariables false

theorem bytes_Row : Try.prog.bytesOf 62 = 32 := by kernel_rfl
theorem rows_conf2 {H : Type} {enc : TypeId × Value → H} {w : World} {v : Value} (h : Conf enc Try.prog w (.slice 36) v) : ∃ A n c L, v = .slice A n c ∧ n ≤ c ∧ c ≤ 4398046511104 ∧ RwReads w A n L := by
  obtain ⟨fuel, d, ps, ht, hlt, hwt⟩ := h
  obtain ⟨A, n, c, rfl, h1, h2, h3, h4, h5⟩ := open_list 6 Try.underlying36 ht hlt hwt (by rw [leaves_Row]; rfl) (by rw [leaves_Row, cells_Row]; rfl)
  obtain ⟨L, hL⟩ := rows_of (Row_at h5)
  rw [bytes_Row] at h3
  unfold reachBytes at h3
  exact ⟨A, n, c, L, rfl, h1, by omega, hL⟩
theorem szOk_of {s : ByteArray} (h : s.size ≤ reachBytes) : SzOk s := by
  unfold SzOk
  unfold reachBytes at h
  omega
end Go.Proofs.Ytpjbncbmdfmlpaa
namespace Go.Proofs.Ytpjbncbmdfmlpaa
open Go.RowKit Go.ChangeShapes Go.WideShapes
set_option maxRecDepth 100000
set_option linter.unusedVariables false

/-- The rows of records, and their values, are texts that may be. -/
def RwIn (L : List Ch) : Prop := ∀ C ∈ L, SzOk C.R.val ∧ ∀ p ∈ C.R.rows, SzOk p.1 ∧ SzOk p.2
def FewOk7 (L : List Ch) : Prop := L.length ≤ 40 ∧ ∀ (k : Nat) (C : Ch), L[k]? = some C → C.R.rows.length ≤ 100
def FewPost7 (L : List Ch) (w : World) (e : Ending) (w' : World) : Prop := ∃ b : Bool, e = .returned (.bool b) ∧ (b = true → FewOk7 L) ∧ Fr none_ w w'
theorem few_step7 {L : List Ch} {k m : Nat} {C : Ch} (h : m ≤ 100 → ∀ (j : Nat) (D : Ch), j < k → L[j]? = some D → D.R.rows.length ≤ 100) (hC : L[k]? = some C) :
    m + C.R.rows.length ≤ 100 → ∀ (j : Nat) (D : Ch), j < k + 1 → L[j]? = some D → D.R.rows.length ≤ 100 := fun hm j D hj hD => by
  rcases Nat.lt_or_ge j k with h1 | h1
  · exact h (by omega) j D h1 hD
  · obtain rfl : j = k := by omega
    rw [hC] at hD
    cases hD
    omega
set_option maxHeartbeats 4000000 in
theorem few7_ok (A : Option Addr) (n cap : Nat) (L : List Ch) (w : World) (h : InReads w A n L) (hw : RwIn L) (hm : n ≤ maxLen) : Calls Try.prog 57 #[.slice A n cap] w (FewPost7 L w) := by
  unfold maxLen at hm
  have HRL : Hid (∀ C ∈ L, C.R.rows.length ≤ 4398046511104) := hid_ (fun C hC => by obtain ⟨k, hk⟩ := List.mem_iff_getElem?.1 hC; obtain ⟨_, _, _, _, _, hO⟩ := h.at_ hk; exact hO.rows)
  have H := hid_ h
  have HW := hid_ hw
  have hln := h.1
  clear h hw
  go_enter Try.func57, Try.ntmps57
  go_wp2_with fail
  go_loopw [3, 4, 5] (fun a y i wr => ∃ (k m : Nat) (x : Int), k ≤ n ∧ k ≤ 41 ∧ i = .int .i64 k ∧ a = .int .i64 m ∧ y = .int .i64 x ∧ m ≤ k * 101 ∧ 0 ≤ x ∧ x ≤ (k : Int) * 700000 ∧ (m ≤ 100 → ∀ (j : Nat) (C : Ch), j < k → L[j]? = some C → C.R.rows.length ≤ 100) ∧ Fr none_ w wr) (fun _ _ i _ => n - (intOf i).toNat)
  case atStart => exact ⟨0, 0, 0, Nat.zero_le _, by omega, rfl, rfl, rfl, by omega, by omega, by omega, fun _ j C hj => by omega, Fr.refl _ _⟩
  case round =>
    obtain ⟨k, m, x, hk, hk41, rfl, rfl, rfl, hm1, hx0, hx1, hall, hfr⟩ := hrel
    have HA := hid_ hall
    have F := hid_ hfr
    clear hall hfr
    by_cases hlt : k < n
    · obtain ⟨C, hC⟩ : ∃ C, L[k]? = some C := ⟨_, List.getElem?_eq_getElem (by omega)⟩
      obtain ⟨b, off, rfl, hb, hR, hO⟩ := (H.out.keep F.out).at_ hC
      have hi0 : (0 : Int) ≤ (k : Int) := Int.natCast_nonneg _
      have hi1 : (k : Int) < (n : Int) := by omega
      by_cases h40 : (k : Int) ≤ 40
      · have HD := hid_ hC
        have r1 := hR 1 _ rfl
        have r2 := hR 2 _ rfl
        have r7 := hR 7 _ rfl
        have r8 := hR 8 _ rfl
        have z1 := hO.low.le
        have z2 := hO.high.le
        have z7 := hO.key.le
        have z8 := (HW.out C (List.mem_of_getElem? hC)).1.le
        have HE := hid_ (HW.out C (List.mem_of_getElem? hC)).2
        have hcap := HRL.out C (List.mem_of_getElem? hC)
        obtain ⟨m1, e1, m1a, m1b⟩ := min_le (C.R.low.size : Int) (by omega)
        obtain ⟨m2, e2, m2a, m2b⟩ := min_le (C.R.high.size : Int) (by omega)
        obtain ⟨m3, e3, m3a, m3b⟩ := min_le (C.R.key.size : Int) (by omega)
        obtain ⟨m4, e4, m4a, m4b⟩ := min_le (C.R.val.size : Int) (by omega)
        clear hR hO hC
        go_wp2_with fail
        go_quiet (fail)
        go_wp2_with fail
        clear r1 r2 r7 r8 e1 e2 e3 e4 z1 z2 z7 z8
        have hs0 : 0 ≤ x + (m3 + m4 + m1 + m2) := by omega
        have hs1 : x + (m3 + m4 + m1 + m2) ≤ (k : Int) * 700000 + 12004 := by omega
        clear m1a m1b m2a m2b m3a m3b m4a m4b hx0 hx1
        go_loopw [3, 4, 6] (fun a y i wr => ∃ (t : Nat) (x' : Int), t ≤ C.R.rows.length ∧ t ≤ 101 ∧ i = .int .i64 t ∧ a = .int .i64 ((m + t : Nat) : Int) ∧ y = .int .i64 x' ∧ 0 ≤ x' ∧ x' ≤ (k : Int) * 700000 + 12004 + (t : Int) * 6002 ∧ Fr none_ w wr) (fun _ _ i _ => C.R.rows.length - (intOf i).toNat)
        case atStart => exact ⟨0, _, Nat.zero_le _, by omega, rfl, rfl, rfl, by omega, by omega, F.out.drewN _⟩
        case round =>
          obtain ⟨t, x', ht, ht1, rfl, rfl, rfl, hx2, hx3, hfr⟩ := hrel
          have FX := hid_ hfr
          clear hfr hb
          obtain ⟨b', off', e, hb, hR, hO⟩ := (H.out.keep FX.out).at_ HD.out
          obtain ⟨rfl, rfl⟩ : b = b' ∧ off = off' := by injection e with e; injection e with e1 e2; exact ⟨e1, e2⟩
          clear e
          have r5 := hR 5 _ rfl
          have hj0 : (0 : Int) ≤ (t : Int) := Int.natCast_nonneg _
          by_cases hle : t < C.R.rows.length
          · obtain ⟨p, hp⟩ : ∃ p, C.R.rows[t]? = some p := ⟨_, List.getElem?_eq_getElem hle⟩
            obtain ⟨b2, off2, eB, hb2, q0, q1⟩ := rw_at hO.rd.1 hp
            have hj1 : (t : Int) < (C.R.rows.length : Int) := by omega
            have zp := (HE.out p (List.mem_of_getElem? hp)).1.le
            have zp2 := (HE.out p (List.mem_of_getElem? hp)).2.le
            rw [eB] at r5
            clear hR hO hp
            by_cases h100 : (t : Int) ≤ 100
            · obtain ⟨m5, e5, m5a, m5b⟩ := min_le (p.1.size : Int) (by omega)
              obtain ⟨m6, e6, m6a, m6b⟩ := min_le (p.2.size : Int) (by omega)
              go_wp2_with fail
              go_quiet (fail)
              go_wp2_with fail
              go_roundw
              case rel => exact ⟨t + 1, _, by omega, by omega, by go_num, by go_num, rfl, by omega, by omega, by repeat (first | exact FX.out | apply Fr.drewN | apply Fr.drew)⟩
              case measure => simp [intOf]; omega
            · go_wp2_with fail
              go_roundw
              case rel => exact ⟨k + 1, m + t, x', by omega, by omega, by go_num, rfl, rfl, by omega, by omega, by omega, fun h => by omega, FX.out⟩
              case measure => simp [intOf]; omega
          · obtain rfl : t = C.R.rows.length := by omega
            clear hR hO
            have hj1 : ¬ ((C.R.rows.length : Int) < (C.R.rows.length : Int)) := by omega
            go_wp2_with fail
            go_roundw
            case rel => exact ⟨k + 1, m + C.R.rows.length, x', by omega, by omega, by go_num, rfl, rfl, by omega, by omega, by omega, few_step7 HA.out HD.out, FX.out⟩
            case measure => simp [intOf]; omega
      · obtain rfl : k = 41 := by omega
        go_wp2
        go_ret
        exact ⟨false, rfl, (fun h => by cases h), F.out⟩
    · obtain rfl : k = n := by omega
      have hall : m ≤ 100 → ∀ (j : Nat) (C : Ch), L[j]? = some C → C.R.rows.length ≤ 100 := fun h j D hD => HA.out h j D (by have := (List.getElem?_eq_some_iff.1 hD).1; omega) hD
      have HB := hid_ hall
      clear hall
      by_cases g1 : (k : Int) ≤ 40
      · by_cases g2 : (m : Int) ≤ 100
        · by_cases g3 : x ≤ 3000
          · go_wp2
            go_ret
            exact ⟨true, rfl, fun _ => ⟨by omega, HB.out (by omega)⟩, F.out⟩
          · go_wp2
            go_ret
            exact ⟨false, rfl, (fun h => by cases h), F.out⟩
        · go_wp2
          go_ret
          exact ⟨false, rfl, (fun h => by cases h), F.out⟩
      · go_wp2
        go_ret
        exact ⟨false, rfl, (fun h => by cases h), F.out⟩
end Go.Proofs.Ytpjbncbmdfmlpaa
namespace Go.Proofs.Ytpjbncbmdfmlpaa
open Go.RowKit Go.BigFrame
set_option maxRecDepth 100000
set_option linter.unusedVariables false

abbrev sA : ByteArray := ⟨#[97]⟩
abbrev sB : ByteArray := ⟨#[98]⟩
abbrev sC : ByteArray := ⟨#[99]⟩
def rows3 : List Rw := [(sA, nilS), (sB, nilS), (sC, nilS)]
def recK (A : Option Addr) : Ch := ⟨⟨1, nilS, nilS, true, 0, rows3, [], nilS, nilS, 0, 0, 0, nilS, 0, 0⟩, A, 3, none, 0⟩
theorem lt_nil (x : ByteArray) : ltS x nilS = false := by
  rcases ltS_total x nilS with h | h | h
  · exfalso
    have h2 : ltL x.data.toList [] = true := h
    cases hx : x.data.toList <;> rw [hx] at h2 <;> simp [ltL] at h2
  · rw [h]; exact ltS_irrefl _
  · exact ltS_asymm h
theorem sz1 {s : ByteArray} (h : s.size ≤ 16) : SzOk s := by unfold SzOk; omega
theorem rows3_ok : RwsOk rows3 := ⟨by decide, fun p hp => by
  simp only [rows3, List.mem_cons, List.not_mem_nil, or_false] at hp
  rcases hp with rfl | rfl | rfl <;> exact ⟨sz1 (by decide), sz1 (by decide)⟩⟩
theorem rows3_right : RightR rows3 := ⟨fun p hp => by
  simp only [rows3, List.mem_cons, List.not_mem_nil, or_false] at hp
  rcases hp with rfl | rfl | rfl <;> decide, fun i p q hp hq => by
  match i, hp, hq with
  | 0, hp, hq => cases hp; cases hq; decide
  | 1, hp, hq => cases hp; cases hq; decide
  | k + 2, hp, hq => simp [rows3] at hq⟩
theorem rows3_sound : SoundR nilS nilS true rows3 := ⟨fun _ => rfl, rows3_right, fun p hp => by simp [inS, lt_nil]⟩
def lvK : Lw := ⟨nilS, nilS, true, 0, rows3, false⟩
theorem of_K (A : Option Addr) : ofM [(recK A).R] = some (true, lvK, Vw.zero) := by
  unfold ofM
  rw [if_pos (by rfl), foldL_one _ rfl rows3_sound]
  rfl
theorem reads_K {w : World} {b : Nat} {cs : Array Value} (h : Blk w b 62 cs) (hc : cs = (rwFlat rows3).toArray) : Reads w 2 (some ⟨b, 0, none⟩) 3 (rwFlat rows3) := by
  subst hc
  refine ⟨rfl, fun _ => ⟨_, rfl, fun j u hu => ?_⟩⟩
  rw [add_lit, Nat.zero_add]
  exact h.cell' (by simpa using hu)
abbrev limK : L6 := ⟨0, 0, 0, 2, 4, 0⟩
abbrev azK : Az := ⟨false, 0, 0, 0, Vw.zero, none, 0⟩
abbrev recZ7 : Array Value := recZ8
set_option maxHeartbeats 8000000 in
theorem awake11_ok (w : World) : Calls Try.prog 28 #[] w (RetQ (.bool true) w) := by
  go_enter Try.func28, Try.ntmps28
  obtain ⟨w1, hw1⟩ : ∃ z, z = w.alloc (.cells (rwFlat rows3).toArray 62) := ⟨_, rfl⟩
  have f1 : Fr none_ w w1 := by rw [hw1]; exact (Fr.refl none_ w).alloc _
  have BR : Hid (Blk w1 w.heap.size 62 (rwFlat rows3).toArray) := hid_ (by rw [hw1]; exact Blk.new w _ _)
  have F1 := hid_ f1
  have hs1 : w1.heap.size = w.heap.size + 1 := by rw [hw1]; simp
  go_upto_region 2 with (change wpList _ _ _ _ _ ((w.alloc (.cells (rwFlat rows3).toArray 62)).alloc (.cells recZ7 58)); rw [← hw1, show w.heap.size + 1 = w1.heap.size from hs1.symm]; refine wpList_store_mid rfl 58 (.tmp 1) (.tmp 9) rfl w1.heap.size 0 (recL (recK (some ⟨w.heap.size, 0, none⟩))).toArray rfl rfl (new_there w1 _ recZ7) rec_size8 (rec_one _) ?_; obtain ⟨w2, hw2⟩ : ∃ z, z = (w1.alloc (.cells recZ7 58)).setCells w1.heap.size 0 ((recL (recK (some ⟨w.heap.size, 0, none⟩))).toArray).toList := ⟨_, rfl⟩; change wpList _ _ _ _ _ ((w1.alloc (.cells recZ7 58)).setCells w1.heap.size 0 ((recL (recK (some ⟨w.heap.size, 0, none⟩))).toArray).toList); rw [← hw2]; have P2 : Hid (Blk w2 w1.heap.size 58 (recL (recK (some ⟨w.heap.size, 0, none⟩))).toArray ∧ Fr none_ w1 w2) := hid_ (by rw [hw2]; exact new_copy w1 _ recZ7 ((recL (recK (some ⟨w.heap.size, 0, none⟩))).toArray).toList rfl); clear hw2)
  clear hs1 hw1
  go_wp2_with (refine wpList_load_mid rfl 58 (.tmp 1) rfl w1.heap.size 0 rfl (recL (recK (some ⟨w.heap.size, 0, none⟩))) _ P2.out.1.range7 Try.underlying58 rfl rec_size8 ?_)
  obtain ⟨w3, hw3⟩ : ∃ z, z = w2.alloc (.cells (recL (recK (some ⟨w.heap.size, 0, none⟩))).toArray 58) := ⟨_, rfl⟩
  have f3 : Fr none_ w2 w3 := by rw [hw3]; exact (Fr.refl none_ w2).alloc _
  have B3 : Hid (Blk w3 w2.heap.size 58 (recL (recK (some ⟨w.heap.size, 0, none⟩))).toArray) := hid_ (by rw [hw3]; exact Blk.new w2 _ _)
  have F3 := hid_ (P2.out.2.then_none f3)
  change Calls _ _ _ (w2.alloc (.cells (recL (recK (some ⟨w.heap.size, 0, none⟩))).toArray 58)) _
  rw [← hw3]
  clear hw3 f3
  have hbr := BR.out.lt
  have hch : ChReads w3 (some ⟨w2.heap.size, 0, none⟩) 1 [(recK (some ⟨w.heap.size, 0, none⟩))] := ⟨rfl, fun _ => ⟨_, _, rfl, B3.out.lt, fun k C hC => by
    match k, hC with
    | 0, hC =>
      cases hC
      refine ⟨B3.out.range7, ⟨⟨reads_K (BR.out.fr F3.out id) rfl, Reads.nil_⟩, SzOk.nil, SzOk.nil, SzOk.nil, SzOk.nil, ⟨by show (0:Nat) ≤ 1000; omega, fun p hp => by simp [recK] at hp⟩, Nat.le_refl _, by simp [recK, maxLen]⟩⟩
    | k + 1, hC => simp at hC⟩⟩
  refine (of_ok 3 1 1 (some ⟨w2.heap.size, 0, none⟩) 1 1 [(recK (some ⟨w.heap.size, 0, none⟩))] [] none 0 w3 hch (by omega) (fun C hC => by obtain rfl := List.mem_singleton.1 hC; exact ⟨SzOk.nil, rows3_ok, by show (3 : Nat) ≤ 500; omega⟩) (fun C hC => by obtain rfl := List.mem_singleton.1 hC; exact Nat.zero_le _) Reads.nil_ (by simp)).mono ?_
  rintro e w4 (⟨leaf, lv, iv, A, c, B, d, C, x, D, y, hof, rfl, hpg, hf4⟩ | ⟨q, hq, hof, rfl, hf4⟩)
  rotate_left
  · have := of_K (some ⟨w.heap.size, 0, none⟩)
    rw [show [(recK (some ⟨w.heap.size, 0, none⟩))].map (·.R) = [(recK (some ⟨w.heap.size, 0, none⟩)).R] from rfl, this] at hof
    cases hof
  have hok := of_K (some ⟨w.heap.size, 0, none⟩)
  rw [show [(recK (some ⟨w.heap.size, 0, none⟩))].map (·.R) = [(recK (some ⟨w.heap.size, 0, none⟩)).R] from rfl, hok] at hof
  injection hof with hof
  injection hof with h1 hof
  injection hof with h2 h3
  subst h1 h2 h3
  have F4 := hid_ (F1.out.then_none (F3.out.then_none hf4))
  have VI := hid_ hpg.iv
  clear hok hpg hf4 hch B3 P2
  obtain ⟨P, hP⟩ : ∃ P : Pz, P = ⟨3, 1, 1, C, 1, x, .slice D 0 y, true, lvK, A, c, Vw.zero, B, d⟩ := ⟨_, rfl⟩
  have HPE := hid_ hP
  have POK : Hid (∀ w', Fr none_ w4 w' → PzOk w' P) := hid_ (fun w' hf => by rw [hP]; exact ⟨SzOk.nil, SzOk.nil, by show (3 : Nat) ≤ 300000; omega, VI.out.keep hf, by show 1 ≤ 4000; omega⟩)
  go_upto_region 3 with (refine wpList_store_mid rfl 45 (.tmp 2) (.tmp 15) rfl w4.heap.size 0 (pzA P) rfl (by rw [hP]; rfl) (new_there w4 _ pgZ) page_size (by rw [hP]; simp [Value.oneCell']) ?_; obtain ⟨w5, hw5⟩ : ∃ z, z = (w4.alloc (.cells pgZ 45)).setCells w4.heap.size 0 (pzA P).toList := ⟨_, rfl⟩; change wpList _ _ _ _ _ ((w4.alloc (.cells pgZ 45)).setCells w4.heap.size 0 (pzA P).toList); rw [← hw5]; have P5 : Hid (Blk w5 w4.heap.size 45 (pzA P) ∧ Fr none_ w4 w5) := hid_ (by rw [hw5]; exact new_copy w4 _ pgZ (pzA P).toList rfl); clear hw5)
  go_upto_region 4 with fail
  obtain ⟨w6, hw6⟩ : ∃ z, z = w5.alloc (.cells (l6A limK) 28) := ⟨_, rfl⟩
  have f6 : Fr none_ w5 w6 := by rw [hw6]; exact (Fr.refl none_ w5).alloc _
  have BL : Hid (Blk w6 w5.heap.size 28 (l6A limK)) := hid_ (by rw [hw6]; exact Blk.new w5 _ _)
  have BP : Hid (Blk w6 w4.heap.size 45 (pzA P)) := hid_ (P5.out.1.fr f6 id)
  have F6 : Hid (Fr none_ w4 w6) := hid_ (P5.out.2.then_none f6)
  change Code.wp _ _ _ _ (w5.alloc (.cells (l6A limK) 28))
  rw [← hw6]
  clear hw6 f6 P5 hP
  have hsize : P.size = 3 := by rw [HPE.out]; rfl
  have HSZ := hid_ hsize
  have hinK : inS P.low P.high P.unb sA = true := by rw [HPE.out]; simp [Pz.low, Pz.high, Pz.unb, inS, lvK, lt_nil]
  have D1 : Hid (decM P azK sA limK true = pnK 7) := hid_ (dec_d (by rw [HPE.out]; rfl) (by rw [HPE.out]; rfl) hinK (by
    unfold upkM
    rw [HSZ.out, HPE.out, if_neg (by show ¬ ((4 : Int) < ((1 : Nat) : Int)); omega), if_neg (by show ¬ ((2 : Int) < ((3 : Nat) : Int) ∧ (3 : Int) = 0); omega), if_pos (by show (2 : Int) < ((3 : Nat) : Int); omega)]))
  have D2 : Hid (decM P azK sA limK false = pnK 10) := hid_ ((dec_e (by rw [HPE.out]; rfl) rfl hinK (fun h => by cases h)).trans (by unfold decR; rw [HPE.out]; rfl))
  clear hsize hinK
  go_wp2_with (first | (refine wpList_load_midG (by kernel_rfl) 45 (.tmp 2) rfl w4.heap.size 0 rfl (pzA P).toList _ (Blk.range7 (l := (pzA P).toList) BP.out) Try.underlying45 rfl page_size ?_) | (refine wpList_load_midG (by kernel_rfl) 28 (.tmp 4) rfl w5.heap.size 0 rfl (l6A limK).toList _ (Blk.range7 (l := (l6A limK).toList) BL.out) Try.underlying28 rfl lim_size7 ?_))
  refine (decide_ok P azK sA limK true w6 (POK.out w6 F6.out) (VwIn.zero _) (sz1 (by decide)) (fun _ w' h1 h2 => upkeep_big P azK limK w' h1 h2 (by rw [HSZ.out]; decide))).mono ?_
  rintro e w7 ⟨rfl, hf7⟩
  have hfd7 : ∀ w : World, (Instr.field 81 (.agg #[.int .i64 7, .int .i64 0, .string ⟨#[]⟩, .int .i64 0, .int .i64 0, .int .i64 0, .string ⟨#[]⟩]) 0).run Try.prog w = .ok (.int .i64 7) w := fun _ => by kernel_rfl
  rw [D1.out, show Value.agg (pnA (pnK 7)) = .agg #[.int .i64 7, .int .i64 0, .string ⟨#[]⟩, .int .i64 0, .int .i64 0, .int .i64 0, .string ⟨#[]⟩] from rfl]
  replace BP := hid_ (BP.out.fr hf7 id)
  replace BL := hid_ (BL.out.fr hf7 id)
  replace F6 := hid_ (F6.out.then_none hf7)
  clear hf7
  go_wp2_with (first | (refine wpList_load_midG (by kernel_rfl) 45 (.tmp 2) rfl w4.heap.size 0 rfl (pzA P).toList _ (Blk.range7 (l := (pzA P).toList) BP.out) Try.underlying45 rfl page_size ?_) | (refine wpList_load_midG (by kernel_rfl) 28 (.tmp 4) rfl w5.heap.size 0 rfl (l6A limK).toList _ (Blk.range7 (l := (l6A limK).toList) BL.out) Try.underlying28 rfl lim_size7 ?_))
  refine (decide_ok P azK sA limK false w7 (POK.out w7 F6.out) (VwIn.zero _) (sz1 (by decide)) (fun h => by cases h)).mono ?_
  rintro e w8 ⟨rfl, hf8⟩
  have hfd10 : ∀ w : World, (Instr.field 81 (.agg #[.int .i64 10, .int .i64 0, .string ⟨#[]⟩, .int .i64 0, .int .i64 0, .int .i64 0, .string ⟨#[]⟩]) 0).run Try.prog w = .ok (.int .i64 10) w := fun _ => by kernel_rfl
  rw [D2.out, show Value.agg (pnA (pnK 10)) = .agg #[.int .i64 10, .int .i64 0, .string ⟨#[]⟩, .int .i64 0, .int .i64 0, .int .i64 0, .string ⟨#[]⟩] from rfl]
  replace F6 := hid_ (F6.out.then_none hf8)
  clear hf8
  go_wp2_with fail
  refine (name_ok 10 w8).mono ?_
  rintro e w9 ⟨rfl, hf9⟩
  replace F6 := hid_ (F6.out.then_none hf9)
  clear hf9
  rw [show nameM 10 = (⟨#[97, 99, 116]⟩ : ByteArray) from rfl]
  go_wp2
  go_ret
  exact ⟨rfl, F4.out.then_none F6.out⟩
end Go.Proofs.Ytpjbncbmdfmlpaa
namespace Go.Proofs.Ytpjbncbmdfmlpaa
open Go.RowKit Go.BigFrame Go.ChangeShapes Go.WideShapes
set_option maxRecDepth 100000
set_option linter.unusedVariables false

structure Cz where
  n : Int
  A1 : Option Addr
  n1 : Nat
  c1 : Nat
  A2 : Option Addr
  n2 : Nat
  c2 : Nat
  some_ : Bool
  key : ByteArray
  l : L6
  writes : Bool
abbrev czA (c : Cz) : Array Value := #[.int .i64 c.n, .slice c.A1 c.n1 c.c1, .slice c.A2 c.n2 c.c2, .bool c.some_, .string c.key, .int .i64 c.l.a0, .int .i64 c.l.a1, .int .i64 c.l.a2, .int .i64 c.l.rows, .int .i64 c.l.chain, .int .i64 c.l.a5, .bool c.writes]
theorem case_size : (Try.prog.info? 75).map (·.size) = some 12 := by kernel_rfl
structure CzIn (w : World) (c : Cz) (L1 L2 : List Ch) : Prop where
  i1 : InReads w c.A1 c.n1 L1
  r1 : RwIn L1
  m1 : c.n1 ≤ maxLen
  i2 : InReads w c.A2 c.n2 L2
  r2 : RwIn L2
  m2 : c.n2 ≤ maxLen
  key : SzOk c.key
theorem CzIn.keep {w w' : World} {c : Cz} {L1 L2 : List Ch} (h : CzIn w c L1 L2) (hf : Fr none_ w w') : CzIn w' c L1 L2 := ⟨h.i1.keep hf, h.r1, h.m1, h.i2.keep hf, h.r2, h.m2, h.key⟩
structure CzFew (c : Cz) (L1 L2 : List Ch) : Prop where
  a : FewOk7 L1
  b : FewOk8 L1
  c : FewOk7 L2
  d : FewOk8 L2
def CfewPost (c : Cz) (L1 L2 : List Ch) (w : World) (e : Ending) (w' : World) : Prop := ∃ b : Bool, e = .returned (.bool b) ∧ (b = true → CzFew c L1 L2) ∧ Fr none_ w w'
set_option maxHeartbeats 8000000 in
theorem cfew_ok (c : Cz) (L1 L2 : List Ch) (w : World) (h : CzIn w c L1 L2) : Calls Try.prog 29 #[.agg (czA c)] w (CfewPost c L1 L2 w) := by
  obtain ⟨w0, hw0⟩ : ∃ z, z = w.alloc (.cells (czA c) 75) := ⟨_, rfl⟩
  have f0 : Fr none_ w w0 := by rw [hw0]; exact (Fr.refl none_ w).alloc _
  have B := hid_ (show Blk w0 w.heap.size 75 (czA c) by rw [hw0]; exact Blk.new w _ _)
  have F := hid_ f0
  have H := hid_ (h.keep f0)
  have hkl := h.key.le
  clear f0 h
  go_enter Try.func29, Try.ntmps29
  go_upto_region 1 with fail
  change Code.wp _ _ _ _ (w.alloc (.cells (czA c) 75))
  rw [← hw0]
  clear hw0
  have v1 : w0.cell? ⟨w.heap.size, 1, none⟩ = some (.slice c.A1 c.n1 c.c1) := B.out.cell' rfl
  go_wp2_with fail
  refine (few7_ok c.A1 c.n1 c.c1 _ w0 H.out.i1 H.out.r1 H.out.m1).mono ?_
  rintro e w1 ⟨b, rfl, hb, hf⟩
  have G0 := hid_ hb
  replace F := hid_ (F.out.then_none hf)
  replace B := hid_ (B.out.fr hf id)
  replace H := hid_ (H.out.keep hf)
  clear hb hf v1
  cases b with
  | false =>
    go_wp2
    go_ret
    exact ⟨false, rfl, (fun h => by cases h), F.out⟩
  | true =>
    have v1 : w1.cell? ⟨w.heap.size, 1, none⟩ = some (.slice c.A1 c.n1 c.c1) := B.out.cell' rfl
    go_wp2_with fail
    refine (few8_ok c.A1 c.n1 c.c1 _ w1 H.out.i1 H.out.m1).mono ?_
    rintro e w2 ⟨b, rfl, hb, hf⟩
    have G1 := hid_ hb
    replace F := hid_ (F.out.then_none hf)
    replace B := hid_ (B.out.fr hf id)
    replace H := hid_ (H.out.keep hf)
    clear hb hf v1
    cases b with
    | false =>
      go_wp2
      go_ret
      exact ⟨false, rfl, (fun h => by cases h), F.out⟩
    | true =>
      have v2 : w2.cell? ⟨w.heap.size, 2, none⟩ = some (.slice c.A2 c.n2 c.c2) := B.out.cell' rfl
      go_wp2_with fail
      refine (few7_ok c.A2 c.n2 c.c2 _ w2 H.out.i2 H.out.r2 H.out.m2).mono ?_
      rintro e w3 ⟨b, rfl, hb, hf⟩
      have G2 := hid_ hb
      replace F := hid_ (F.out.then_none hf)
      replace B := hid_ (B.out.fr hf id)
      replace H := hid_ (H.out.keep hf)
      clear hb hf v2
      cases b with
      | false =>
        go_wp2
        go_ret
        exact ⟨false, rfl, (fun h => by cases h), F.out⟩
      | true =>
        have v2 : w3.cell? ⟨w.heap.size, 2, none⟩ = some (.slice c.A2 c.n2 c.c2) := B.out.cell' rfl
        go_wp2_with fail
        refine (few8_ok c.A2 c.n2 c.c2 _ w3 H.out.i2 H.out.m2).mono ?_
        rintro e w4 ⟨b, rfl, hb, hf⟩
        have G3 := hid_ hb
        replace F := hid_ (F.out.then_none hf)
        replace B := hid_ (B.out.fr hf id)
        replace H := hid_ (H.out.keep hf)
        clear hb hf v2
        cases b with
        | false =>
          go_wp2
          go_ret
          exact ⟨false, rfl, (fun h => by cases h), F.out⟩
        | true =>
          have v4 : w4.cell? ⟨w.heap.size, 4, none⟩ = some (.string c.key) := B.out.cell' rfl
          by_cases hk : (c.key.size : Int) ≤ 100
          · have e1 : decide ((c.key.size : Int) ≤ 100) = true := decide_eq_true hk
            clear hk
            go_wp2
            go_ret
            exact ⟨true, rfl, (fun h => ⟨G0.out (by simp), G1.out (by simp), G2.out (by simp), G3.out (by simp)⟩), F.out⟩
          · have e1 : decide ((c.key.size : Int) ≤ 100) = false := decide_eq_false hk
            clear hk
            go_wp2
            go_ret
            exact ⟨false, rfl, (fun h => by cases h), F.out⟩
end Go.Proofs.Ytpjbncbmdfmlpaa
namespace Go.Proofs.Ytpjbncbmdfmlpaa
open Go.RowKit Go.BigFrame
set_option maxRecDepth 100000
set_option linter.unusedVariables false

abbrev azZ : Array Value := #[.bool false, .int .i64 0, .int .i64 0, .int .i64 0, .string ⟨#[]⟩, .string ⟨#[]⟩, .bool false, .int .i64 0, .slice none 0 0, .bool false, .int .i64 0, .int .i64 0, .string ⟨#[]⟩]
section
variable {P : Program} {md : Region.Mode} {ops : Array Oper} {Q : Exit → Act → World → Prop} {S : World → Prop}
/-- The act, named. -/
theorem wpAnyU_name7 {m : Nat} {fuel : Nat} {listed : Array Bool} {a0 : Act} {w : World} (h : ∀ a, a = a0 → wpAnyU P md ops Q S m fuel listed a w) : wpAnyU P md ops Q S m fuel listed a0 w := h a0 rfl
end
/-- An Above's box is none of its entries' rows.. -/
theorem VwIn.farA {w w' : World} {V : Vw} {A : Option Addr} {c X : Nat} (h : VwIn w V A c) (hX : Blk w X 77 azZ) (hf : Fr (only X) w w') : VwIn w' V A c := by
  refine ⟨?_, h.cap, h.capm, h.ok⟩
  rcases Nat.eq_zero_or_pos V.ents.length with h0 | h0
  · exact ⟨h.rd.1, fun hn => absurd hn (by omega)⟩
  · obtain ⟨p, hp⟩ : ∃ p, V.ents[0]? = some p := ⟨_, List.getElem?_eq_getElem h0⟩
    obtain ⟨b, off, rfl, hb, c0, c1⟩ := et_at h.rd hp
    refine h.rd.fr hf (fun ad e => ?_)
    cases e
    intro e
    have e' : b = X := e
    subst e'
    rw [hX.cell] at c0 c1
    simp only [Nat.zero_mul, Nat.add_zero] at c0 c1
    match off, c0, c1 with
    | 0, c0, c1 => simp at c0
    | 1, c0, c1 => simp at c0
    | 2, c0, c1 => simp at c0
    | 3, c0, c1 => simp at c0
    | 4, c0, c1 => simp at c1
    | 5, c0, c1 => simp at c1
    | 6, c0, c1 => simp at c0
    | 7, c0, c1 => simp at c0
    | 8, c0, c1 => simp at c0
    | 9, c0, c1 => simp at c0
    | 10, c0, c1 => simp at c0
    | 11, c0, c1 => simp at c0
    | 12, c0, c1 => simp at c1
    | k + 13, c0, c1 => simp at c0
theorem VwIn.farZ {w w' : World} {V : Vw} {A : Option Addr} {c X : Nat} (h : VwIn w V A c) (hX : Blk w X 45 pgZ) (hf : Fr (only X) w w') : VwIn w' V A c :=
  h.farP (n := 0) (hs := 0) (hg := 0) (vc := .slice none 0 0) (vr := .slice none 0 0) (leaf := false) (lv := Lw.zero) (sl := .slice none 0 0) (iv := Vw.zero) (si := .slice none 0 0) hX ⟨_, _, _, rfl⟩ ⟨_, _, _, rfl⟩ ⟨_, _, _, rfl⟩ hf
theorem few_ents {L : List Ch} (h : FewOk8 L) : ∀ C ∈ L, C.R.ents.length ≤ 100 := fun C hC => by obtain ⟨k, hk⟩ := List.mem_iff_getElem?.1 hC; exact h.2 k C hk
theorem few_rows {L : List Ch} (h : FewOk7 L) (hw : RwIn L) : RwOkL L := fun C hC => by
  obtain ⟨k, hk⟩ := List.mem_iff_getElem?.1 hC
  have := h.2 k C hk
  exact ⟨(hw C hC).1, ⟨by omega, (hw C hC).2⟩, by omega⟩
end Go.Proofs.Ytpjbncbmdfmlpaa
namespace Go.Proofs.Ytpjbncbmdfmlpaa
open Go.RowKit Go.BigFrame
set_option linter.unusedVariables false
section
/-- wpQuiet, closed to the unifier. -/
structure Qw7 (P : Program) (ops : Array Oper) (C : World → Prop) (Q : Act → Prop) (l : List Oper) (a : Act) : Prop where
  h : wpQuiet P ops C Q l a
variable {P : Program} {ops : Array Oper} {C : World → Prop} {Q : Act → Prop} {a : Act} {o : Oper} {rest : List Oper}
theorem q_skip7 (d : Option Tmp) (hd : o.dst = d) (hw : Region.wanted o (yielded ops a.tmps) = false) (h : Qw7 P ops C Q rest (a.put d undef)) : Qw7 P ops C Q (o :: rest) a := by
  subst hd
  exact ⟨wpQuiet_skip hw h.h⟩
theorem q_val7 (d : Option Tmp) (v : Value) (hd : o.dst = d) (hw : Region.wanted o (yielded ops a.tmps) = true) (hx : ∀ w, C w → (execOp a.eval o).run P w = .ok (.value v) w) (h : Qw7 P ops C Q rest (a.put d v)) : Qw7 P ops C Q (o :: rest) a := by
  subst hd
  refine ⟨wpQuiet_want hw fun K hK => ⟨v, fun w hC => ?_, hK _ h.h⟩⟩
  unfold Oper.quietAt
  rw [hx w hC]
  exact ⟨rfl, rfl⟩
theorem run_loadAt_cell7 (w : World) (ad : Addr) (ty : TypeId) (v : Value) (d : TypeDesc) (hc : w.cell? ad = some v) (hu : P.underlying ty = some d) (hd : d.isRow = false) :
    (Instr.loadAt ty (.pointer (some ad))).run P w = .ok v w := by
  have hagg : (isAgg ty).run P w = .ok false w := by
    unfold isAgg
    rw [Sem.run_bind, run_underlying hu w]
    cases d <;> simp_all
  have hl : (load ad).run P w = .ok v w := by
    rw [run_load, hc]
  simp only [Instr.loadAt, Instr.sureAddr, loadVar, Sem.run_bind, Sem.run_pure, Result.andThen_ok, hagg, Bool.false_eq_true, if_false, hl]
theorem q_cell7 (d : Option Tmp) (v : Value) (ty : TypeId) (x : Operand) (ad : Addr) (td : TypeDesc) (hd : o.dst = d) (hw : Region.wanted o (yielded ops a.tmps) = true) (ho : o.op = .load ty x) (hx : a.eval x = .pointer (some ad)) (hc : ∀ w, C w → w.cell? ad = some v) (hu : P.underlying ty = some td) (hr : td.isRow = false) (h : Qw7 P ops C Q rest (a.put d v)) : Qw7 P ops C Q (o :: rest) a :=
  q_val7 d v hd hw (fun w hC => by
    unfold execOp
    simp only [ho, hx, Sem.run_bind, Sem.run_pure, Result.andThen_ok, run_loadAt_cell7 w ad ty v td (hc w hC) hu hr]) h
theorem q_done7 (h : Q a) : Qw7 P ops C Q [] a := ⟨h⟩
theorem wp_region_q7 (C : World → Prop) {id : Nat} {K : Exit → Act → World → Prop} {l : List Oper} {w : World} (hm : P.follows .mixedOrders = true) (hB : Region.lexB .any l.toArray = true) (h0 : C w.drew)
    (h : Qw7 P l.toArray C (fun a' => ∀ w', C w' → K .normal a' w') l a) : (Code.region id l.toArray true).wp P K a w :=
  wp_region_quiet (C := C) hm hB h0 (by simpa using h.h)
theorem q_bool7 (d : Option Tmp) (b c : Bool) (hbc : b = c) (hd : o.dst = d) (hw : Region.wanted o (yielded ops a.tmps) = true) (hx : ∀ w, C w → (execOp a.eval o).run P w = .ok (.value (.bool b)) w) (h : Qw7 P ops C Q rest (a.put d (.bool c))) : Qw7 P ops C Q (o :: rest) a :=
  q_val7 d (.bool c) hd hw (fun w hC => by rw [← hbc]; exact hx w hC) h
end
end Go.Proofs.Ytpjbncbmdfmlpaa
namespace Go.Proofs.Ytpjbncbmdfmlpaa
open Go.RowKit
set_option linter.unusedVariables false
theorem run_sliceHi {n m c : Nat} {A : Option Addr} (t e : TypeId) (hu : Try.prog.underlying t = some (.slice e)) (hs : ∀ w, (sizeOf e).run Try.prog w = .ok 2 w) (hb : n ≤ c) (w : World) :
    (Instr.sliceAt t (.slice A m c) none (some (.int .i64 n)) none).run Try.prog w = .ok (.slice A n c) w := by
  have h1 : (n : Int) ≤ (c : Int) := by omega
  have h0 : (0 : Int) ≤ (n : Int) := Int.natCast_nonneg _
  simp [hu, go_sem, h1, h0, hs]
theorem run_sliceLo {n m c : Nat} {A : Option Addr} (t e : TypeId) (hu : Try.prog.underlying t = some (.slice e)) (hs : ∀ w, (sizeOf e).run Try.prog w = .ok 2 w) (hb : n ≤ m) (hc : m ≤ c) (w : World) :
    (Instr.sliceAt t (.slice A m c) (some (.int .i64 n)) none none).run Try.prog w = .ok (.slice (if c = n then A else A.map (·.add (n * 2))) (m - n) (c - n)) w := by
  have h1 : (n : Int) ≤ (c : Int) := by omega
  have h2 : (n : Int) ≤ (m : Int) := by omega
  have h0 : (0 : Int) ≤ (n : Int) := Int.natCast_nonneg _
  simp [hu, go_sem, h0, h2, hs]
section
variable {ops : Array Oper} {S : World → Prop} {a : Act} {oi : Oper}
theorem y_sliceHi {n m c : Nat} {A : Option Addr} (t : TypeId) (x h : Operand) (e : TypeId) (hw : Region.wanted oi (yielded ops a.tmps) = true) (ho : oi.op = .slice t x none (some h) none) (hu : Try.prog.underlying t = some (.slice e)) (hs : ∀ w, (sizeOf e).run Try.prog w = .ok 2 w)
    (hx : a.eval x = .slice A m c) (hh : a.eval h = .int .i64 n) (hb : n ≤ c) : YieldsIf Try.prog ops S oi (.slice A n c) a := .inl ⟨hw, fun w hS => by
  unfold execOp
  simp only [ho, Option.map_none, Option.map_some, hx, hh, Sem.run_bind, Sem.run_pure, Result.andThen_ok, run_sliceHi t e hu hs hb]⟩
theorem y_int {P : Program} {x y : Int} (hxy : x = y) (hw : Region.wanted oi (yielded ops a.tmps) = true) (hx : ∀ w, S w → (execOp a.eval oi).run P w = .ok (.value (.int .i64 x)) w) : YieldsIf P ops S oi (.int .i64 y) a := .inl ⟨hw, fun w hS => by rw [← hxy]; exact hx w hS⟩
theorem y_sliceLo {n m c : Nat} {A : Option Addr} (t : TypeId) (x h : Operand) (e : TypeId) (hw : Region.wanted oi (yielded ops a.tmps) = true) (ho : oi.op = .slice t x (some h) none none) (hu : Try.prog.underlying t = some (.slice e)) (hs : ∀ w, (sizeOf e).run Try.prog w = .ok 2 w)
    (hx : a.eval x = .slice A m c) (hh : a.eval h = .int .i64 n) (hb : n ≤ m) (hc : m ≤ c) : YieldsIf Try.prog ops S oi (.slice (if c = n then A else A.map (·.add (n * 2))) (m - n) (c - n)) a := .inl ⟨hw, fun w hS => by
  unfold execOp
  simp only [ho, Option.map_none, Option.map_some, hx, hh, Sem.run_bind, Sem.run_pure, Result.andThen_ok, run_sliceLo t e hu hs hb hc]⟩
theorem ent_sz : ∀ w, (sizeOf 64).run Try.prog w = .ok 2 w := fun w => by kernel_rfl
variable {P : Program} {md : Region.Mode} {Q : Exit → Act → World → Prop} {m fuel : Nat} {listed : Array Bool} {w : World}
/-- The one operation that is ready, whose value and world are known. -/
theorem u_run (i : Nat) (d : Option Tmp) (v : Value) (w2 : World) (hi : ops[i]? = some oi) (hd : oi.dst = d) (hw : Region.wanted oi (yielded ops a.tmps) = true) (hr : Region.ready md ops listed = [i])
    (hx : (execOp a.eval oi).run P w = .ok (.value v) w2) (hS : m ≤ i ∨ S w2) (h : UwA P md ops Q S m fuel (listed.setIfInBounds i true) (a.put d v) w2) : UwA P md ops Q S m (fuel + 1) listed a w := by
  subst hd
  refine u_one i hi hw hr ?_
  unfold Oper.wp
  rw [hx, Oper.upon_value]
  exact ⟨hS, h⟩
theorem wp_known {K : Act → World → Prop} (v : Value) (w2 : World) (hx : (execOp a.eval oi).run P w = .ok (.value v) w2) (h : K (a.put oi.dst v) w2) : Oper.wp P oi a w K Q := by
  unfold Oper.wp
  rw [hx, Oper.upon_value]
  exact h
theorem q_int7 {o : Oper} {rest : List Oper} {C : World → Prop} {R : Act → Prop} (d : Option Tmp) (x y : Int) (hxy : x = y) (hd : o.dst = d) (hw : Region.wanted o (yielded ops a.tmps) = true) (hx : ∀ w, C w → (execOp a.eval o).run P w = .ok (.value (.int .i64 x)) w) (h : Qw7 P ops C R rest (a.put d (.int .i64 y))) : Qw7 P ops C R (o :: rest) a :=
  q_val7 d (.int .i64 y) hd hw (fun w hC => by rw [← hxy]; exact hx w hC) h
theorem ex_max (x : Operand) (t1 t2 : TypeId) (k : Int) (ho : oi.op = .call { callee := .builtin .max, args := #[x, .const (.int .i64 0)], argTypes := #[t1, t2] }) (hx : a.eval x = .int .i64 k) (hk : 0 ≤ k) (w : World) : (execOp a.eval oi).run Try.prog w = .ok (.value (.int .i64 k)) w := by
  unfold execOp
  simp only [ho, resolve, invoke, builtin, Sem.run_bind, Sem.run_pure, Result.andThen_ok, List.map_toArray, List.map_cons, List.map_nil, hx]
  rw [show a.eval (.const (.int .i64 0)) = Value.int .i64 0 from rfl]
  have h1 : ¬ k < 0 := by omega
  simp [go_sem, Builtin.max_, Builtin.max2, h1]
theorem ex_index (t e : TypeId) (x y : Operand) (b off n m c : Nat) (ho : oi.op = .indexAddr t x y) (hx : a.eval x = .slice (some ⟨b, off, none⟩) m c) (hy : a.eval y = .int .i64 n) (hu : Try.prog.underlying t = some (.slice e)) (hs : ∀ w, (sizeOf e).run Try.prog w = .ok 2 w) (hn : n < m) (w : World) :
    (execOp a.eval oi).run Try.prog w = .ok (.value (.pointer (some ⟨b, off + n * 2, none⟩))) w := by
  unfold execOp
  simp only [ho, hx, hy, Sem.run_bind, Sem.run_pure]
  have h0 : (0 : Int) ≤ (n : Int) := Int.natCast_nonneg _
  have h1 : (n : Int) < (m : Int) := by omega
  simp [go_sem, hu, hs, h0, h1]
theorem wpList_known {rest : List Oper} (hgd : oi.guard = none) (v : Value) (w2 : World) (hx : (execOp a.eval oi).run P w = .ok (.value v) w2) (h : wpList P ops Q rest (a.put oi.dst v) w2) : wpList P ops Q (oi :: rest) a w :=
  wpList_plain hgd fun _ hK => wp_known v w2 hx (hK _ _ h)
/-- One of two operations comes first. -/
theorem u_two {oj : Oper} (i j : Nat) (hi : ops[i]? = some oi) (hj : ops[j]? = some oj) (wi : Region.wanted oi (yielded ops a.tmps) = true) (wj : Region.wanted oj (yielded ops a.tmps) = true) (hr : Region.ready md ops listed = [i, j])
    (h1 : Oper.wp P oi a w (fun a' w' => (m ≤ i ∨ S w') ∧ UwA P md ops Q S m fuel (listed.setIfInBounds i true) a' w') Q)
    (h2 : Oper.wp P oj a w (fun a' w' => (m ≤ j ∨ S w') ∧ UwA P md ops Q S m fuel (listed.setIfInBounds j true) a' w') Q) : UwA P md ops Q S m (fuel + 1) listed a w :=
  ⟨wpAnyU_two7 hi hj wi wj hr (Oper.wp_mono (fun a' w' h' => ⟨h'.1, h'.2.h⟩) h1) (Oper.wp_mono (fun a' w' h' => ⟨h'.1, h'.2.h⟩) h2)⟩
end
end Go.Proofs.Ytpjbncbmdfmlpaa

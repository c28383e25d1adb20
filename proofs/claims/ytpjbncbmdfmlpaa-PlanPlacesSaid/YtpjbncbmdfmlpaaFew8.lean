/- A chain that came in (of any lengths), and Few. Written by gen_few8.py. -/
import Derived.Test.YtpjbncbmdfmlpaaCh
import Derived.Deep.QuietTactic
import Derived.BigQuiet
namespace Go.Proofs.Ytpjbncbmdfmlpaa
open Go.RowKit Go.ChangeShapes Go.WideShapes
set_option maxRecDepth 100000
set_option linter.unusedVariables false

structure ChIn (w : World) (C : Ch) : Prop where
  rd : RecReads w C.R C.A C.B
  low : SzOk C.R.low
  high : SzOk C.R.high
  key : SzOk C.R.key
  hkey : SzOk C.R.hkey
  ents : ∀ p ∈ C.R.ents, SzOk p.1
  cap : C.R.ents.length ≤ C.d
  capm : C.d ≤ maxLen
  rows : C.R.rows.length ≤ 4398046511104
theorem ChIn.keep {w w' : World} {C : Ch} (h : ChIn w C) (hf : Fr none_ w w') : ChIn w' C := ⟨h.rd.keep hf, h.low, h.high, h.key, h.hkey, h.ents, h.cap, h.capm, h.rows⟩
def InReads (w : World) (A : Option Addr) (n : Nat) (L : List Ch) : Prop :=
  L.length = n ∧ (0 < n → ∃ b off, A = some ⟨b, off, none⟩ ∧ b < w.heap.size ∧ ∀ (k : Nat) (C : Ch), L[k]? = some C → w.rangeAt b (off + k * 15) (recL C) ∧ ChIn w C)
theorem InReads.keep {w w' : World} {A : Option Addr} {n : Nat} {L : List Ch} (h : InReads w A n L) (hf : Fr none_ w w') : InReads w' A n L :=
  ⟨h.1, fun hn => by
    obtain ⟨b, off, hA, hb, hc⟩ := h.2 hn
    exact ⟨b, off, hA, by have := hf.size; omega, fun k D hD => ⟨fun j v hv => cellFr ((hc k D hD).1 j v hv) hf, (hc k D hD).2.keep hf⟩⟩⟩
theorem InReads.at_ {w : World} {A : Option Addr} {n : Nat} {L : List Ch} (h : InReads w A n L) {k : Nat} {C : Ch} (hC : L[k]? = some C) : ∃ b off, A = some ⟨b, off, none⟩ ∧ b < w.heap.size ∧ w.rangeAt b (off + k * 15) (recL C) ∧ ChIn w C := by
  obtain ⟨b, off, hA, hb, hc⟩ := h.2 (by have := (List.getElem?_eq_some_iff.1 hC).1; have := h.1; omega)
  exact ⟨b, off, hA, hb, hc k C hC⟩
/-- A chain of few entries, read as the layer's contracts want it. -/
theorem InReads.few {w : World} {A : Option Addr} {n : Nat} {L : List Ch} (h : InReads w A n L) (hf : ∀ C ∈ L, C.R.ents.length ≤ 100) : ChReads w A n L :=
  ⟨h.1, fun hn => by
    obtain ⟨b, off, hA, hb, hc⟩ := h.2 hn
    refine ⟨b, off, hA, hb, fun k C hC => ⟨(hc k C hC).1, ?_⟩⟩
    have hi := (hc k C hC).2
    have := hf C (List.mem_of_getElem? hC)
    exact ⟨hi.rd, hi.low, hi.high, hi.key, hi.hkey, ⟨by omega, hi.ents⟩, hi.cap, hi.capm⟩⟩

def FewOk8 (L : List Ch) : Prop := L.length ≤ 40 ∧ ∀ (k : Nat) (C : Ch), L[k]? = some C → C.R.ents.length ≤ 100
def FewPost8 (L : List Ch) (w : World) (e : Ending) (w' : World) : Prop := ∃ b : Bool, e = .returned (.bool b) ∧ (b = true → FewOk8 L) ∧ Fr none_ w w'
theorem min_le (x : Int) (h : 0 ≤ x) : ∃ y : Int, (if 3001 < x then (3001 : Int) else x) = y ∧ 0 ≤ y ∧ y ≤ 3001 := ⟨_, rfl, by split <;> omega, by split <;> omega⟩
theorem few_step {L : List Ch} {k m : Nat} {C : Ch} (h : m ≤ 100 → ∀ (j : Nat) (D : Ch), j < k → L[j]? = some D → D.R.ents.length ≤ 100) (hC : L[k]? = some C) :
    m + C.R.ents.length ≤ 100 → ∀ (j : Nat) (D : Ch), j < k + 1 → L[j]? = some D → D.R.ents.length ≤ 100 := fun hm j D hj hD => by
  rcases Nat.lt_or_ge j k with h1 | h1
  · exact h (by omega) j D h1 hD
  · obtain rfl : j = k := by omega
    rw [hC] at hD
    cases hD
    omega
set_option maxHeartbeats 4000000 in
theorem few8_ok (A : Option Addr) (n cap : Nat) (L : List Ch) (w : World) (h : InReads w A n L) (hm : n ≤ maxLen) : Calls Try.prog 58 #[.slice A n cap] w (FewPost8 L w) := by
  unfold maxLen at hm
  have H := hid_ h
  have hln := h.1
  clear h
  go_enter Try.func58, Try.ntmps58
  go_wp2_with fail
  go_loopw [3, 4, 5] (fun a y i wr => ∃ (k m : Nat) (x : Int), k ≤ n ∧ k ≤ 41 ∧ i = .int .i64 k ∧ a = .int .i64 m ∧ y = .int .i64 x ∧ m ≤ k * 101 ∧ 0 ≤ x ∧ x ≤ (k : Int) * 400000 ∧ (m ≤ 100 → ∀ (j : Nat) (C : Ch), j < k → L[j]? = some C → C.R.ents.length ≤ 100) ∧ Fr none_ w wr) (fun _ _ i _ => n - (intOf i).toNat)
  case atStart => exact ⟨0, 0, 0, Nat.zero_le _, by omega, rfl, rfl, rfl, by omega, by omega, by omega, fun _ j C hj => by omega, Fr.refl _ _⟩
  case round =>
    obtain ⟨k, m, x, hk, hk41, rfl, rfl, rfl, hm1, hx0, hx1, hall, hfr⟩ := hrel
    have HA := hid_ hall
    have F := hid_ hfr
    clear hall hfr
    by_cases hlt : k < n
    · obtain ⟨C, hC⟩ : ∃ C, L[k]? = some C := ⟨_, List.getElem?_eq_getElem (by omega)⟩
      obtain ⟨b, off, rfl, hb, hR, hO⟩ := (H.out.keep F.out).at_ hC
      have hi0 : (0 : Int) ≤ (k : Int) := Int.natCast_nonneg _
      have hi1 : (k : Int) < (n : Int) := by omega
      by_cases h40 : (k : Int) ≤ 40
      · have HD := hid_ hC
        have r1 := hR 1 _ rfl
        have r2 := hR 2 _ rfl
        have r7 := hR 7 _ rfl
        have r12 := hR 12 _ rfl
        have z1 := hO.low.le
        have z2 := hO.high.le
        have z7 := hO.key.le
        have z12 := hO.hkey.le
        have HE := hid_ hO.ents
        have hcap := hO.cap
        have hcapm := hO.capm
        unfold maxLen at hcapm
        obtain ⟨m1, e1, m1a, m1b⟩ := min_le (C.R.low.size : Int) (by omega)
        obtain ⟨m2, e2, m2a, m2b⟩ := min_le (C.R.high.size : Int) (by omega)
        obtain ⟨m3, e3, m3a, m3b⟩ := min_le (C.R.key.size : Int) (by omega)
        obtain ⟨m4, e4, m4a, m4b⟩ := min_le (C.R.hkey.size : Int) (by omega)
        clear hR hO hC
        go_wp2_with fail
        go_quiet (fail)
        go_wp2_with fail
        clear r1 r2 r7 r12 e1 e2 e3 e4 z1 z2 z7 z12
        have hs0 : 0 ≤ x + (m3 + m1 + m2 + m4) := by omega
        have hs1 : x + (m3 + m1 + m2 + m4) ≤ (k : Int) * 400000 + 12004 := by omega
        clear m1a m1b m2a m2b m3a m3b m4a m4b hx0 hx1
        go_loopw [3, 4, 6] (fun a y i wr => ∃ (t : Nat) (x' : Int), t ≤ C.R.ents.length ∧ t ≤ 101 ∧ i = .int .i64 t ∧ a = .int .i64 ((m + t : Nat) : Int) ∧ y = .int .i64 x' ∧ 0 ≤ x' ∧ x' ≤ (k : Int) * 400000 + 12004 + (t : Int) * 3001 ∧ Fr none_ w wr) (fun _ _ i _ => C.R.ents.length - (intOf i).toNat)
        case atStart => exact ⟨0, _, Nat.zero_le _, by omega, rfl, rfl, rfl, by omega, by omega, F.out.drewN _⟩
        case round =>
          obtain ⟨t, x', ht, ht1, rfl, rfl, rfl, hx2, hx3, hfr⟩ := hrel
          have FX := hid_ hfr
          clear hfr hb
          obtain ⟨b', off', e, hb, hR, hO⟩ := (H.out.keep FX.out).at_ HD.out
          obtain ⟨rfl, rfl⟩ : b = b' ∧ off = off' := by injection e with e; injection e with e1 e2; exact ⟨e1, e2⟩
          clear e
          have r6 := hR 6 _ rfl
          have hj0 : (0 : Int) ≤ (t : Int) := Int.natCast_nonneg _
          by_cases hle : t < C.R.ents.length
          · obtain ⟨p, hp⟩ : ∃ p, C.R.ents[t]? = some p := ⟨_, List.getElem?_eq_getElem hle⟩
            obtain ⟨b2, off2, eB, hb2, q0, q1⟩ := et_at hO.rd.2 hp
            have hj1 : (t : Int) < (C.R.ents.length : Int) := by omega
            have zp := (HE.out p (List.mem_of_getElem? hp)).le
            rw [eB] at r6
            clear hR hO hp
            by_cases h100 : (t : Int) ≤ 100
            · obtain ⟨m5, e5, m5a, m5b⟩ := min_le (p.1.size : Int) (by omega)
              go_wp2_with fail
              go_roundw
              case rel => exact ⟨t + 1, _, by omega, by omega, by go_num, by go_num, rfl, by omega, by omega, FX.out⟩
              case measure => simp [intOf]; omega
            · go_wp2_with fail
              go_roundw
              case rel => exact ⟨k + 1, m + t, x', by omega, by omega, by go_num, rfl, rfl, by omega, by omega, by omega, fun h => by omega, FX.out⟩
              case measure => simp [intOf]; omega
          · obtain rfl : t = C.R.ents.length := by omega
            clear hR hO
            have hj1 : ¬ ((C.R.ents.length : Int) < (C.R.ents.length : Int)) := by omega
            go_wp2_with fail
            go_roundw
            case rel => exact ⟨k + 1, m + C.R.ents.length, x', by omega, by omega, by go_num, rfl, rfl, by omega, by omega, by omega, few_step HA.out HD.out, FX.out⟩
            case measure => simp [intOf]; omega
      · obtain rfl : k = 41 := by omega
        go_wp2
        go_ret
        exact ⟨false, rfl, (fun h => by cases h), F.out⟩
    · obtain rfl : k = n := by omega
      have hall : m ≤ 100 → ∀ (j : Nat) (C : Ch), L[j]? = some C → C.R.ents.length ≤ 100 := fun h j D hD => HA.out h j D (by have := (List.getElem?_eq_some_iff.1 hD).1; omega) hD
      have HB := hid_ hall
      clear hall
      by_cases g1 : (k : Int) ≤ 40
      · by_cases g2 : (m : Int) ≤ 100
        · by_cases g3 : x ≤ 3000
          · go_wp2
            go_ret
            exact ⟨true, rfl, fun _ => ⟨by omega, HB.out (by omega)⟩, F.out⟩
          · go_wp2
            go_ret
            exact ⟨false, rfl, (fun h => by cases h), F.out⟩
        · go_wp2
          go_ret
          exact ⟨false, rfl, (fun h => by cases h), F.out⟩
      · go_wp2
        go_ret
        exact ⟨false, rfl, (fun h => by cases h), F.out⟩
end Go.Proofs.Ytpjbncbmdfmlpaa

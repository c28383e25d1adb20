/- MappingFills' walk. -/
import Derived.Test.YtnlpnbllnddaaaaIs
import Derived.Test.YtnlpnbllnddaaaaMapAwake
namespace Go.Proofs.Ytnlpnbllnddaaaa
open Go.RowKit
set_option linter.unusedVariables false

/-- n pages, the first k of them used. -/
def fill (n k : Nat) : List Pg := (List.range n).map fun i => (decide (i < k), 0, 0)
theorem fill_zero (n : Nat) : List.replicate n ((false, 0, 0) : Pg) = fill n 0 := by
  apply List.ext_getElem? <;> intro i
  by_cases h : i < n <;> simp [fill, h]
theorem fill_get (n k i : Nat) (h : i < n) : (fill n k)[i]? = some (decide (i < k), 0, 0) := by simp [fill, h]
theorem fill_set (n k : Nat) (h : k < n) : (fill n k).set k (true, 0, 0) = fill n (k + 1) := by
  apply List.ext_getElem?
  intro i
  by_cases hi : i < n
  · by_cases hk : i = k
    · subst hk
      rw [List.getElem?_set_self (by simpa [fill] using h), fill_get _ _ _ hi]
      simp
    · rw [List.getElem?_set_ne (fun e => hk e.symm), fill_get _ _ _ hi, fill_get _ _ _ hi]
      have : decide (i < k) = decide (i < k + 1) := decide_eq_decide.2 (by omega)
      rw [this]
  · rw [List.getElem?_eq_none (by simp [fill]; omega), List.getElem?_eq_none (by simp [fill]; omega)]
theorem fill_all (n : Nat) : ∀ (j : Nat) (p : Pg), (fill n n)[j]? = some p → p.1 = true := by
  intro j p h
  have hj : j < n := by
    have := (List.getElem?_eq_some_iff.1 h).1
    simpa [fill] using this
  rw [fill_get _ _ _ hj] at h
  obtain rfl := Option.some.inj h
  simpa using hj
theorem fill_len (n k : Nat) : (fill n k).length = n := by simp [fill]

set_option maxHeartbeats 1000000 in
theorem fills_walk (p : Int) (gv : Nat) (hg : gv < 256) (w : World) :
    Calls Try.prog 4 #[.int .i64 p, .int .u8 gv] w fun e w' => e = .returned (.bool true) ∧ Fr none_ w w' := by
  by_cases hp : p < 1
  · go_enter Try.func4, Try.ntmps4
    go_wp2_with (go_at_call 6; refine (awake5 _).mono ?_; rintro e w1 ⟨rfl, hf1⟩)
    go_ret
    exact ⟨rfl, hf1⟩
  by_cases hp2 : 100 < p
  · go_enter Try.func4, Try.ntmps4
    go_wp2_with (go_at_call 6; refine (awake5 _).mono ?_; rintro e w1 ⟨rfl, hf1⟩)
    go_ret
    exact ⟨rfl, hf1⟩
  obtain ⟨n, rfl⟩ : ∃ n : Nat, p = n := ⟨p.toNat, by omega⟩
  have hn1 : 1 ≤ n := by omega
  have hn2 : n ≤ 100 := by omega
  clear hp hp2
  have hd1 : decide ((n : Int) < 1) = false := by simp; omega
  have hd2 : decide (100 < (n : Int)) = false := by simp; omega
  go_enter Try.func4, Try.ntmps4
  go_wp2_with fail
  refine (mapNew_ok n _ hn1 (by omega)).mono ?_
  rintro e w1 ⟨rfl, ht1, hf1, _⟩
  rw [fill_zero] at ht1
  have T1 := hid_ ht1
  have F1 := hid_ hf1
  clear ht1 hf1
  go_wp2_with fail
  go_loopw [27] (fun i wr => ∃ k : Nat, k ≤ n ∧ i = .int .i64 k ∧ Tbl wr (w.heap.size + 1) w.heap.size (fill n k) ∧ Fr none_ w wr) (fun i _ => n - (intOf i).toNat)
  case atStart => exact ⟨0, Nat.zero_le _, rfl, T1.out, F1.out⟩
  case round =>
    obtain ⟨k, hk, rfl, hT, hF⟩ := hrel
    have TH := hid_ hT
    have FH := hid_ hF
    clear hT hF
    by_cases hlt : k < n
    · go_wp2_with fail
      refine (take_ok _ _ _ k 0 0 wr TH.out (by rw [fill_get _ _ _ hlt]; simp) (fun j p hj hp => by
        rw [fill_get _ _ _ (by omega)] at hp
        obtain rfl := Option.some.inj hp
        simpa using hj)).mono ?_
      rintro e w2 ⟨rfl, hw2⟩
      have T2 : Hid (Tbl w2 (w.heap.size + 1) w.heap.size (fill n (k + 1))) := by
        rw [hw2, ← fill_set n k hlt]; exact TH.out.set_ (by rw [fill_len]; exact hlt) _
      have F2 : Hid (Fr none_ w w2) := by
        rw [hw2]; exact FH.out.then_only (setPg_only _ _ _ _) (.inr (Nat.le_refl _))
      clear hw2
      go_wp2
      go_roundw
      case rel => exact ⟨k + 1, by omega, by go_num, T2.out, F2.out⟩
      case measure => simp [intOf]; omega
    · obtain rfl : k = n := by omega
      go_wp2_with fail
      refine (take_full _ _ _ wr TH.out (fill_all k)).mono ?_
      rintro e w2 ⟨rfl, rfl⟩
      have hgm : (gv : Int) % (k : Int) = ((gv % k : Nat) : Int) := by omega
      have HM := hid_ hgm
      have hmlt : gv % k < k := Nat.mod_lt _ (by omega)
      clear hgm
      go_wp2_with fail
      rw [HM.out]
      refine (give_ok _ _ _ (gv % k) 0 0 _ TH.out (by rw [fill_get _ _ _ hmlt]; simp [hmlt])).mono ?_
      rintro e w3 ⟨rfl, hw3⟩
      have T3 : Hid (Tbl w3 (w.heap.size + 1) w.heap.size ((fill k k).set (gv % k) (false, 0, 0))) := by
        rw [hw3]; exact TH.out.set_ (by rw [fill_len]; exact hmlt) _
      have F3 : Hid (Fr none_ w w3) := by
        rw [hw3]; exact FH.out.then_only (setPg_only _ _ _ _) (.inr (Nat.le_refl _))
      clear hw3
      go_wp2_with fail
      refine (take_ok _ _ _ (gv % k) 0 0 w3 T3.out (by rw [List.getElem?_set_self (by rw [fill_len]; exact hmlt)]) (fun j p hj hp => by
        rw [List.getElem?_set_ne (by omega), fill_get _ _ _ (by omega)] at hp
        obtain rfl := Option.some.inj hp
        simp; omega)).mono ?_
      rintro e w4 ⟨rfl, hw4⟩
      have T4 : Hid (Tbl w4 (w.heap.size + 1) w.heap.size (((fill k k).set (gv % k) (false, 0, 0)).set (gv % k) (true, 0, 0))) := by
        rw [hw4]; exact T3.out.set_ (by rw [List.length_set, fill_len]; exact hmlt) _
      have F4 : Hid (Fr none_ w w4) := by
        rw [hw4]; exact F3.out.then_only (setPg_only _ _ _ _) (.inr (Nat.le_refl _))
      clear hw4
      go_wp2_with fail
      refine (head_ok _ _ _ (gv % k) 0 0 w4 T4.out (by rw [List.getElem?_set_self (by rw [List.length_set, fill_len]; exact hmlt)])).mono ?_
      rintro e w5 ⟨rfl, hf5⟩
      have F5 := hid_ (F4.out.then_none hf5)
      clear hf5
      go_wp2_with fail
      refine (isF 3 3 _).mono ?_
      rintro e w6 ⟨rfl, rfl⟩
      go_wp2_with fail
      refine (awake5 _).mono ?_
      rintro e w7 ⟨rfl, hf7⟩
      have F7 := hid_ ((F5.out.alloc (.cells #[.int .i64 0, .int .i64 0] 23)).then_none hf7)
      clear hf7
      go_wp2
      go_ret
      exact ⟨rfl, F7.out⟩

theorem fills_walk_i (p : Int) (hp : (Lit.int .i64 p).wf = true) (g : Int) (hg : (Lit.int .u8 g).wf = true) (w : World) :
    Calls Try.prog 4 #[.int .i64 p, .int .u8 g] w fun e w' => e = .returned (.bool true) ∧ Fr none_ w w' := by
  obtain ⟨h0, h1⟩ := wf_u8 hg
  obtain ⟨gv, rfl⟩ : ∃ gv : Nat, g = gv := ⟨g.toNat, by omega⟩
  exact fills_walk p gv (by omega) w
end Go.Proofs.Ytnlpnbllnddaaaa

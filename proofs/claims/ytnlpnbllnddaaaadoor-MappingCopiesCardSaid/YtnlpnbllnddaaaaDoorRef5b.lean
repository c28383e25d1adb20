/- Contracts of rowlockref05's why, Head, Take, Give, Swap. -/
import Derived.Test.YtnlpnbllnddaaaaDoorRef5
namespace Go.Proofs.YtnlpnbllnddaaaaDoor
open Go.RowKit
set_option linter.unusedVariables false

theorem rnew (n : Int) (w : World) : Calls Tryd.prog 9 #[.int .i64 n] w fun e w' => e = .returned (.tuple #[rtab n (.slice none 0 0), .bool (decide (1 ≤ n) && decide (n ≤ 256))]) ∧ Fr none_ w w' := by
  by_cases h1 : 1 ≤ n
  · by_cases h2 : n ≤ 256
    · have hb : (decide (1 ≤ n) && decide (n ≤ 256)) = true := by simp [h1, h2]
      rw [hb]
      go_enter Tryd.func9, Tryd.ntmps9
      go_wp2
      exact bodyPost_ret (v := .tuple #[rtab n (.slice none 0 0), .bool true]) (by simp [results, Tryd.results9, go_sem]) rfl ⟨rfl, by repeat (first | exact Fr.refl _ _ | apply Fr.drew | apply Fr.alloc)⟩
    · have hb : (decide (1 ≤ n) && decide (n ≤ 256)) = false := by simp [h2]
      rw [hb]
      go_enter Tryd.func9, Tryd.ntmps9
      go_wp2
      exact bodyPost_ret (v := .tuple #[rtab n (.slice none 0 0), .bool false]) (by simp [results, Tryd.results9, go_sem]) rfl ⟨rfl, by repeat (first | exact Fr.refl _ _ | apply Fr.drew | apply Fr.alloc)⟩
  · have hb : (decide (1 ≤ n) && decide (n ≤ 256)) = false := by simp [h1]
    rw [hb]
    go_enter Tryd.func9, Tryd.ntmps9
    go_wp2
    exact bodyPost_ret (v := .tuple #[rtab n (.slice none 0 0), .bool false]) (by simp [results, Tryd.results9, go_sem]) rfl ⟨rfl, by repeat (first | exact Fr.refl _ _ | apply Fr.drew | apply Fr.alloc)⟩

section
variable (count n : Int) (A : Option Addr) (c : Nat) (L : List Rp) (w : World)
theorem why_arg (hn : n < 0 ∨ count ≤ n) : Calls Tryd.prog 27 #[rtab count (.slice A L.length c), .int .i64 n] w fun e w' => e = .returned (.int .i64 1) ∧ w' = w.alloc (rbox count (.slice A L.length c)) := by
  by_cases hn0 : n < 0
  · clear hn
    go_enter Tryd.func27, Tryd.ntmps27
    go_wp2
    go_ret
    exact ⟨rfl, rfl⟩
  · have hle : count ≤ n := by omega
    clear hn
    go_enter Tryd.func27, Tryd.ntmps27
    go_wp2
    go_ret
    exact ⟨rfl, rfl⟩

theorem why_none (h : ROwn w (.slice A L.length c) L) (hl : L.length ≤ 1000) (h0 : 0 ≤ n) (h1 : n < count) (hf : findL L n = -1) :
    Calls Tryd.prog 27 #[rtab count (.slice A L.length c), .int .i64 n] w fun e w' => e = .returned (.int .i64 6) ∧ w' = (w.alloc (rbox count (.slice A L.length c))).alloc (rbox count (.slice A L.length c)) := by
  have H := hid_ h
  have Hf := hid_ hf
  clear h hf
  go_enter Tryd.func27, Tryd.ntmps27
  go_wp2_with fail
  refine (find_any count n A c L _ (H.out.alloc _) hl).mono ?_
  rintro e w1 ⟨rfl, rfl⟩
  rw [Hf.out]
  go_wp2
  go_ret
  exact ⟨rfl, rfl⟩

theorem why_ok (h : ROwn w (.slice A L.length c) L) (hl : L.length ≤ 1000) (h0 : 0 ≤ n) (h1 : n < count) (hf : 0 ≤ findL L n) :
    Calls Tryd.prog 27 #[rtab count (.slice A L.length c), .int .i64 n] w fun e w' => e = .returned (.int .i64 0) ∧ w' = (w.alloc (rbox count (.slice A L.length c))).alloc (rbox count (.slice A L.length c)) := by
  have H := hid_ h
  clear h
  go_enter Tryd.func27, Tryd.ntmps27
  go_wp2_with fail
  refine (find_any count n A c L _ (H.out.alloc _) hl).mono ?_
  rintro e w1 ⟨rfl, rfl⟩
  go_wp2
  go_ret
  exact ⟨rfl, rfl⟩
end

/-- What why answers: a code. -/
def whyL (count : Int) (L : List Rp) (n : Int) : Int := if n < 0 ∨ count ≤ n then 1 else if findL L n = -1 then 6 else 0

/-! ### Head -/
theorem rhead_err (count n : Int) (A : Option Addr) (c : Nat) (L : List Rp) (w : World) (h : ROwn w (.slice A L.length c) L) (hl : L.length ≤ 1000) (k : Int) (hk : whyL count L n = k) (hk0 : k ≠ 0) :
    Calls Tryd.prog 20 #[rtab count (.slice A L.length c), .int .i64 n] w fun e w' => e = .returned (.tuple #[.agg #[.int .i64 0, .int .i64 0], .int .i64 k]) ∧ Fr none_ w w' := by
  have H := hid_ h
  clear h
  by_cases hn : n < 0 ∨ count ≤ n
  · obtain rfl : k = 1 := by rw [← hk, whyL, if_pos hn]
    have Hn := hid_ hn
    clear hn hk hk0
    go_enter Tryd.func20, Tryd.ntmps20
    go_wp2_with (go_at_call 27; refine (why_arg count n A c L _ Hn.out).mono ?_; rintro e w' ⟨rfl, rfl⟩)
    exact bodyPost_ret (v := .tuple #[.agg #[.int .i64 0, .int .i64 0], .int .i64 1]) (by simp [results, Tryd.results20, go_sem]) rfl ⟨rfl, by repeat (first | exact Fr.refl _ _ | apply Fr.drew | apply Fr.alloc)⟩
  · have hf : findL L n = -1 := by
      unfold whyL at hk
      rw [if_neg hn] at hk
      split at hk
      · assumption
      · exact absurd hk.symm hk0
    obtain rfl : k = 6 := by rw [← hk, whyL, if_neg hn, if_pos hf]
    have h0 : 0 ≤ n := by omega
    have h1 : n < count := by omega
    have Hf := hid_ hf
    clear hf hn hk hk0
    go_enter Tryd.func20, Tryd.ntmps20
    go_wp2_with (go_at_call 27; refine (why_none count n A c L _ (own_none H.out (by repeat (first | exact Fr.refl _ _ | apply Fr.drew | apply Fr.alloc))) hl h0 h1 Hf.out).mono ?_; rintro e w' ⟨rfl, rfl⟩)
    exact bodyPost_ret (v := .tuple #[.agg #[.int .i64 0, .int .i64 0], .int .i64 6]) (by simp [results, Tryd.results20, go_sem]) rfl ⟨rfl, by repeat (first | exact Fr.refl _ _ | apply Fr.drew | apply Fr.alloc)⟩

theorem rhead_ok (count n : Int) (A : Option Addr) (c : Nat) (L : List Rp) (w : World) (h : ROwn w (.slice A L.length c) L) (hl : L.length ≤ 1000) (h0 : 0 ≤ n) (h1 : n < count) (i : Nat) (m s g : Int) (hf : findL L n = i) (hi : L[i]? = some (m, s, g)) :
    Calls Tryd.prog 20 #[rtab count (.slice A L.length c), .int .i64 n] w fun e w' => e = .returned (.tuple #[.agg #[.int .i64 s, .int .i64 g], .int .i64 0]) ∧ Fr none_ w w' := by
  have hil : i < L.length := (List.getElem?_eq_some_iff.1 hi).1
  obtain ⟨b, rfl, hb, hcl⟩ := rown_cell h (by omega)
  obtain ⟨_, d1, d2⟩ := hcl i _ hi
  have H := hid_ h
  have Hf := hid_ hf
  have Hg := hid_ (show 0 ≤ findL L n by omega)
  clear h hf hcl hi
  go_enter Tryd.func20, Tryd.ntmps20
  go_wp2_with fail
  refine (why_ok count n _ c L _ (own_none H.out (by repeat (first | exact Fr.refl _ _ | apply Fr.drew | apply Fr.alloc))) hl h0 h1 Hg.out).mono ?_
  rintro e w1 ⟨rfl, hw1⟩
  have f1 : Fr none_ ((w.alloc (rbox count (.slice (some ⟨b, 0, none⟩) L.length c))).alloc (.cells #[.int .i64 0, .int .i64 0] 32)) w1 := by
    rw [hw1]; repeat (first | exact Fr.refl _ _ | apply Fr.alloc)
  have f0 : Fr none_ w w1 := (((Fr.refl none_ w).alloc _).alloc _).then_none f1
  have k2 := ((Blk.new w 28 #[.int .i64 count, .slice (some ⟨b, 0, none⟩) L.length c]).alloc (.cells #[.int .i64 0, .int .i64 0] 32)).fr f1 id
  have k4 := (Blk.new (w.alloc (rbox count (.slice (some ⟨b, 0, none⟩) L.length c))) 32 #[.int .i64 0, .int .i64 0]).fr f1 id
  rw [World.size_alloc] at k4
  have c20 : w1.cell? ⟨w.heap.size, 0, none⟩ = some (.int .i64 count) := k2.cell' rfl
  have c21 : w1.cell? ⟨w.heap.size, 1, none⟩ = some (.slice (some ⟨b, 0, none⟩) L.length c) := k2.cell' rfl
  have c40 : w1.cell? ⟨w.heap.size + 1, 0, none⟩ = some (.int .i64 0) := k4.cell' rfl
  have c41 : w1.cell? ⟨w.heap.size + 1, 1, none⟩ = some (.int .i64 0) := k4.cell' rfl
  have z40 := k4.frozen 0
  have z41 := k4.frozen 1
  have e1 : w1.cell? ⟨b, i * 3 + 1, none⟩ = some (.int .i64 s) := (f0.below0.cell (p := ⟨b, i * 3 + 1, none⟩) hb).trans d1
  have e2 : w1.cell? ⟨b, i * 3 + 1 + 1, none⟩ = some (.int .i64 g) := (f0.below0.cell (p := ⟨b, i * 3 + 1 + 1, none⟩) hb).trans d2
  have H1 := hid_ (own_none H.out f0)
  have F1 := hid_ f0
  have K4 := hid_ k4
  have hz2 := k2.lt
  have hz4 := k4.lt
  have hi0 : (0 : Int) ≤ (i : Int) := Int.natCast_nonneg _
  have hi1 : (i : Int) < (L.length : Int) := by omega
  have n1 := World.new_ne w1 ⟨b, i * 3 + 1, none⟩ e1
  have n2 := World.new_ne w1 ⟨w.heap.size, 0, none⟩ c20
  have n4 := World.new_ne w1 ⟨w.heap.size + 1, 0, none⟩ c40
  have hbz : b < w1.heap.size := by omega
  have hbn : b ≠ w.heap.size + 1 := by omega
  have hbn2 : w.heap.size + 1 ≠ b := by omega
  clear f0 f1 hw1 k2 k4 d1 d2
  go_wp2_with fail
  go_region_held3 (fun w' => w'.cell? ⟨w.heap.size, 0, none⟩ = some (.int .i64 count) ∧ w'.cell? ⟨w.heap.size, 1, none⟩ = some (.slice (some ⟨b, 0, none⟩) L.length c) ∧ w'.cell? ⟨b, i * 3 + 1, none⟩ = some (.int .i64 s) ∧ w'.cell? ⟨b, i * 3 + 1 + 1, none⟩ = some (.int .i64 g)) (go_keep)
    (first | (go_at_call 25; refine (find_any count n _ c L _ ?_ hl).mono ?_; (exact own_none H1.out (by repeat (first | exact Fr.refl _ _ | apply Fr.drew | apply Fr.alloc))); rintro e w' ⟨rfl, rfl⟩; rw [Hf.out]))
  all_goals go_wp2
  have q := (((K4.out.set_ 0 (.int .i64 s)).set_ 1 (.int .i64 g)).alloc (rbox count (.slice (some ⟨b, 0, none⟩) L.length c))).drew
  have q0 := q.cell' (i := 0) rfl
  have q1 := q.cell' (i := 1) rfl
  clear q c40 c41 z40 z41
  refine bodyPost_ret (v := .tuple #[.agg #[.int .i64 s, .int .i64 g], .int .i64 0]) ?_ rfl ⟨rfl, ?_⟩
  · simp [results, Tryd.results20, go_sem, q0, q1]
  · repeat (first | exact F1.out | apply Fr.drew | apply Fr.alloc | refine Fr.setCell ?_ (.inr (by simp)) _)
end Go.Proofs.YtnlpnbllnddaaaaDoor

/- PageErrors returns true for every n. Conditions: none. -/
import Derived.Deep.MidRow
import Derived.Deep.QuietTactic
import Derived.Stop.Asserts
import Derived.Test.YtpjbncbmdfmlpaaRows
import Derived.Test.YtpjbncbmdfmlpaaMpA
import Derived.Test.YtpjbncbmdfmlpaaMpB
import Derived.Test.YtpjbncbmdfmlpaaMpD
import Derived.Test.YtpjbncbmdfmlpaaMpF
namespace Go.Proofs.Ytpjbncbmdfmlpaa
open Go.RowKit Go.BigFrame
set_option maxRecDepth 100000
set_option linter.unusedVariables false

/-- The view in its box, behind the records from k on. -/
structure FoldSt (w : World) (L : List Ch) (X k : Nat) (V : Vw) (A : Option Addr) (c : Nat) (wr : World) : Prop where
  fo : foldU ((L.drop k).map (·.R)) = some V
  bx : Blk wr X 43 (vwA V (.slice A V.ents.length c))
  bo : Blk wr w.heap.size 43 (vwA Vw.zero (.slice none 0 0))
  vin : VwIn wr V A c
  held : HeldOk V
  len : V.ents.length + k ≤ 500 + L.length
  fr : Fr none_ w wr
def FoldCut (w : World) (L : List Ch) (X j : Nat) (bb : Bool) (wq : World) : Prop :=
  (bb = true ∧ ∃ (V : Vw) (A : Option Addr) (c : Nat), FoldSt w L X j V A c wq) ∨ (bb = false ∧ foldU ((L.drop j).map (·.R)) = none ∧ Blk wq w.heap.size 43 (vwA Vw.zero (.slice none 0 0)) ∧ Fr none_ w wq)
set_option maxHeartbeats 8000000 in
theorem fold_ok (A : Option Addr) (n cap : Nat) (L : List Ch) (w : World) (h : ChReads w A n L) (hn : n ≤ 400) (hs : ∀ C ∈ L, C.R.ents.length ≤ 500) :
    Calls Try.prog 60 #[.slice A n cap] w (FoldPost (L.map (·.R)) w) := by
  have hln := h.1
  obtain ⟨w0, hw0⟩ : ∃ w0, w0 = w.alloc (.cells (vwA Vw.zero (.slice none 0 0)) 43) := ⟨_, rfl⟩
  have f0 : Fr none_ w w0 := by rw [hw0]; exact (Fr.refl none_ w).alloc _
  have BO : Hid (Blk w0 w.heap.size 43 (vwA Vw.zero (.slice none 0 0))) := hid_ (by rw [hw0]; exact Blk.new w _ _)
  have F0 := hid_ f0
  have H := hid_ h
  have HS := hid_ hs
  have hsz0 : w.heap.size < w0.heap.size := BO.out.lt
  clear h f0 hs
  go_enter Try.func60, Try.ntmps60
  go_wp2_with fail
  change Code.wp _ _ _ _ (w.alloc (.cells (vwA Vw.zero (.slice none 0 0)) 43))
  rw [← hw0]
  clear hw0
  go_loopw [13] (fun i wr => ∃ k : Nat, k ≤ n ∧ i = .int .i64 k ∧ (∀ (j : Nat) C, j < k → L[j]? = some C → KindOk C.R) ∧ Fr none_ w0 wr) (fun i _ => n - (intOf i).toNat)
  case atStart => exact ⟨0, Nat.zero_le _, rfl, fun j C hj => by omega, Fr.refl _ _⟩
  case round =>
    obtain ⟨k, hk, rfl, hall, hF⟩ := hrel
    have HA := hid_ hall
    have F := hid_ hF
    clear hall hF
    have hi0 : (0 : Int) ≤ (k : Int) := Int.natCast_nonneg _
    by_cases hlt : k < n
    · obtain ⟨C, hC⟩ : ∃ C, L[k]? = some C := ⟨_, List.getElem?_eq_getElem (by omega)⟩
      obtain ⟨b, off, rfl, hb, hR, hO⟩ := (H.out.keep (F0.out.then_none F.out)).at_ hC
      have hi1 : (k : Int) < (n : Int) := by omega
      have HR := hid_ hR
      have HC := hid_ hC
      clear hR hO hC
      go_upto_region 4 with (first | (refine wpList_load_mid rfl 58 (.tmp 15) rfl b (off + k * 15) rfl (recL C) _ HR.out Try.underlying58 rfl rec_size8 ?_) | (refine wpList_store_mid rfl 58 (.tmp 5) (.tmp 16) rfl wr.heap.size 0 (recL C).toArray rfl rfl (new_there wr _ recZ8) rec_size8 (rec_one C) ?_; obtain ⟨w1, hw1⟩ : ∃ w1, w1 = (wr.alloc (.cells recZ8 58)).setCells wr.heap.size 0 (recL C) := ⟨_, rfl⟩; change wpList _ _ _ _ _ ((wr.alloc (.cells recZ8 58)).setCells wr.heap.size 0 (recL C)); rw [← hw1]; have P1 : Hid (Blk w1 wr.heap.size 58 (recL C).toArray ∧ Fr none_ wr w1) := hid_ (by rw [hw1]; exact new_copy wr _ recZ8 _ rfl); clear hw1))
      have BO1 := hid_ (BO.out.fr (F.out.then_none P1.out.2) id)
      have F1 := hid_ (F0.out.then_none (F.out.then_none P1.out.2))
      have c0 : w1.cell? ⟨wr.heap.size, 0, none⟩ = some (.int .i64 C.R.kind) := P1.out.1.cell' rfl
      have s0 : w1.cell? ⟨w.heap.size, 0, none⟩ = some (.string nilS) := BO1.out.cell' rfl
      have z0 := BO1.out.frozen 0
      have s1 : w1.cell? ⟨w.heap.size, 1, none⟩ = some (.string nilS) := BO1.out.cell' rfl
      have z1 := BO1.out.frozen 1
      have s2 : w1.cell? ⟨w.heap.size, 2, none⟩ = some (.bool false) := BO1.out.cell' rfl
      have z2 := BO1.out.frozen 2
      have s3 : w1.cell? ⟨w.heap.size, 3, none⟩ = some (.int .i64 0) := BO1.out.cell' rfl
      have z3 := BO1.out.frozen 3
      have s4 : w1.cell? ⟨w.heap.size, 4, none⟩ = some (.slice none 0 0) := BO1.out.cell' rfl
      have z4 := BO1.out.frozen 4
      have s5 : w1.cell? ⟨w.heap.size, 5, none⟩ = some (.bool false) := BO1.out.cell' rfl
      have z5 := BO1.out.frozen 5
      have s6 : w1.cell? ⟨w.heap.size, 6, none⟩ = some (.int .i64 0) := BO1.out.cell' rfl
      have z6 := BO1.out.frozen 6
      have s7 : w1.cell? ⟨w.heap.size, 7, none⟩ = some (.int .i64 0) := BO1.out.cell' rfl
      have z7 := BO1.out.frozen 7
      have s8 : w1.cell? ⟨w.heap.size, 8, none⟩ = some (.string nilS) := BO1.out.cell' rfl
      have z8 := BO1.out.frozen 8
      by_cases h7 : C.R.kind < 7
      · have hno : ¬ ∀ R ∈ L.map (·.R), KindOk R := fun hh => by
          have := (hh C.R (List.mem_map.2 ⟨C, List.mem_of_getElem? HC.out, rfl⟩)).1
          omega
        have HNO := hid_ hno
        clear hno
        go_wp2_with fail
        clear s0 z0 s1 z1 s2 z2 s3 z3 s4 z4 s5 z5 s6 z6 s7 z7 s8 z8
        obtain ⟨qb, qf⟩ := box9 BO1.out (.string nilS) (.string nilS) (.bool false) (.int .i64 0) (.slice none 0 0) (.bool false) (.int .i64 0) (.int .i64 0) (.string nilS)
        have q0 := qb.cell' (i := 0) rfl
        have q1 := qb.cell' (i := 1) rfl
        have q2 := qb.cell' (i := 2) rfl
        have q3 := qb.cell' (i := 3) rfl
        have q4 := qb.cell' (i := 4) rfl
        have q5 := qb.cell' (i := 5) rfl
        have q6 := qb.cell' (i := 6) rfl
        have q7 := qb.cell' (i := 7) rfl
        have q8 := qb.cell' (i := 8) rfl
        refine bodyPost_ret (v := .tuple #[vwV Vw.zero (.slice none 0 0), errV 9]) ?_ rfl (.inr ⟨9, .inl rfl, fun hh => absurd hh HNO.out, rfl, F1.out.then_only qf (.inr (Nat.le_refl _))⟩)
        simp [results, Try.results60, go_sem, Vw.zero, q0, q1, q2, q3, q4, q5, q6, q7, q8]
      by_cases h11 : 11 < C.R.kind
      · have hno : ¬ ∀ R ∈ L.map (·.R), KindOk R := fun hh => by
          have := (hh C.R (List.mem_map.2 ⟨C, List.mem_of_getElem? HC.out, rfl⟩)).2
          omega
        have HNO := hid_ hno
        clear hno
        go_wp2_with fail
        clear s0 z0 s1 z1 s2 z2 s3 z3 s4 z4 s5 z5 s6 z6 s7 z7 s8 z8
        obtain ⟨qb, qf⟩ := box9 BO1.out (.string nilS) (.string nilS) (.bool false) (.int .i64 0) (.slice none 0 0) (.bool false) (.int .i64 0) (.int .i64 0) (.string nilS)
        have q0 := qb.cell' (i := 0) rfl
        have q1 := qb.cell' (i := 1) rfl
        have q2 := qb.cell' (i := 2) rfl
        have q3 := qb.cell' (i := 3) rfl
        have q4 := qb.cell' (i := 4) rfl
        have q5 := qb.cell' (i := 5) rfl
        have q6 := qb.cell' (i := 6) rfl
        have q7 := qb.cell' (i := 7) rfl
        have q8 := qb.cell' (i := 8) rfl
        refine bodyPost_ret (v := .tuple #[vwV Vw.zero (.slice none 0 0), errV 9]) ?_ rfl (.inr ⟨9, .inl rfl, fun hh => absurd hh HNO.out, rfl, F1.out.then_only qf (.inr (Nat.le_refl _))⟩)
        simp [results, Try.results60, go_sem, Vw.zero, q0, q1, q2, q3, q4, q5, q6, q7, q8]
      · go_wp2_with fail
        go_roundw
        case rel => exact ⟨k + 1, by omega, by go_num, fun j C' hj hC' => by
          rcases Nat.lt_succ_iff_lt_or_eq.1 hj with hj | rfl
          · exact HA.out j C' hj hC'
          · rw [HC.out] at hC'; cases hC'; exact ⟨by omega, by omega⟩, F.out.then_none P1.out.2⟩
        case measure => simp [intOf]; omega
    · obtain rfl : k = n := by omega
      have HK : Hid (∀ R ∈ L.map (·.R), KindOk R) := hid_ (fun R hR => by
        obtain ⟨C, hC, rfl⟩ := List.mem_map.1 hR
        obtain ⟨j, hj, e⟩ := List.mem_iff_getElem.1 hC
        exact HA.out j C (by omega) (by rw [List.getElem?_eq_getElem hj, e]))
      have F1 := hid_ (F0.out.then_none F.out)
      have BO1 := hid_ (BO.out.fr F.out id)
      have hsz1 := F.out.size
      clear HA hlt hi0 BO F0
      by_cases hk0 : k = 0
      · have hno : foldU (L.map (·.R)) = none := by rw [List.eq_nil_of_length_eq_zero (by omega : L.length = 0)]; rfl
        have HNO := hid_ hno
        subst hk0
        clear hno
        have s0 : wr.cell? ⟨w.heap.size, 0, none⟩ = some (.string nilS) := BO1.out.cell' rfl
        have z0 := BO1.out.frozen 0
        have s1 : wr.cell? ⟨w.heap.size, 1, none⟩ = some (.string nilS) := BO1.out.cell' rfl
        have z1 := BO1.out.frozen 1
        have s2 : wr.cell? ⟨w.heap.size, 2, none⟩ = some (.bool false) := BO1.out.cell' rfl
        have z2 := BO1.out.frozen 2
        have s3 : wr.cell? ⟨w.heap.size, 3, none⟩ = some (.int .i64 0) := BO1.out.cell' rfl
        have z3 := BO1.out.frozen 3
        have s4 : wr.cell? ⟨w.heap.size, 4, none⟩ = some (.slice none 0 0) := BO1.out.cell' rfl
        have z4 := BO1.out.frozen 4
        have s5 : wr.cell? ⟨w.heap.size, 5, none⟩ = some (.bool false) := BO1.out.cell' rfl
        have z5 := BO1.out.frozen 5
        have s6 : wr.cell? ⟨w.heap.size, 6, none⟩ = some (.int .i64 0) := BO1.out.cell' rfl
        have z6 := BO1.out.frozen 6
        have s7 : wr.cell? ⟨w.heap.size, 7, none⟩ = some (.int .i64 0) := BO1.out.cell' rfl
        have z7 := BO1.out.frozen 7
        have s8 : wr.cell? ⟨w.heap.size, 8, none⟩ = some (.string nilS) := BO1.out.cell' rfl
        have z8 := BO1.out.frozen 8
        go_wp2_with fail
        clear s0 z0 s1 z1 s2 z2 s3 z3 s4 z4 s5 z5 s6 z6 s7 z7 s8 z8
        obtain ⟨qb, qf⟩ := box9 BO1.out (.string nilS) (.string nilS) (.bool false) (.int .i64 0) (.slice none 0 0) (.bool false) (.int .i64 0) (.int .i64 0) (.string nilS)
        have q0 := qb.cell' (i := 0) rfl
        have q1 := qb.cell' (i := 1) rfl
        have q2 := qb.cell' (i := 2) rfl
        have q3 := qb.cell' (i := 3) rfl
        have q4 := qb.cell' (i := 4) rfl
        have q5 := qb.cell' (i := 5) rfl
        have q6 := qb.cell' (i := 6) rfl
        have q7 := qb.cell' (i := 7) rfl
        have q8 := qb.cell' (i := 8) rfl
        refine bodyPost_ret (v := .tuple #[vwV Vw.zero (.slice none 0 0), errV 10]) ?_ rfl (.inr ⟨10, .inr rfl, fun _ => HNO.out, rfl, F1.out.then_only qf (.inr (Nat.le_refl _))⟩)
        simp [results, Try.results60, go_sem, Vw.zero, q0, q1, q2, q3, q4, q5, q6, q7, q8]
      obtain ⟨m, rfl⟩ : ∃ m, k = m + 1 := ⟨k - 1, by omega⟩
      obtain ⟨D, hD⟩ : ∃ D, L[m]? = some D := ⟨_, List.getElem?_eq_getElem (by omega)⟩
      obtain ⟨b, off, rfl, hb, hR, hO⟩ := (H.out.keep F1.out).at_ hD
      have HD := hid_ hD
      have HR := hid_ hR
      have HO := hid_ hO
      have hDs : D.R.ents.length ≤ 500 := HS.out D (List.mem_of_getElem? hD)
      have hDm : (L.map (·.R))[m]? = some D.R := by rw [List.getElem?_map, hD]; rfl
      have hLD : (L.map (·.R)).drop m = [D.R] := foldU_last (by rw [List.length_map]; omega) hDm
      have HLD := hid_ hLD
      have hi0 : (0 : Int) ≤ (m : Int) := Int.natCast_nonneg _
      have hi1 : (m : Int) < ((m + 1 : Nat) : Int) := by omega
      have hi2 : (m : Int) < (m : Int) + 1 := by omega
      have hw1 : IntKind.i64.wrap ((m : Int) + 1 - 1) = (m : Int) := by rw [show (m : Int) + 1 - 1 = (m : Int) by omega]; exact IntWalk.i64_in _ (by omega)
      have k0 : wr.cell? ⟨b, off + m * 15, none⟩ = some (.int .i64 D.R.kind) := HR.out 0 _ rfl
      clear hD hR hO hDm hLD hk0
      by_cases h7 : D.R.kind = 7
      case neg =>
        have hno : foldU (L.map (·.R)) = none := by
          have := foldU_none (l := L.map (·.R)) (j := m) (by rw [List.length_map]; omega) (by rw [HLD.out]; exact foldU_one_no _ (fun h => h7 h.1)) 0 (Nat.zero_le _)
          simpa using this
        have HNO := hid_ hno
        have h7' : (D.R.kind != 7) = true := by simpa using h7
        clear hno h7
        have s0 : wr.cell? ⟨w.heap.size, 0, none⟩ = some (.string nilS) := BO1.out.cell' rfl
        have z0 := BO1.out.frozen 0
        have s1 : wr.cell? ⟨w.heap.size, 1, none⟩ = some (.string nilS) := BO1.out.cell' rfl
        have z1 := BO1.out.frozen 1
        have s2 : wr.cell? ⟨w.heap.size, 2, none⟩ = some (.bool false) := BO1.out.cell' rfl
        have z2 := BO1.out.frozen 2
        have s3 : wr.cell? ⟨w.heap.size, 3, none⟩ = some (.int .i64 0) := BO1.out.cell' rfl
        have z3 := BO1.out.frozen 3
        have s4 : wr.cell? ⟨w.heap.size, 4, none⟩ = some (.slice none 0 0) := BO1.out.cell' rfl
        have z4 := BO1.out.frozen 4
        have s5 : wr.cell? ⟨w.heap.size, 5, none⟩ = some (.bool false) := BO1.out.cell' rfl
        have z5 := BO1.out.frozen 5
        have s6 : wr.cell? ⟨w.heap.size, 6, none⟩ = some (.int .i64 0) := BO1.out.cell' rfl
        have z6 := BO1.out.frozen 6
        have s7 : wr.cell? ⟨w.heap.size, 7, none⟩ = some (.int .i64 0) := BO1.out.cell' rfl
        have z7 := BO1.out.frozen 7
        have s8 : wr.cell? ⟨w.heap.size, 8, none⟩ = some (.string nilS) := BO1.out.cell' rfl
        have z8 := BO1.out.frozen 8
        go_wp2_with fail
        clear s0 z0 s1 z1 s2 z2 s3 z3 s4 z4 s5 z5 s6 z6 s7 z7 s8 z8
        obtain ⟨qb, qf⟩ := box9 BO1.out (.string nilS) (.string nilS) (.bool false) (.int .i64 0) (.slice none 0 0) (.bool false) (.int .i64 0) (.int .i64 0) (.string nilS)
        have q0 := qb.cell' (i := 0) rfl
        have q1 := qb.cell' (i := 1) rfl
        have q2 := qb.cell' (i := 2) rfl
        have q3 := qb.cell' (i := 3) rfl
        have q4 := qb.cell' (i := 4) rfl
        have q5 := qb.cell' (i := 5) rfl
        have q6 := qb.cell' (i := 6) rfl
        have q7 := qb.cell' (i := 7) rfl
        have q8 := qb.cell' (i := 8) rfl
        refine bodyPost_ret (v := .tuple #[vwV Vw.zero (.slice none 0 0), errV 10]) ?_ rfl (.inr ⟨10, .inr rfl, fun _ => HNO.out, rfl, F1.out.then_only qf (.inr (Nat.le_refl _))⟩)
        simp [results, Try.results60, go_sem, Vw.zero, q0, q1, q2, q3, q4, q5, q6, q7, q8]
      have h7' : (D.R.kind != 7) = false := by simpa using h7
      have H7 := hid_ h7
      clear h7
      go_upto_region 11 with (first | (refine wpList_load_mid rfl 58 (.tmp 45) rfl b (off + m * 15) rfl (recL D) _ HR.out Try.underlying58 rfl rec_size8 ?_) | (refine wpList_store_mid rfl 58 (.tmp 7) (.tmp 46) rfl wr.heap.size 0 (recL D).toArray rfl rfl (new_there wr _ recZ8) rec_size8 (rec_one D) ?_; obtain ⟨w1, hw1⟩ : ∃ w1, w1 = (wr.alloc (.cells recZ8 58)).setCells wr.heap.size 0 (recL D) := ⟨_, rfl⟩; change wpList _ _ _ _ _ ((wr.alloc (.cells recZ8 58)).setCells wr.heap.size 0 (recL D)); rw [← hw1]; have P1 : Hid (Blk w1 wr.heap.size 58 (recL D).toArray ∧ Fr none_ wr w1) := hid_ (by rw [hw1]; exact new_copy wr _ recZ8 _ rfl); clear hw1))
      go_frame
      have BO2 := hid_ (BO1.out.fr P1.out.2 id)
      have F2 := hid_ (F1.out.then_none P1.out.2)
      have HO2 := hid_ (HO.out.keep P1.out.2)
      have hsz2 := P1.out.2.size
      go_cut [8] (fun v wq => ∃ X A' c', v = .pointer (some ⟨X, 0, none⟩) ∧ w.heap.size < X ∧ Blk wq X 43 (vwA (baseV D.R) (.slice A' D.R.ents.length c')) ∧ VwIn wq (baseV D.R) A' c' ∧ Fr none_ w1 wq)
      case first =>
        have g1 : w1.cell? ⟨wr.heap.size, 1, none⟩ = some (.string D.R.low) := P1.out.1.cell' rfl
        have g2 : w1.cell? ⟨wr.heap.size, 2, none⟩ = some (.string D.R.high) := P1.out.1.cell' rfl
        have g3 : w1.cell? ⟨wr.heap.size, 3, none⟩ = some (.bool D.R.unb) := P1.out.1.cell' rfl
        have g4 : w1.cell? ⟨wr.heap.size, 4, none⟩ = some (.int .i64 D.R.right) := P1.out.1.cell' rfl
        have g6 : w1.cell? ⟨wr.heap.size, 6, none⟩ = some (.slice D.B D.R.ents.length D.d) := P1.out.1.cell' rfl
        have hS0 : (fun w' : World => Fr none_ w1 w') w1.drew := (Fr.refl none_ w1).drew
        refine wp_region_T (m := 14) (S := fun w' : World => Fr none_ w1 w') (by kernel_rfl) ?_
        refine wpAnyT_take2 (i := 0) (v := _) rfl (by kernel_rfl) (by kernel_rfl) (by kernel_rfl) (by kernel_rfl) (fun _ _ _ h => h) (.inl ⟨by simp [Region.wanted], fun w' hS => by have s_g1 := cellFr g1 hS; have s_g2 := cellFr g2 hS; have s_g3 := cellFr g3 hS; have s_g4 := cellFr g4 hS; have s_g6 := cellFr g6 hS; go_simp; rfl⟩) hS0 ?_
        refine wpAnyT_take2 (i := 1) (v := _) rfl (by kernel_rfl) (by kernel_rfl) (by kernel_rfl) (by kernel_rfl) (fun _ _ _ h => h) (.inl ⟨by simp [Region.wanted], fun w' hS => by have s_g1 := cellFr g1 hS; have s_g2 := cellFr g2 hS; have s_g3 := cellFr g3 hS; have s_g4 := cellFr g4 hS; have s_g6 := cellFr g6 hS; go_simp; rfl⟩) hS0 ?_
        refine wpAnyT_take2 (i := 2) (v := _) rfl (by kernel_rfl) (by kernel_rfl) (by kernel_rfl) (by kernel_rfl) (fun _ _ _ h => h) (.inl ⟨by simp [Region.wanted], fun w' hS => by have s_g1 := cellFr g1 hS; have s_g2 := cellFr g2 hS; have s_g3 := cellFr g3 hS; have s_g4 := cellFr g4 hS; have s_g6 := cellFr g6 hS; go_simp; rfl⟩) hS0 ?_
        refine wpAnyT_take2 (i := 3) (v := _) rfl (by kernel_rfl) (by kernel_rfl) (by kernel_rfl) (by kernel_rfl) (fun _ _ _ h => h) (.inl ⟨by simp [Region.wanted], fun w' hS => by have s_g1 := cellFr g1 hS; have s_g2 := cellFr g2 hS; have s_g3 := cellFr g3 hS; have s_g4 := cellFr g4 hS; have s_g6 := cellFr g6 hS; go_simp; rfl⟩) hS0 ?_
        refine wpAnyT_take2 (i := 4) (v := _) rfl (by kernel_rfl) (by kernel_rfl) (by kernel_rfl) (by kernel_rfl) (fun _ _ _ h => h) (.inl ⟨by simp [Region.wanted], fun w' hS => by have s_g1 := cellFr g1 hS; have s_g2 := cellFr g2 hS; have s_g3 := cellFr g3 hS; have s_g4 := cellFr g4 hS; have s_g6 := cellFr g6 hS; go_simp; rfl⟩) hS0 ?_
        refine wpAnyT_take2 (i := 5) (v := _) rfl (by kernel_rfl) (by kernel_rfl) (by kernel_rfl) (by kernel_rfl) (fun _ _ _ h => h) (.inl ⟨by simp [Region.wanted], fun w' hS => by have s_g1 := cellFr g1 hS; have s_g2 := cellFr g2 hS; have s_g3 := cellFr g3 hS; have s_g4 := cellFr g4 hS; have s_g6 := cellFr g6 hS; go_simp; rfl⟩) hS0 ?_
        refine wpAnyT_take2 (i := 6) (v := _) rfl (by kernel_rfl) (by kernel_rfl) (by kernel_rfl) (by kernel_rfl) (fun _ _ _ h => h) (.inl ⟨by simp [Region.wanted], fun w' hS => by have s_g1 := cellFr g1 hS; have s_g2 := cellFr g2 hS; have s_g3 := cellFr g3 hS; have s_g4 := cellFr g4 hS; have s_g6 := cellFr g6 hS; go_simp; rfl⟩) hS0 ?_
        refine wpAnyT_take2 (i := 7) (v := _) rfl (by kernel_rfl) (by kernel_rfl) (by kernel_rfl) (by kernel_rfl) (fun _ _ _ h => h) (.inl ⟨by simp [Region.wanted], fun w' hS => by have s_g1 := cellFr g1 hS; have s_g2 := cellFr g2 hS; have s_g3 := cellFr g3 hS; have s_g4 := cellFr g4 hS; have s_g6 := cellFr g6 hS; go_simp; rfl⟩) hS0 ?_
        refine wpAnyT_take2 (i := 8) (v := _) rfl (by kernel_rfl) (by kernel_rfl) (by kernel_rfl) (by kernel_rfl) (fun _ _ _ h => h) (.inl ⟨by simp [Region.wanted], fun w' hS => by have s_g1 := cellFr g1 hS; have s_g2 := cellFr g2 hS; have s_g3 := cellFr g3 hS; have s_g4 := cellFr g4 hS; have s_g6 := cellFr g6 hS; go_simp; rfl⟩) hS0 ?_
        refine wpAnyT_take2 (i := 9) (v := _) rfl (by kernel_rfl) (by kernel_rfl) (by kernel_rfl) (by kernel_rfl) (fun _ _ _ h => h) (.inl ⟨by simp [Region.wanted], fun w' hS => by have s_g1 := cellFr g1 hS; have s_g2 := cellFr g2 hS; have s_g3 := cellFr g3 hS; have s_g4 := cellFr g4 hS; have s_g6 := cellFr g6 hS; go_simp; rfl⟩) hS0 ?_
        refine wpAnyT_two (i := 10) (j := 13) rfl rfl rfl rfl (by kernel_rfl) ?_ ?_
        · go_simp
          refine ⟨(by repeat (first | exact Fr.refl none_ w1 | apply Fr.drew | apply Fr.alloc)), ?_⟩
          refine wpAnyT_two (i := 11) (j := 13) rfl rfl rfl rfl (by kernel_rfl) ?_ ?_
          · skip
            go_simp
            obtain ⟨w3, hw3⟩ : ∃ w3, w3 = (w1.alloc (.cells #[.slice D.B D.R.ents.length D.d] 39)).drew := ⟨_, rfl⟩
            have f3 : Fr none_ w1 w3 := by rw [hw3]; exact (by repeat (first | exact Fr.refl none_ w1 | apply Fr.drew | apply Fr.alloc))
            have B3 : Hid (Blk w3 (w1.heap.size) 39 #[.slice D.B D.R.ents.length D.d]) := hid_ (by rw [hw3]; exact (Blk.new w1 _ _).drew)
            have hws := f3.size
            have RD := hid_ (HO2.out.rd.e.none_fr f3)
            have F3 := hid_ f3
            rw [← hw3]
            clear hw3 f3
            refine (joined_ok (w1.heap.size) [(D.B, D.d, D.R.ents)] w3 ?_ ?_ ?_ ?_).mono ?_
            · intro i x hx
              match i, hx with
              | 0, hx => cases hx; rw [B3.out.cell]; rfl
              | k + 1, hx => simp at hx
            · intro x hx
              obtain rfl : x = (D.B, D.d, D.R.ents) := by simpa using hx
              exact RD.out
            · simp [ptL]; omega
            · simp
            rintro e w4 ⟨A', c', rfl, ho, hf4⟩
            rw [show ptL [(D.B, D.d, D.R.ents)] = D.R.ents by simp [ptL]] at ho ⊢
            have O4 := hid_ ho
            have F4 := hid_ (F3.out.then_none hf4)
            have hs4 := hf4.size
            clear ho hf4 B3 RD
            refine ⟨F4.out, ?_⟩
            refine wpAnyT_take2 (i := 12) (v := _) rfl (by kernel_rfl) (by kernel_rfl) (by kernel_rfl) (by kernel_rfl) (fun _ _ _ h => h) (.inl ⟨by simp [Region.wanted], fun w' hS => by skip; go_simp; rfl⟩) F4.out ?_
            refine wpAnyT_one (i := 13) rfl rfl (by kernel_rfl) ?_
            go_simp
            obtain ⟨w5, hw5⟩ : ∃ w5, w5 = w4.alloc (.cells #[.string ⟨#[]⟩, .string ⟨#[]⟩, .bool false, .int .i64 0, .slice none 0 0, .bool false, .int .i64 0, .int .i64 0, .string ⟨#[]⟩] 43) := ⟨_, rfl⟩
            have X5 : Hid (Blk w5 w4.heap.size 43 (vwA Vw.zero (.slice none 0 0))) := hid_ (by rw [hw5]; exact Blk.new w4 _ _)
            have F5 : Hid (Fr none_ w1 w5) := hid_ (by rw [hw5]; exact F4.out.alloc _)
            have O5 := hid_ (own_none O4.out (by rw [hw5]; exact (Fr.refl none_ w4).alloc (.cells #[.string ⟨#[]⟩, .string ⟨#[]⟩, .bool false, .int .i64 0, .slice none 0 0, .bool false, .int .i64 0, .int .i64 0, .string ⟨#[]⟩] 43) : Fr none_ w4 w5))
            rw [← hw5]
            clear hw5
            refine ⟨F5.out, ?_⟩
            have s0 : w5.cell? ⟨w4.heap.size, 0, none⟩ = some (.string nilS) := X5.out.cell' rfl
            have z0 := X5.out.frozen 0
            have s1 : w5.cell? ⟨w4.heap.size, 1, none⟩ = some (.string nilS) := X5.out.cell' rfl
            have z1 := X5.out.frozen 1
            have s2 : w5.cell? ⟨w4.heap.size, 2, none⟩ = some (.bool false) := X5.out.cell' rfl
            have z2 := X5.out.frozen 2
            have s3 : w5.cell? ⟨w4.heap.size, 3, none⟩ = some (.int .i64 0) := X5.out.cell' rfl
            have z3 := X5.out.frozen 3
            have s4 : w5.cell? ⟨w4.heap.size, 4, none⟩ = some (.slice none 0 0) := X5.out.cell' rfl
            have z4 := X5.out.frozen 4
            have s5 : w5.cell? ⟨w4.heap.size, 5, none⟩ = some (.bool false) := X5.out.cell' rfl
            have z5 := X5.out.frozen 5
            have s6 : w5.cell? ⟨w4.heap.size, 6, none⟩ = some (.int .i64 0) := X5.out.cell' rfl
            have z6 := X5.out.frozen 6
            have s7 : w5.cell? ⟨w4.heap.size, 7, none⟩ = some (.int .i64 0) := X5.out.cell' rfl
            have z7 := X5.out.frozen 7
            have s8 : w5.cell? ⟨w4.heap.size, 8, none⟩ = some (.string nilS) := X5.out.cell' rfl
            have z8 := X5.out.frozen 8
            refine wpAnyT_one (i := 14) rfl rfl (by kernel_rfl) ?_
            go_simp
            refine wpAnyT_done (by kernel_rfl) ?_ _
            clear s0 z0 s1 z1 s2 z2 s3 z3 s4 z4 s5 z5 s6 z6 s7 z7 s8 z8
            obtain ⟨qb, qf⟩ := box9 X5.out (.string D.R.low) (.string D.R.high) (.bool D.R.unb) (.int .i64 D.R.right) (.slice A' D.R.ents.length c') (.bool false) (.int .i64 0) (.int .i64 0) (.string nilS)
            have hvin := vin_of_own (V := baseV D.R) (own_fr O5.out qf (fun k hk e => own_blk_ne O5.out X5.out (by decide) (by rw [hk, show k = w4.heap.size from e]))) rfl ⟨HO.out.low, HO.out.high, SzOk.nil, HO.out.ents⟩
            have hfr := F5.out.then_only qf (.inr (by omega))
            have HREL := hid_ (And.intro hvin (And.intro qb hfr))
            clear hvin qb qf hfr
            go_wp2
            go_meet
            case rel => exact ⟨_, A', c', rfl, by omega, HREL.out.2.1, HREL.out.1, HREL.out.2.2⟩
          · go_simp
            refine ⟨(by repeat (first | exact Fr.refl none_ w1 | apply Fr.drew | apply Fr.alloc)), ?_⟩
            refine wpAnyT_one (i := 11) rfl rfl (by kernel_rfl) ?_
            go_simp
            obtain ⟨w3, hw3⟩ : ∃ w3, w3 = ((w1.alloc (.cells #[.slice D.B D.R.ents.length D.d] 39)).alloc (.cells #[.string ⟨#[]⟩, .string ⟨#[]⟩, .bool false, .int .i64 0, .slice none 0 0, .bool false, .int .i64 0, .int .i64 0, .string ⟨#[]⟩] 43)).drew := ⟨_, rfl⟩
            have f3 : Fr none_ w1 w3 := by rw [hw3]; exact (by repeat (first | exact Fr.refl none_ w1 | apply Fr.drew | apply Fr.alloc))
            have B3 : Hid (Blk w3 (w1.heap.size) 39 #[.slice D.B D.R.ents.length D.d]) := hid_ (by rw [hw3]; exact ((Blk.new w1 _ _).alloc _).drew)
            have X3 : Hid (Blk w3 (w1.heap.size + 1) 43 (vwA Vw.zero (.slice none 0 0))) := hid_ (by rw [hw3]; exact (by have := Blk.new (w1.alloc (.cells #[.slice D.B D.R.ents.length D.d] 39)) 43 (vwA Vw.zero (.slice none 0 0)); rw [World.size_alloc] at this; exact this.drew))
            have hws := f3.size
            have RD := hid_ (HO2.out.rd.e.none_fr f3)
            have F3 := hid_ f3
            rw [← hw3]
            clear hw3 f3
            refine (joined_ok (w1.heap.size) [(D.B, D.d, D.R.ents)] w3 ?_ ?_ ?_ ?_).mono ?_
            · intro i x hx
              match i, hx with
              | 0, hx => cases hx; rw [B3.out.cell]; rfl
              | k + 1, hx => simp at hx
            · intro x hx
              obtain rfl : x = (D.B, D.d, D.R.ents) := by simpa using hx
              exact RD.out
            · simp [ptL]; omega
            · simp
            rintro e w4 ⟨A', c', rfl, ho, hf4⟩
            rw [show ptL [(D.B, D.d, D.R.ents)] = D.R.ents by simp [ptL]] at ho ⊢
            have O4 := hid_ ho
            have F4 := hid_ (F3.out.then_none hf4)
            have X4 := hid_ (X3.out.fr hf4 id)
            have hs4 := hf4.size
            clear ho hf4 B3 RD
            refine ⟨F4.out, ?_⟩
            refine wpAnyT_take2 (i := 12) (v := _) rfl (by kernel_rfl) (by kernel_rfl) (by kernel_rfl) (by kernel_rfl) (fun _ _ _ h => h) (.inl ⟨by simp [Region.wanted], fun w' hS => by skip; go_simp; rfl⟩) F4.out ?_
            have s0 : w4.cell? ⟨w1.heap.size + 1, 0, none⟩ = some (.string nilS) := X4.out.cell' rfl
            have z0 := X4.out.frozen 0
            have s1 : w4.cell? ⟨w1.heap.size + 1, 1, none⟩ = some (.string nilS) := X4.out.cell' rfl
            have z1 := X4.out.frozen 1
            have s2 : w4.cell? ⟨w1.heap.size + 1, 2, none⟩ = some (.bool false) := X4.out.cell' rfl
            have z2 := X4.out.frozen 2
            have s3 : w4.cell? ⟨w1.heap.size + 1, 3, none⟩ = some (.int .i64 0) := X4.out.cell' rfl
            have z3 := X4.out.frozen 3
            have s4 : w4.cell? ⟨w1.heap.size + 1, 4, none⟩ = some (.slice none 0 0) := X4.out.cell' rfl
            have z4 := X4.out.frozen 4
            have s5 : w4.cell? ⟨w1.heap.size + 1, 5, none⟩ = some (.bool false) := X4.out.cell' rfl
            have z5 := X4.out.frozen 5
            have s6 : w4.cell? ⟨w1.heap.size + 1, 6, none⟩ = some (.int .i64 0) := X4.out.cell' rfl
            have z6 := X4.out.frozen 6
            have s7 : w4.cell? ⟨w1.heap.size + 1, 7, none⟩ = some (.int .i64 0) := X4.out.cell' rfl
            have z7 := X4.out.frozen 7
            have s8 : w4.cell? ⟨w1.heap.size + 1, 8, none⟩ = some (.string nilS) := X4.out.cell' rfl
            have z8 := X4.out.frozen 8
            refine wpAnyT_one (i := 14) rfl rfl (by kernel_rfl) ?_
            go_simp
            refine wpAnyT_done (by kernel_rfl) ?_ _
            clear s0 z0 s1 z1 s2 z2 s3 z3 s4 z4 s5 z5 s6 z6 s7 z7 s8 z8
            obtain ⟨qb, qf⟩ := box9 X4.out (.string D.R.low) (.string D.R.high) (.bool D.R.unb) (.int .i64 D.R.right) (.slice A' D.R.ents.length c') (.bool false) (.int .i64 0) (.int .i64 0) (.string nilS)
            have hvin := vin_of_own (V := baseV D.R) (own_fr O4.out qf (fun k hk e => own_blk_ne O4.out X4.out (by decide) (by rw [hk, show k = w1.heap.size + 1 from e]))) rfl ⟨HO.out.low, HO.out.high, SzOk.nil, HO.out.ents⟩
            have hfr := F4.out.then_only qf (.inr (by omega))
            have HREL := hid_ (And.intro hvin (And.intro qb hfr))
            clear hvin qb qf hfr
            go_wp2
            go_meet
            case rel => exact ⟨_, A', c', rfl, by omega, HREL.out.2.1, HREL.out.1, HREL.out.2.2⟩
        · go_simp
          refine ⟨(by repeat (first | exact Fr.refl none_ w1 | apply Fr.drew | apply Fr.alloc)), ?_⟩
          refine wpAnyT_one (i := 10) rfl rfl (by kernel_rfl) ?_
          go_simp
          refine ⟨(by repeat (first | exact Fr.refl none_ w1 | apply Fr.drew | apply Fr.alloc)), ?_⟩
          refine wpAnyT_one (i := 11) rfl rfl (by kernel_rfl) ?_
          go_simp
          obtain ⟨w3, hw3⟩ : ∃ w3, w3 = ((w1.alloc (.cells #[.string ⟨#[]⟩, .string ⟨#[]⟩, .bool false, .int .i64 0, .slice none 0 0, .bool false, .int .i64 0, .int .i64 0, .string ⟨#[]⟩] 43)).alloc (.cells #[.slice D.B D.R.ents.length D.d] 39)).drew := ⟨_, rfl⟩
          have f3 : Fr none_ w1 w3 := by rw [hw3]; exact (by repeat (first | exact Fr.refl none_ w1 | apply Fr.drew | apply Fr.alloc))
          have B3 : Hid (Blk w3 (w1.heap.size + 1) 39 #[.slice D.B D.R.ents.length D.d]) := hid_ (by rw [hw3]; exact (by have := Blk.new (w1.alloc (.cells #[.string ⟨#[]⟩, .string ⟨#[]⟩, .bool false, .int .i64 0, .slice none 0 0, .bool false, .int .i64 0, .int .i64 0, .string ⟨#[]⟩] 43)) 39 #[.slice D.B D.R.ents.length D.d]; rw [World.size_alloc] at this; exact this.drew))
          have X3 : Hid (Blk w3 (w1.heap.size) 43 (vwA Vw.zero (.slice none 0 0))) := hid_ (by rw [hw3]; exact ((Blk.new w1 _ _).alloc _).drew)
          have hws := f3.size
          have RD := hid_ (HO2.out.rd.e.none_fr f3)
          have F3 := hid_ f3
          rw [← hw3]
          clear hw3 f3
          refine (joined_ok (w1.heap.size + 1) [(D.B, D.d, D.R.ents)] w3 ?_ ?_ ?_ ?_).mono ?_
          · intro i x hx
            match i, hx with
            | 0, hx => cases hx; rw [B3.out.cell]; rfl
            | k + 1, hx => simp at hx
          · intro x hx
            obtain rfl : x = (D.B, D.d, D.R.ents) := by simpa using hx
            exact RD.out
          · simp [ptL]; omega
          · simp
          rintro e w4 ⟨A', c', rfl, ho, hf4⟩
          rw [show ptL [(D.B, D.d, D.R.ents)] = D.R.ents by simp [ptL]] at ho ⊢
          have O4 := hid_ ho
          have F4 := hid_ (F3.out.then_none hf4)
          have X4 := hid_ (X3.out.fr hf4 id)
          have hs4 := hf4.size
          clear ho hf4 B3 RD
          refine ⟨F4.out, ?_⟩
          refine wpAnyT_take2 (i := 12) (v := _) rfl (by kernel_rfl) (by kernel_rfl) (by kernel_rfl) (by kernel_rfl) (fun _ _ _ h => h) (.inl ⟨by simp [Region.wanted], fun w' hS => by skip; go_simp; rfl⟩) F4.out ?_
          have s0 : w4.cell? ⟨w1.heap.size, 0, none⟩ = some (.string nilS) := X4.out.cell' rfl
          have z0 := X4.out.frozen 0
          have s1 : w4.cell? ⟨w1.heap.size, 1, none⟩ = some (.string nilS) := X4.out.cell' rfl
          have z1 := X4.out.frozen 1
          have s2 : w4.cell? ⟨w1.heap.size, 2, none⟩ = some (.bool false) := X4.out.cell' rfl
          have z2 := X4.out.frozen 2
          have s3 : w4.cell? ⟨w1.heap.size, 3, none⟩ = some (.int .i64 0) := X4.out.cell' rfl
          have z3 := X4.out.frozen 3
          have s4 : w4.cell? ⟨w1.heap.size, 4, none⟩ = some (.slice none 0 0) := X4.out.cell' rfl
          have z4 := X4.out.frozen 4
          have s5 : w4.cell? ⟨w1.heap.size, 5, none⟩ = some (.bool false) := X4.out.cell' rfl
          have z5 := X4.out.frozen 5
          have s6 : w4.cell? ⟨w1.heap.size, 6, none⟩ = some (.int .i64 0) := X4.out.cell' rfl
          have z6 := X4.out.frozen 6
          have s7 : w4.cell? ⟨w1.heap.size, 7, none⟩ = some (.int .i64 0) := X4.out.cell' rfl
          have z7 := X4.out.frozen 7
          have s8 : w4.cell? ⟨w1.heap.size, 8, none⟩ = some (.string nilS) := X4.out.cell' rfl
          have z8 := X4.out.frozen 8
          refine wpAnyT_one (i := 14) rfl rfl (by kernel_rfl) ?_
          go_simp
          refine wpAnyT_done (by kernel_rfl) ?_ _
          clear s0 z0 s1 z1 s2 z2 s3 z3 s4 z4 s5 z5 s6 z6 s7 z7 s8 z8
          obtain ⟨qb, qf⟩ := box9 X4.out (.string D.R.low) (.string D.R.high) (.bool D.R.unb) (.int .i64 D.R.right) (.slice A' D.R.ents.length c') (.bool false) (.int .i64 0) (.int .i64 0) (.string nilS)
          have hvin := vin_of_own (V := baseV D.R) (own_fr O4.out qf (fun k hk e => own_blk_ne O4.out X4.out (by decide) (by rw [hk, show k = w1.heap.size from e]))) rfl ⟨HO.out.low, HO.out.high, SzOk.nil, HO.out.ents⟩
          have hfr := F4.out.then_only qf (.inr (by omega))
          have HREL := hid_ (And.intro hvin (And.intro qb hfr))
          clear hvin qb qf hfr
          go_wp2
          go_meet
          case rel => exact ⟨_, A', c', rfl, by omega, HREL.out.2.1, HREL.out.1, HREL.out.2.2⟩
      case rest =>
      obtain ⟨X, A', c', rfl, hX, hb8, hvin, hf8⟩ := hcut
      have BX := hid_ hb8
      have VI := hid_ hvin
      have F8 := hid_ (F2.out.then_none hf8)
      have BO8 := hid_ (BO2.out.fr hf8 id)
      clear hb8 hvin hf8 BO2 HO2 BO1 F1 F2
      have v0 : wc.cell? ⟨X, 0, none⟩ = some (.string (baseV D.R).low) := BX.out.cell' rfl
      have v1 : wc.cell? ⟨X, 1, none⟩ = some (.string (baseV D.R).high) := BX.out.cell' rfl
      have v2 : wc.cell? ⟨X, 2, none⟩ = some (.bool (baseV D.R).unb) := BX.out.cell' rfl
      have v3 : wc.cell? ⟨X, 3, none⟩ = some (.int .i64 (baseV D.R).right) := BX.out.cell' rfl
      have v4 : wc.cell? ⟨X, 4, none⟩ = some (.slice A' D.R.ents.length c') := BX.out.cell' rfl
      have v5 : wc.cell? ⟨X, 5, none⟩ = some (.bool (baseV D.R).held) := BX.out.cell' rfl
      have v6 : wc.cell? ⟨X, 6, none⟩ = some (.int .i64 (baseV D.R).hp) := BX.out.cell' rfl
      have v7 : wc.cell? ⟨X, 7, none⟩ = some (.int .i64 (baseV D.R).hl) := BX.out.cell' rfl
      have v8 : wc.cell? ⟨X, 8, none⟩ = some (.string (baseV D.R).hk) := BX.out.cell' rfl
      go_wp2_with fail
      refine (sound_ok (baseV D.R) A' c' _ VI.out).mono ?_
      rintro e w2 ⟨bb, rfl, hbb, hf2⟩
      have HB := hid_ hbb
      have BX2 := hid_ (BX.out.fr hf2 id)
      have VI2 := hid_ (VI.out.keep hf2)
      have F9 := hid_ (F8.out.then_none hf2)
      have BO9 := hid_ (BO8.out.fr hf2 id)
      clear hbb hf2 BX VI F8 BO8 v0 v1 v2 v3 v4 v5 v6 v7 v8
      cases bb with
      | false =>
        have hno : foldU (L.map (·.R)) = none := by
          have := foldU_none (l := L.map (·.R)) (j := m) (by rw [List.length_map]; omega) (by rw [HLD.out]; exact foldU_one_no _ (fun h => by have := HB.out.2 h.2; cases this)) 0 (Nat.zero_le _)
          simpa using this
        have HNO := hid_ hno
        clear hno
        have s0 : w2.cell? ⟨w.heap.size, 0, none⟩ = some (.string nilS) := BO9.out.cell' rfl
        have z0 := BO9.out.frozen 0
        have s1 : w2.cell? ⟨w.heap.size, 1, none⟩ = some (.string nilS) := BO9.out.cell' rfl
        have z1 := BO9.out.frozen 1
        have s2 : w2.cell? ⟨w.heap.size, 2, none⟩ = some (.bool false) := BO9.out.cell' rfl
        have z2 := BO9.out.frozen 2
        have s3 : w2.cell? ⟨w.heap.size, 3, none⟩ = some (.int .i64 0) := BO9.out.cell' rfl
        have z3 := BO9.out.frozen 3
        have s4 : w2.cell? ⟨w.heap.size, 4, none⟩ = some (.slice none 0 0) := BO9.out.cell' rfl
        have z4 := BO9.out.frozen 4
        have s5 : w2.cell? ⟨w.heap.size, 5, none⟩ = some (.bool false) := BO9.out.cell' rfl
        have z5 := BO9.out.frozen 5
        have s6 : w2.cell? ⟨w.heap.size, 6, none⟩ = some (.int .i64 0) := BO9.out.cell' rfl
        have z6 := BO9.out.frozen 6
        have s7 : w2.cell? ⟨w.heap.size, 7, none⟩ = some (.int .i64 0) := BO9.out.cell' rfl
        have z7 := BO9.out.frozen 7
        have s8 : w2.cell? ⟨w.heap.size, 8, none⟩ = some (.string nilS) := BO9.out.cell' rfl
        have z8 := BO9.out.frozen 8
        go_wp2_with fail
        clear s0 z0 s1 z1 s2 z2 s3 z3 s4 z4 s5 z5 s6 z6 s7 z7 s8 z8
        obtain ⟨qb, qf⟩ := box9 BO9.out (.string nilS) (.string nilS) (.bool false) (.int .i64 0) (.slice none 0 0) (.bool false) (.int .i64 0) (.int .i64 0) (.string nilS)
        have q0 := qb.cell' (i := 0) rfl
        have q1 := qb.cell' (i := 1) rfl
        have q2 := qb.cell' (i := 2) rfl
        have q3 := qb.cell' (i := 3) rfl
        have q4 := qb.cell' (i := 4) rfl
        have q5 := qb.cell' (i := 5) rfl
        have q6 := qb.cell' (i := 6) rfl
        have q7 := qb.cell' (i := 7) rfl
        have q8 := qb.cell' (i := 8) rfl
        refine bodyPost_ret (v := .tuple #[vwV Vw.zero (.slice none 0 0), errV 10]) ?_ rfl (.inr ⟨10, .inr rfl, fun _ => HNO.out, rfl, F9.out.then_only qf (.inr (Nat.le_refl _))⟩)
        simp [results, Try.results60, go_sem, Vw.zero, q0, q1, q2, q3, q4, q5, q6, q7, q8]
      | true =>
        have hst : FoldSt w L X m (baseV D.R) A' c' w2 := ⟨by rw [List.map_drop, HLD.out]; exact foldU_one D.R H7.out (HB.out.1 rfl), BX2.out, BO9.out, VI2.out, base_held _, by show D.R.ents.length + m ≤ _; omega, F9.out⟩
        have ST := hid_ hst
        clear hst
        go_wp2_with fail
        go_loopw [9] (fun i wr => ∃ (k : Nat) (V : Vw) (A : Option Addr) (c : Nat), k ≤ m ∧ i = .int .i64 ((k : Int) - 1) ∧ FoldSt w L X k V A c wr) (fun i _ => (intOf i + 1).toNat)
        case atStart => exact ⟨m, _, _, _, Nat.le_refl _, rfl, ST.out⟩
        case round =>
          obtain ⟨k, V, A2, c2, hk, rfl, hst⟩ := hrel
          have S2 := hid_ hst
          clear hst
          by_cases hk0 : k = 0
          · have hfo : foldU (L.map (·.R)) = some V := by have := S2.out.fo; rw [hk0] at this; exact this
            have HFO := hid_ hfo
            subst hk0
            clear hfo
            have v0 : wr.cell? ⟨X, 0, none⟩ = some (.string V.low) := S2.out.bx.cell' rfl
            have v1 : wr.cell? ⟨X, 1, none⟩ = some (.string V.high) := S2.out.bx.cell' rfl
            have v2 : wr.cell? ⟨X, 2, none⟩ = some (.bool V.unb) := S2.out.bx.cell' rfl
            have v3 : wr.cell? ⟨X, 3, none⟩ = some (.int .i64 V.right) := S2.out.bx.cell' rfl
            have v4 : wr.cell? ⟨X, 4, none⟩ = some (.slice A2 V.ents.length c2) := S2.out.bx.cell' rfl
            have v5 : wr.cell? ⟨X, 5, none⟩ = some (.bool V.held) := S2.out.bx.cell' rfl
            have v6 : wr.cell? ⟨X, 6, none⟩ = some (.int .i64 V.hp) := S2.out.bx.cell' rfl
            have v7 : wr.cell? ⟨X, 7, none⟩ = some (.int .i64 V.hl) := S2.out.bx.cell' rfl
            have v8 : wr.cell? ⟨X, 8, none⟩ = some (.string V.hk) := S2.out.bx.cell' rfl
            have s0 : wr.cell? ⟨w.heap.size, 0, none⟩ = some (.string nilS) := S2.out.bo.cell' rfl
            have z0 := S2.out.bo.frozen 0
            have s1 : wr.cell? ⟨w.heap.size, 1, none⟩ = some (.string nilS) := S2.out.bo.cell' rfl
            have z1 := S2.out.bo.frozen 1
            have s2 : wr.cell? ⟨w.heap.size, 2, none⟩ = some (.bool false) := S2.out.bo.cell' rfl
            have z2 := S2.out.bo.frozen 2
            have s3 : wr.cell? ⟨w.heap.size, 3, none⟩ = some (.int .i64 0) := S2.out.bo.cell' rfl
            have z3 := S2.out.bo.frozen 3
            have s4 : wr.cell? ⟨w.heap.size, 4, none⟩ = some (.slice none 0 0) := S2.out.bo.cell' rfl
            have z4 := S2.out.bo.frozen 4
            have s5 : wr.cell? ⟨w.heap.size, 5, none⟩ = some (.bool false) := S2.out.bo.cell' rfl
            have z5 := S2.out.bo.frozen 5
            have s6 : wr.cell? ⟨w.heap.size, 6, none⟩ = some (.int .i64 0) := S2.out.bo.cell' rfl
            have z6 := S2.out.bo.frozen 6
            have s7 : wr.cell? ⟨w.heap.size, 7, none⟩ = some (.int .i64 0) := S2.out.bo.cell' rfl
            have z7 := S2.out.bo.frozen 7
            have s8 : wr.cell? ⟨w.heap.size, 8, none⟩ = some (.string nilS) := S2.out.bo.cell' rfl
            have z8 := S2.out.bo.frozen 8
            go_wp2_with fail
            clear s0 z0 s1 z1 s2 z2 s3 z3 s4 z4 s5 z5 s6 z6 s7 z7 s8 z8 v0 v1 v2 v3 v4 v5 v6 v7 v8
            obtain ⟨qb, qf⟩ := box9 S2.out.bo (.string V.low) (.string V.high) (.bool V.unb) (.int .i64 V.right) (.slice A2 V.ents.length c2) (.bool V.held) (.int .i64 V.hp) (.int .i64 V.hl) (.string V.hk)
            have q0 := qb.cell' (i := 0) rfl
            have q1 := qb.cell' (i := 1) rfl
            have q2 := qb.cell' (i := 2) rfl
            have q3 := qb.cell' (i := 3) rfl
            have q4 := qb.cell' (i := 4) rfl
            have q5 := qb.cell' (i := 5) rfl
            have q6 := qb.cell' (i := 6) rfl
            have q7 := qb.cell' (i := 7) rfl
            have q8 := qb.cell' (i := 8) rfl
            refine bodyPost_ret (v := .tuple #[vwV V (.slice A2 V.ents.length c2), .nilIface]) ?_ rfl (.inl ⟨V, A2, c2, HK.out, HFO.out, rfl, S2.out.vin.far S2.out.bo qf, S2.out.held, S2.out.fr.then_only qf (.inr (Nat.le_refl _))⟩)
            simp [results, Try.results60, go_sem, q0, q1, q2, q3, q4, q5, q6, q7, q8]
          · obtain ⟨j, rfl⟩ : ∃ j, k = j + 1 := ⟨k - 1, by omega⟩
            have hjm : j < m := by omega
            obtain ⟨C, hC⟩ : ∃ C, L[j]? = some C := ⟨_, List.getElem?_eq_getElem (by omega)⟩
            obtain ⟨b2, off2, hA, hb2, hR2, hO2⟩ := (H.out.keep S2.out.fr).at_ hC
            obtain ⟨rfl, rfl⟩ : b = b2 ∧ off = off2 := by injection hA with hA; injection hA with e1 e2; exact ⟨e1, e2⟩
            have HR2 := hid_ hR2
            have HO2 := hid_ hO2
            have HC := hid_ hC
            have hdr : (L.map (·.R)).drop j = C.R :: (L.map (·.R)).drop (j + 1) := by
              rw [List.drop_eq_getElem_cons (by rw [List.length_map]; omega)]
              congr 1
              rw [List.getElem_map]
              have := (List.getElem?_eq_some_iff.1 hC).2
              rw [this]
            have hfo : foldU ((L.map (·.R)).drop j) = upM V C.R := by
              rw [hdr, foldU_cons _ (fun e => by have := congrArg List.length e; rw [List.length_drop, List.length_map, List.length_nil] at this; omega), ← List.map_drop, S2.out.fo]
              rfl
            have HFO := hid_ hfo
            have hi0' : (0 : Int) ≤ (j : Int) := Int.natCast_nonneg _
            have hi1' : (j : Int) < ((m + 1 : Nat) : Int) := by omega
            have hi2' : (j : Int) < (m : Int) + 1 := by omega
            have hji : ((j + 1 : Nat) : Int) - 1 = (j : Int) := by omega
            have hwj : IntKind.i64.wrap ((j : Int) - 1) = (j : Int) - 1 := IntWalk.i64_in _ (by omega)
            have hge : decide ((0 : Int) ≤ (j : Int)) = true := by simp
            rw [hji]
            clear hA hR2 hO2 hC hdr hfo hji hk0
            go_upto_region 18 with fail
            go_cut [10] (fun v wq => ∃ bb : Bool, v = .bool bb ∧ FoldCut w L X j bb wq)
            case rest =>
              obtain ⟨bb, rfl, hbb⟩ := hcut
              have HBB := hid_ hbb
              clear hbb
              cases bb with
              | false =>
                obtain ⟨-, hno, hbo, hfw⟩ := HBB.out.resolve_left (fun h => by cases h.1)
                have hno' : foldU (L.map (·.R)) = none := by
                  have := foldU_none (l := L.map (·.R)) (j := j) (by rw [List.length_map]; omega) (by rw [← List.map_drop]; exact hno) 0 (Nat.zero_le _)
                  simpa using this
                have HNO := hid_ hno'
                have BO5 := hid_ hbo
                have F5 := hid_ hfw
                clear hno hno' hbo hfw
                have s0 : wc.cell? ⟨w.heap.size, 0, none⟩ = some (.string nilS) := BO5.out.cell' rfl
                have z0 := BO5.out.frozen 0
                have s1 : wc.cell? ⟨w.heap.size, 1, none⟩ = some (.string nilS) := BO5.out.cell' rfl
                have z1 := BO5.out.frozen 1
                have s2 : wc.cell? ⟨w.heap.size, 2, none⟩ = some (.bool false) := BO5.out.cell' rfl
                have z2 := BO5.out.frozen 2
                have s3 : wc.cell? ⟨w.heap.size, 3, none⟩ = some (.int .i64 0) := BO5.out.cell' rfl
                have z3 := BO5.out.frozen 3
                have s4 : wc.cell? ⟨w.heap.size, 4, none⟩ = some (.slice none 0 0) := BO5.out.cell' rfl
                have z4 := BO5.out.frozen 4
                have s5 : wc.cell? ⟨w.heap.size, 5, none⟩ = some (.bool false) := BO5.out.cell' rfl
                have z5 := BO5.out.frozen 5
                have s6 : wc.cell? ⟨w.heap.size, 6, none⟩ = some (.int .i64 0) := BO5.out.cell' rfl
                have z6 := BO5.out.frozen 6
                have s7 : wc.cell? ⟨w.heap.size, 7, none⟩ = some (.int .i64 0) := BO5.out.cell' rfl
                have z7 := BO5.out.frozen 7
                have s8 : wc.cell? ⟨w.heap.size, 8, none⟩ = some (.string nilS) := BO5.out.cell' rfl
                have z8 := BO5.out.frozen 8
                go_wp2_with fail
                clear s0 z0 s1 z1 s2 z2 s3 z3 s4 z4 s5 z5 s6 z6 s7 z7 s8 z8
                obtain ⟨qb, qf⟩ := box9 BO5.out (.string nilS) (.string nilS) (.bool false) (.int .i64 0) (.slice none 0 0) (.bool false) (.int .i64 0) (.int .i64 0) (.string nilS)
                have q0 := qb.cell' (i := 0) rfl
                have q1 := qb.cell' (i := 1) rfl
                have q2 := qb.cell' (i := 2) rfl
                have q3 := qb.cell' (i := 3) rfl
                have q4 := qb.cell' (i := 4) rfl
                have q5 := qb.cell' (i := 5) rfl
                have q6 := qb.cell' (i := 6) rfl
                have q7 := qb.cell' (i := 7) rfl
                have q8 := qb.cell' (i := 8) rfl
                refine bodyPost_ret (v := .tuple #[vwV Vw.zero (.slice none 0 0), errV 10]) ?_ rfl (.inr ⟨10, .inr rfl, fun _ => HNO.out, rfl, F5.out.then_only qf (.inr (Nat.le_refl _))⟩)
                simp [results, Try.results60, go_sem, Vw.zero, q0, q1, q2, q3, q4, q5, q6, q7, q8]
              | true =>
                obtain ⟨-, V', A4, c4, hst'⟩ := HBB.out.resolve_right (fun h => by cases h.1)
                have ST' := hid_ hst'
                clear hst'
                go_wp2_with fail
                go_roundw
                case rel => exact ⟨j, V', A4, c4, by omega, rfl, ST'.out⟩
                case measure => simp [intOf]
            case first =>
            have v0 : wr.cell? ⟨X, 0, none⟩ = some (.string V.low) := S2.out.bx.cell' rfl
            have v1 : wr.cell? ⟨X, 1, none⟩ = some (.string V.high) := S2.out.bx.cell' rfl
            have v2 : wr.cell? ⟨X, 2, none⟩ = some (.bool V.unb) := S2.out.bx.cell' rfl
            have v3 : wr.cell? ⟨X, 3, none⟩ = some (.int .i64 V.right) := S2.out.bx.cell' rfl
            have v4 : wr.cell? ⟨X, 4, none⟩ = some (.slice A2 V.ents.length c2) := S2.out.bx.cell' rfl
            have v5 : wr.cell? ⟨X, 5, none⟩ = some (.bool V.held) := S2.out.bx.cell' rfl
            have v6 : wr.cell? ⟨X, 6, none⟩ = some (.int .i64 V.hp) := S2.out.bx.cell' rfl
            have v7 : wr.cell? ⟨X, 7, none⟩ = some (.int .i64 V.hl) := S2.out.bx.cell' rfl
            have v8 : wr.cell? ⟨X, 8, none⟩ = some (.string V.hk) := S2.out.bx.cell' rfl
            have hS0 : (fun w' : World => Fr none_ wr w') wr.drew := (Fr.refl none_ wr).drew
            refine wp_region_U (m := 7) (S := fun w' : World => Fr none_ wr w') (by kernel_rfl) ?_
            refine wpAnyU_take2 (i := 0) (v := _) rfl (by kernel_rfl) (by kernel_rfl) (by kernel_rfl) (by kernel_rfl) (fun _ _ _ h => h) (.inl ⟨by simp [Region.wanted], fun w' hS => by have s_v0 := cellFr v0 hS; have s_v1 := cellFr v1 hS; have s_v2 := cellFr v2 hS; have s_v3 := cellFr v3 hS; have s_v4 := cellFr v4 hS; have s_v5 := cellFr v5 hS; have s_v6 := cellFr v6 hS; have s_v7 := cellFr v7 hS; have s_v8 := cellFr v8 hS; go_simp; rfl⟩) hS0 ?_
            refine wpAnyU_take2 (i := 1) (v := _) rfl (by kernel_rfl) (by kernel_rfl) (by kernel_rfl) (by kernel_rfl) (fun _ _ _ h => h) (.inl ⟨by simp [Region.wanted], fun w' hS => by have s_v0 := cellFr v0 hS; have s_v1 := cellFr v1 hS; have s_v2 := cellFr v2 hS; have s_v3 := cellFr v3 hS; have s_v4 := cellFr v4 hS; have s_v5 := cellFr v5 hS; have s_v6 := cellFr v6 hS; have s_v7 := cellFr v7 hS; have s_v8 := cellFr v8 hS; go_simp; rfl⟩) hS0 ?_
            refine wpAnyU_take2 (i := 2) (v := _) rfl (by kernel_rfl) (by kernel_rfl) (by kernel_rfl) (by kernel_rfl) (fun _ _ _ h => h) (.inl ⟨by simp [Region.wanted], fun w' hS => by have s_v0 := cellFr v0 hS; have s_v1 := cellFr v1 hS; have s_v2 := cellFr v2 hS; have s_v3 := cellFr v3 hS; have s_v4 := cellFr v4 hS; have s_v5 := cellFr v5 hS; have s_v6 := cellFr v6 hS; have s_v7 := cellFr v7 hS; have s_v8 := cellFr v8 hS; go_simp; rfl⟩) hS0 ?_
            refine wpAnyU_take2 (i := 3) (v := _) rfl (by kernel_rfl) (by kernel_rfl) (by kernel_rfl) (by kernel_rfl) (fun _ _ _ h => h) (.inl ⟨by simp [Region.wanted], fun w' hS => by have s_v0 := cellFr v0 hS; have s_v1 := cellFr v1 hS; have s_v2 := cellFr v2 hS; have s_v3 := cellFr v3 hS; have s_v4 := cellFr v4 hS; have s_v5 := cellFr v5 hS; have s_v6 := cellFr v6 hS; have s_v7 := cellFr v7 hS; have s_v8 := cellFr v8 hS; go_simp; rfl⟩) hS0 ?_
            refine wpAnyU_take2 (i := 4) (v := _) rfl (by kernel_rfl) (by kernel_rfl) (by kernel_rfl) (by kernel_rfl) (fun _ _ _ h => h) (yieldsIf_load_mid (by simp [Region.wanted]) 58 (.tmp 75) rfl b (off + j * 15) rfl (recL C) _ (fun w' hS i v hv => cellFr (HR2.out i v hv) hS) Try.underlying58 rfl rec_size8) hS0 ?_
            clear v0 v1 v2 v3 v4 v5 v6 v7 v8
            refine wpAnyU_one (i := 5) rfl rfl (by kernel_rfl) ?_
            go_simp
            refine (up_ok V C.R A2 c2 _ _ _ (S2.out.vin.keep (Fr.refl none_ wr).drew) (by have := S2.out.len; omega) ⟨HO2.out.key, HO2.out.hkey⟩ S2.out.held).mono ?_
            rintro e w4 (⟨V', A4, c4, hup, rfl, hvin, hf4⟩ | ⟨hup, rfl, hf4⟩)
            · have FW := hid_ (((Fr.refl none_ wr).drew : Fr none_ wr wr.drew).then_none hf4)
              have BX4 := hid_ (S2.out.bx.fr FW.out id)
              have BO4 := hid_ (S2.out.bo.fr FW.out id)
              have F4 := hid_ (S2.out.fr.then_none FW.out)
              have VI4 := hid_ hvin
              have HUP := hid_ hup
              clear hvin hup hf4
              refine ⟨FW.out, ?_⟩
              refine wpAnyU_take2 (i := 6) (v := _) rfl (by kernel_rfl) (by kernel_rfl) (by kernel_rfl) (by kernel_rfl) (fun _ _ _ h => h) (.inl ⟨by simp [Region.wanted], fun w' hS => by skip; go_simp; rfl⟩) FW.out ?_
              have hst' : ∀ w6, Blk w6 X 43 (vwA V' (.slice A4 V'.ents.length c4)) ∧ Fr (only X) w4 w6 → FoldSt w L X j V' A4 c4 w6 := fun w6 h6 => ⟨by rw [List.map_drop, HFO.out, HUP.out], h6.1, BO4.out.fr h6.2 (only_ne (by omega)), VI4.out.far BX4.out h6.2, up_held HUP.out S2.out.held, by have := up_len HUP.out; have := S2.out.len; omega, F4.out.then_only h6.2 (.inr (by omega))⟩
              have HST := hid_ hst'
              clear hst'
              refine wpAnyU_two (i := 7) (j := 8) rfl rfl rfl rfl (by kernel_rfl) ?_ ?_
              · go_simp
                refine wpAnyU_two (i := 8) (j := 9) rfl rfl rfl rfl (by kernel_rfl) ?_ ?_
                · go_simp
                  have s0 : w4.cell? ⟨X, 0, none⟩ = some (.string V.low) := BX4.out.cell' rfl
                  have z0 := BX4.out.frozen 0
                  have s1 : w4.cell? ⟨X, 1, none⟩ = some (.string V.high) := BX4.out.cell' rfl
                  have z1 := BX4.out.frozen 1
                  have s2 : w4.cell? ⟨X, 2, none⟩ = some (.bool V.unb) := BX4.out.cell' rfl
                  have z2 := BX4.out.frozen 2
                  have s3 : w4.cell? ⟨X, 3, none⟩ = some (.int .i64 V.right) := BX4.out.cell' rfl
                  have z3 := BX4.out.frozen 3
                  have s4 : w4.cell? ⟨X, 4, none⟩ = some (.slice A2 V.ents.length c2) := BX4.out.cell' rfl
                  have z4 := BX4.out.frozen 4
                  have s5 : w4.cell? ⟨X, 5, none⟩ = some (.bool V.held) := BX4.out.cell' rfl
                  have z5 := BX4.out.frozen 5
                  have s6 : w4.cell? ⟨X, 6, none⟩ = some (.int .i64 V.hp) := BX4.out.cell' rfl
                  have z6 := BX4.out.frozen 6
                  have s7 : w4.cell? ⟨X, 7, none⟩ = some (.int .i64 V.hl) := BX4.out.cell' rfl
                  have z7 := BX4.out.frozen 7
                  have s8 : w4.cell? ⟨X, 8, none⟩ = some (.string V.hk) := BX4.out.cell' rfl
                  have z8 := BX4.out.frozen 8
                  refine wpAnyU_one (i := 9) rfl rfl (by kernel_rfl) ?_
                  go_simp
                  clear s0 z0 s1 z1 s2 z2 s3 z3 s4 z4 s5 z5 s6 z6 s7 z7 s8 z8
                  have h6 := hid_ (HST.out _ (box9 BX4.out (.string V'.low) (.string V'.high) (.bool V'.unb) (.int .i64 V'.right) (.slice A4 V'.ents.length c4) (.bool V'.held) (.int .i64 V'.hp) (.int .i64 V'.hl) (.string V'.hk)))
                  refine wpAnyU_one (i := 10) rfl rfl (by kernel_rfl) ?_
                  go_simp
                  refine wpAnyU_done (by kernel_rfl) ?_ _
                  go_wp2
                  go_meet
                  case rel => exact ⟨true, rfl, .inl ⟨rfl, V', A4, c4, h6.out⟩⟩
                · skip
                  have s0 : w4.cell? ⟨X, 0, none⟩ = some (.string V.low) := BX4.out.cell' rfl
                  have z0 := BX4.out.frozen 0
                  have s1 : w4.cell? ⟨X, 1, none⟩ = some (.string V.high) := BX4.out.cell' rfl
                  have z1 := BX4.out.frozen 1
                  have s2 : w4.cell? ⟨X, 2, none⟩ = some (.bool V.unb) := BX4.out.cell' rfl
                  have z2 := BX4.out.frozen 2
                  have s3 : w4.cell? ⟨X, 3, none⟩ = some (.int .i64 V.right) := BX4.out.cell' rfl
                  have z3 := BX4.out.frozen 3
                  have s4 : w4.cell? ⟨X, 4, none⟩ = some (.slice A2 V.ents.length c2) := BX4.out.cell' rfl
                  have z4 := BX4.out.frozen 4
                  have s5 : w4.cell? ⟨X, 5, none⟩ = some (.bool V.held) := BX4.out.cell' rfl
                  have z5 := BX4.out.frozen 5
                  have s6 : w4.cell? ⟨X, 6, none⟩ = some (.int .i64 V.hp) := BX4.out.cell' rfl
                  have z6 := BX4.out.frozen 6
                  have s7 : w4.cell? ⟨X, 7, none⟩ = some (.int .i64 V.hl) := BX4.out.cell' rfl
                  have z7 := BX4.out.frozen 7
                  have s8 : w4.cell? ⟨X, 8, none⟩ = some (.string V.hk) := BX4.out.cell' rfl
                  have z8 := BX4.out.frozen 8
                  go_simp
                  clear s0 z0 s1 z1 s2 z2 s3 z3 s4 z4 s5 z5 s6 z6 s7 z7 s8 z8
                  have h6 := hid_ (HST.out _ (box9 BX4.out (.string V'.low) (.string V'.high) (.bool V'.unb) (.int .i64 V'.right) (.slice A4 V'.ents.length c4) (.bool V'.held) (.int .i64 V'.hp) (.int .i64 V'.hl) (.string V'.hk)))
                  refine wpAnyU_one (i := 8) rfl rfl (by kernel_rfl) ?_
                  go_simp
                  refine wpAnyU_one (i := 10) rfl rfl (by kernel_rfl) ?_
                  go_simp
                  refine wpAnyU_done (by kernel_rfl) ?_ _
                  go_wp2
                  go_meet
                  case rel => exact ⟨true, rfl, .inl ⟨rfl, V', A4, c4, h6.out⟩⟩
              · go_simp
                refine wpAnyU_one (i := 7) rfl rfl (by kernel_rfl) ?_
                go_simp
                have s0 : w4.cell? ⟨X, 0, none⟩ = some (.string V.low) := BX4.out.cell' rfl
                have z0 := BX4.out.frozen 0
                have s1 : w4.cell? ⟨X, 1, none⟩ = some (.string V.high) := BX4.out.cell' rfl
                have z1 := BX4.out.frozen 1
                have s2 : w4.cell? ⟨X, 2, none⟩ = some (.bool V.unb) := BX4.out.cell' rfl
                have z2 := BX4.out.frozen 2
                have s3 : w4.cell? ⟨X, 3, none⟩ = some (.int .i64 V.right) := BX4.out.cell' rfl
                have z3 := BX4.out.frozen 3
                have s4 : w4.cell? ⟨X, 4, none⟩ = some (.slice A2 V.ents.length c2) := BX4.out.cell' rfl
                have z4 := BX4.out.frozen 4
                have s5 : w4.cell? ⟨X, 5, none⟩ = some (.bool V.held) := BX4.out.cell' rfl
                have z5 := BX4.out.frozen 5
                have s6 : w4.cell? ⟨X, 6, none⟩ = some (.int .i64 V.hp) := BX4.out.cell' rfl
                have z6 := BX4.out.frozen 6
                have s7 : w4.cell? ⟨X, 7, none⟩ = some (.int .i64 V.hl) := BX4.out.cell' rfl
                have z7 := BX4.out.frozen 7
                have s8 : w4.cell? ⟨X, 8, none⟩ = some (.string V.hk) := BX4.out.cell' rfl
                have z8 := BX4.out.frozen 8
                refine wpAnyU_one (i := 9) rfl rfl (by kernel_rfl) ?_
                go_simp
                clear s0 z0 s1 z1 s2 z2 s3 z3 s4 z4 s5 z5 s6 z6 s7 z7 s8 z8
                have h6 := hid_ (HST.out _ (box9 BX4.out (.string V'.low) (.string V'.high) (.bool V'.unb) (.int .i64 V'.right) (.slice A4 V'.ents.length c4) (.bool V'.held) (.int .i64 V'.hp) (.int .i64 V'.hl) (.string V'.hk)))
                refine wpAnyU_one (i := 10) rfl rfl (by kernel_rfl) ?_
                go_simp
                refine wpAnyU_done (by kernel_rfl) ?_ _
                go_wp2
                go_meet
                case rel => exact ⟨true, rfl, .inl ⟨rfl, V', A4, c4, h6.out⟩⟩
            · have FW := hid_ (((Fr.refl none_ wr).drew : Fr none_ wr wr.drew).then_none hf4)
              have BX4 := hid_ (S2.out.bx.fr FW.out id)
              have BO4 := hid_ (S2.out.bo.fr FW.out id)
              have F4 := hid_ (S2.out.fr.then_none FW.out)
              have HUP := hid_ hup
              clear hup hf4
              refine ⟨FW.out, ?_⟩
              refine wpAnyU_take2 (i := 6) (v := _) rfl (by kernel_rfl) (by kernel_rfl) (by kernel_rfl) (by kernel_rfl) (fun _ _ _ h => h) (.inl ⟨by simp [Region.wanted], fun w' hS => by skip; go_simp; rfl⟩) FW.out ?_
              have hst' : ∀ w6, Blk w6 X 43 (vwA V (.slice A2 V.ents.length c2)) ∧ Fr (only X) w4 w6 → foldU ((L.drop j).map (·.R)) = none ∧ Blk w6 w.heap.size 43 (vwA Vw.zero (.slice none 0 0)) ∧ Fr none_ w w6 := fun w6 h6 => ⟨by rw [List.map_drop, HFO.out, HUP.out], BO4.out.fr h6.2 (only_ne (by omega)), F4.out.then_only h6.2 (.inr (by omega))⟩
              have HST := hid_ hst'
              clear hst'
              refine wpAnyU_two (i := 7) (j := 8) rfl rfl rfl rfl (by kernel_rfl) ?_ ?_
              · go_simp
                refine wpAnyU_two (i := 8) (j := 9) rfl rfl rfl rfl (by kernel_rfl) ?_ ?_
                · go_simp
                  have s0 : w4.cell? ⟨X, 0, none⟩ = some (.string V.low) := BX4.out.cell' rfl
                  have z0 := BX4.out.frozen 0
                  have s1 : w4.cell? ⟨X, 1, none⟩ = some (.string V.high) := BX4.out.cell' rfl
                  have z1 := BX4.out.frozen 1
                  have s2 : w4.cell? ⟨X, 2, none⟩ = some (.bool V.unb) := BX4.out.cell' rfl
                  have z2 := BX4.out.frozen 2
                  have s3 : w4.cell? ⟨X, 3, none⟩ = some (.int .i64 V.right) := BX4.out.cell' rfl
                  have z3 := BX4.out.frozen 3
                  have s4 : w4.cell? ⟨X, 4, none⟩ = some (.slice A2 V.ents.length c2) := BX4.out.cell' rfl
                  have z4 := BX4.out.frozen 4
                  have s5 : w4.cell? ⟨X, 5, none⟩ = some (.bool V.held) := BX4.out.cell' rfl
                  have z5 := BX4.out.frozen 5
                  have s6 : w4.cell? ⟨X, 6, none⟩ = some (.int .i64 V.hp) := BX4.out.cell' rfl
                  have z6 := BX4.out.frozen 6
                  have s7 : w4.cell? ⟨X, 7, none⟩ = some (.int .i64 V.hl) := BX4.out.cell' rfl
                  have z7 := BX4.out.frozen 7
                  have s8 : w4.cell? ⟨X, 8, none⟩ = some (.string V.hk) := BX4.out.cell' rfl
                  have z8 := BX4.out.frozen 8
                  refine wpAnyU_one (i := 9) rfl rfl (by kernel_rfl) ?_
                  go_simp
                  clear s0 z0 s1 z1 s2 z2 s3 z3 s4 z4 s5 z5 s6 z6 s7 z7 s8 z8
                  have h6 := hid_ (HST.out _ (box9 BX4.out (.string V.low) (.string V.high) (.bool V.unb) (.int .i64 V.right) (.slice A2 V.ents.length c2) (.bool V.held) (.int .i64 V.hp) (.int .i64 V.hl) (.string V.hk)))
                  refine wpAnyU_one (i := 10) rfl rfl (by kernel_rfl) ?_
                  go_simp
                  refine wpAnyU_done (by kernel_rfl) ?_ _
                  go_wp2
                  go_meet
                  case rel => exact ⟨false, rfl, .inr ⟨rfl, h6.out⟩⟩
                · skip
                  have s0 : w4.cell? ⟨X, 0, none⟩ = some (.string V.low) := BX4.out.cell' rfl
                  have z0 := BX4.out.frozen 0
                  have s1 : w4.cell? ⟨X, 1, none⟩ = some (.string V.high) := BX4.out.cell' rfl
                  have z1 := BX4.out.frozen 1
                  have s2 : w4.cell? ⟨X, 2, none⟩ = some (.bool V.unb) := BX4.out.cell' rfl
                  have z2 := BX4.out.frozen 2
                  have s3 : w4.cell? ⟨X, 3, none⟩ = some (.int .i64 V.right) := BX4.out.cell' rfl
                  have z3 := BX4.out.frozen 3
                  have s4 : w4.cell? ⟨X, 4, none⟩ = some (.slice A2 V.ents.length c2) := BX4.out.cell' rfl
                  have z4 := BX4.out.frozen 4
                  have s5 : w4.cell? ⟨X, 5, none⟩ = some (.bool V.held) := BX4.out.cell' rfl
                  have z5 := BX4.out.frozen 5
                  have s6 : w4.cell? ⟨X, 6, none⟩ = some (.int .i64 V.hp) := BX4.out.cell' rfl
                  have z6 := BX4.out.frozen 6
                  have s7 : w4.cell? ⟨X, 7, none⟩ = some (.int .i64 V.hl) := BX4.out.cell' rfl
                  have z7 := BX4.out.frozen 7
                  have s8 : w4.cell? ⟨X, 8, none⟩ = some (.string V.hk) := BX4.out.cell' rfl
                  have z8 := BX4.out.frozen 8
                  go_simp
                  clear s0 z0 s1 z1 s2 z2 s3 z3 s4 z4 s5 z5 s6 z6 s7 z7 s8 z8
                  have h6 := hid_ (HST.out _ (box9 BX4.out (.string V.low) (.string V.high) (.bool V.unb) (.int .i64 V.right) (.slice A2 V.ents.length c2) (.bool V.held) (.int .i64 V.hp) (.int .i64 V.hl) (.string V.hk)))
                  refine wpAnyU_one (i := 8) rfl rfl (by kernel_rfl) ?_
                  go_simp
                  refine wpAnyU_one (i := 10) rfl rfl (by kernel_rfl) ?_
                  go_simp
                  refine wpAnyU_done (by kernel_rfl) ?_ _
                  go_wp2
                  go_meet
                  case rel => exact ⟨false, rfl, .inr ⟨rfl, h6.out⟩⟩
              · go_simp
                refine wpAnyU_one (i := 7) rfl rfl (by kernel_rfl) ?_
                go_simp
                have s0 : w4.cell? ⟨X, 0, none⟩ = some (.string V.low) := BX4.out.cell' rfl
                have z0 := BX4.out.frozen 0
                have s1 : w4.cell? ⟨X, 1, none⟩ = some (.string V.high) := BX4.out.cell' rfl
                have z1 := BX4.out.frozen 1
                have s2 : w4.cell? ⟨X, 2, none⟩ = some (.bool V.unb) := BX4.out.cell' rfl
                have z2 := BX4.out.frozen 2
                have s3 : w4.cell? ⟨X, 3, none⟩ = some (.int .i64 V.right) := BX4.out.cell' rfl
                have z3 := BX4.out.frozen 3
                have s4 : w4.cell? ⟨X, 4, none⟩ = some (.slice A2 V.ents.length c2) := BX4.out.cell' rfl
                have z4 := BX4.out.frozen 4
                have s5 : w4.cell? ⟨X, 5, none⟩ = some (.bool V.held) := BX4.out.cell' rfl
                have z5 := BX4.out.frozen 5
                have s6 : w4.cell? ⟨X, 6, none⟩ = some (.int .i64 V.hp) := BX4.out.cell' rfl
                have z6 := BX4.out.frozen 6
                have s7 : w4.cell? ⟨X, 7, none⟩ = some (.int .i64 V.hl) := BX4.out.cell' rfl
                have z7 := BX4.out.frozen 7
                have s8 : w4.cell? ⟨X, 8, none⟩ = some (.string V.hk) := BX4.out.cell' rfl
                have z8 := BX4.out.frozen 8
                refine wpAnyU_one (i := 9) rfl rfl (by kernel_rfl) ?_
                go_simp
                clear s0 z0 s1 z1 s2 z2 s3 z3 s4 z4 s5 z5 s6 z6 s7 z7 s8 z8
                have h6 := hid_ (HST.out _ (box9 BX4.out (.string V.low) (.string V.high) (.bool V.unb) (.int .i64 V.right) (.slice A2 V.ents.length c2) (.bool V.held) (.int .i64 V.hp) (.int .i64 V.hl) (.string V.hk)))
                refine wpAnyU_one (i := 10) rfl rfl (by kernel_rfl) ?_
                go_simp
                refine wpAnyU_done (by kernel_rfl) ?_ _
                go_wp2
                go_meet
                case rel => exact ⟨false, rfl, .inr ⟨rfl, h6.out⟩⟩
end Go.Proofs.Ytpjbncbmdfmlpaa
namespace Go.Proofs.Ytpjbncbmdfmlpaa
open Go.RowKit
set_option maxRecDepth 100000
set_option linter.unusedVariables false

set_option maxHeartbeats 2000000 in
theorem clone_big (R : Rc) (A : Option Addr) (c : Nat) (B : Option Addr) (d : Nat) (w : World) (h : RecReads w R A B) (hr : R.rows.length ≤ 4398046511104) (he : R.ents.length ≤ 1000) :
    Calls Try.prog 23 #[recV R (.slice A R.rows.length c) (.slice B R.ents.length d)] w (ClonePost R w) := by
  obtain ⟨i0, hi0, hz0, hs0, hb0⟩ := info_parts row_info
  obtain ⟨j0, hj0, hy0, ht0, hc0⟩ := info_parts entry_info
  have Hi := hid_ (And.intro hi0 (And.intro hz0 (And.intro hs0 hb0)))
  have Hj := hid_ (And.intro hj0 (And.intro hy0 (And.intro ht0 hc0)))
  have H := hid_ h
  clear hi0 hz0 hs0 hb0 hj0 hy0 ht0 hc0 h
  go_enter Try.func23, Try.ntmps23
  go_wp2_with (first
    | (at_builtin; refine wpList_append_any _ rfl (.tmp 3) (.tmp 5) 36 rfl w.heap.size 62 i0 _ 2 32 Try.underlying36 Hi.out.1 Hi.out.2.1 Hi.out.2.2.1 Hi.out.2.2.2 rfl (by omega) (.slice (some ⟨w.heap.size + 1 + 1, 0, none⟩) 0 0) 0 [] rfl (own_empty_at _ _ _ _ _ (by simp; omega) (by simp)) A R.rows.length c (rwFlat R.rows) rfl (((H.out.r.alloc _).alloc _).alloc _) (rwFlat_one _) (by simp only [maxLen]; omega) (by omega) (by simp; omega) ?_; intro A1 c1 w3 hown3 hgr3; have hp := clone_packA (vr := .slice A R.rows.length c) (ve := .slice B R.ents.length d) H.out hown3 hgr3; have HP := hid_ hp; have e6 : w3.cell? ⟨w.heap.size, 6, none⟩ = some (.slice B R.ents.length d) := hp.k0.cell' rfl; have e5 : w3.cell? ⟨w.heap.size, 5, none⟩ = some (.slice A R.rows.length c) := hp.k0.cell' rfl; have f5 := hp.k0.frozen 5; have l3 := hp.k0.lt; clear hown3 hgr3 hp)
    | (at_builtin; refine wpList_append_any _ rfl (.tmp 8) (.tmp 10) 39 rfl w.heap.size 64 j0 _ 2 24 Try.underlying39 Hj.out.1 Hj.out.2.1 Hj.out.2.2.1 Hj.out.2.2.2 rfl (by omega) (.slice (some ⟨w3.heap.size, 0, none⟩) 0 0) 0 [] rfl (own_empty_at _ _ _ _ _ (by simp; omega) (by simp)) B R.ents.length d (etFlat R.ents) rfl (HP.out.rd5 H.out) (etFlat_one _) (by simp only [maxLen]; omega) (by omega) (by simp; omega) ?_; intro A2 c2 w5 hown5 hgr5; have hp := clone_packB HP.out hown5 hgr5; have HQ := hid_ hp; have r0 : w5.cell? ⟨w.heap.size, 0, none⟩ = some (.int .i64 R.kind) := hp.k0.cell' rfl; have r1 : w5.cell? ⟨w.heap.size, 1, none⟩ = some (.string R.low) := hp.k0.cell' rfl; have r2 : w5.cell? ⟨w.heap.size, 2, none⟩ = some (.string R.high) := hp.k0.cell' rfl; have r3 : w5.cell? ⟨w.heap.size, 3, none⟩ = some (.bool R.unb) := hp.k0.cell' rfl; have r4 : w5.cell? ⟨w.heap.size, 4, none⟩ = some (.int .i64 R.right) := hp.k0.cell' rfl; have r5 : w5.cell? ⟨w.heap.size, 5, none⟩ = some (.slice A1 R.rows.length c1) := hp.k0.cell' rfl; have r6 : w5.cell? ⟨w.heap.size, 6, none⟩ = some (.slice B R.ents.length d) := hp.k0.cell' rfl; have r7 : w5.cell? ⟨w.heap.size, 7, none⟩ = some (.string R.key) := hp.k0.cell' rfl; have r8 : w5.cell? ⟨w.heap.size, 8, none⟩ = some (.string R.val) := hp.k0.cell' rfl; have r9 : w5.cell? ⟨w.heap.size, 9, none⟩ = some (.int .i64 R.page) := hp.k0.cell' rfl; have r10 : w5.cell? ⟨w.heap.size, 10, none⟩ = some (.int .i64 R.hpage) := hp.k0.cell' rfl; have r11 : w5.cell? ⟨w.heap.size, 11, none⟩ = some (.int .i64 R.hleft) := hp.k0.cell' rfl; have r12 : w5.cell? ⟨w.heap.size, 12, none⟩ = some (.string R.hkey) := hp.k0.cell' rfl; have r13 : w5.cell? ⟨w.heap.size, 13, none⟩ = some (.int .i64 R.nslot) := hp.k0.cell' rfl; have r14 : w5.cell? ⟨w.heap.size, 14, none⟩ = some (.int .i64 R.ngen) := hp.k0.cell' rfl; have fr6 := hp.k0.frozen 6; have s0 : w5.cell? ⟨w.heap.size + 1, 0, none⟩ = some (.int .i64 0) := hp.k1.cell' rfl; have s1 : w5.cell? ⟨w.heap.size + 1, 1, none⟩ = some (.string nilS) := hp.k1.cell' rfl; have s2 : w5.cell? ⟨w.heap.size + 1, 2, none⟩ = some (.string nilS) := hp.k1.cell' rfl; have s3 : w5.cell? ⟨w.heap.size + 1, 3, none⟩ = some (.bool false) := hp.k1.cell' rfl; have s4 : w5.cell? ⟨w.heap.size + 1, 4, none⟩ = some (.int .i64 0) := hp.k1.cell' rfl; have s5 : w5.cell? ⟨w.heap.size + 1, 5, none⟩ = some (.slice none 0 0) := hp.k1.cell' rfl; have s6 : w5.cell? ⟨w.heap.size + 1, 6, none⟩ = some (.slice none 0 0) := hp.k1.cell' rfl; have s7 : w5.cell? ⟨w.heap.size + 1, 7, none⟩ = some (.string nilS) := hp.k1.cell' rfl; have s8 : w5.cell? ⟨w.heap.size + 1, 8, none⟩ = some (.string nilS) := hp.k1.cell' rfl; have s9 : w5.cell? ⟨w.heap.size + 1, 9, none⟩ = some (.int .i64 0) := hp.k1.cell' rfl; have s10 : w5.cell? ⟨w.heap.size + 1, 10, none⟩ = some (.int .i64 0) := hp.k1.cell' rfl; have s11 : w5.cell? ⟨w.heap.size + 1, 11, none⟩ = some (.int .i64 0) := hp.k1.cell' rfl; have s12 : w5.cell? ⟨w.heap.size + 1, 12, none⟩ = some (.string nilS) := hp.k1.cell' rfl; have s13 : w5.cell? ⟨w.heap.size + 1, 13, none⟩ = some (.int .i64 0) := hp.k1.cell' rfl; have s14 : w5.cell? ⟨w.heap.size + 1, 14, none⟩ = some (.int .i64 0) := hp.k1.cell' rfl; have z0 := hp.k1.frozen 0; have z1 := hp.k1.frozen 1; have z2 := hp.k1.frozen 2; have z3 := hp.k1.frozen 3; have z4 := hp.k1.frozen 4; have z5 := hp.k1.frozen 5; have z6 := hp.k1.frozen 6; have z7 := hp.k1.frozen 7; have z8 := hp.k1.frozen 8; have z9 := hp.k1.frozen 9; have z10 := hp.k1.frozen 10; have z11 := hp.k1.frozen 11; have z12 := hp.k1.frozen 12; have z13 := hp.k1.frozen 13; have z14 := hp.k1.frozen 14; clear hown5 hgr5 hp))
  clear r0 s0 z0 r1 s1 z1 r2 s2 z2 r3 s3 z3 r4 s4 z4 r5 s5 z5 r6 s6 z6 r7 s7 z7 r8 s8 z8 r9 s9 z9 r10 s10 z10 r11 s11 z11 r12 s12 z12 r13 s13 z13 r14 s14 z14 fr6 e5 e6 f5
  have F6 := Fr.only1 w5 ⟨w.heap.size, 6, none⟩ (.slice A2 R.ents.length c2)
  have K1 := HQ.out.k1.fr F6 (only_ne (by simp))
  obtain ⟨qb, qf⟩ := box15 K1 (.int .i64 R.kind) (.string R.low) (.string R.high) (.bool R.unb) (.int .i64 R.right) (.slice A1 R.rows.length c1) (.slice A2 R.ents.length c2) (.string R.key) (.string R.val) (.int .i64 R.page) (.int .i64 R.hpage) (.int .i64 R.hleft) (.string R.hkey) (.int .i64 R.nslot) (.int .i64 R.ngen)
  have q0 := qb.cell' (i := 0) rfl
  have q1 := qb.cell' (i := 1) rfl
  have q2 := qb.cell' (i := 2) rfl
  have q3 := qb.cell' (i := 3) rfl
  have q4 := qb.cell' (i := 4) rfl
  have q5 := qb.cell' (i := 5) rfl
  have q6 := qb.cell' (i := 6) rfl
  have q7 := qb.cell' (i := 7) rfl
  have q8 := qb.cell' (i := 8) rfl
  have q9 := qb.cell' (i := 9) rfl
  have q10 := qb.cell' (i := 10) rfl
  have q11 := qb.cell' (i := 11) rfl
  have q12 := qb.cell' (i := 12) rfl
  have q13 := qb.cell' (i := 13) rfl
  have q14 := qb.cell' (i := 14) rfl
  have O1 := own_fr (own_fr HQ.out.o1 F6 (fun k hk e => own_blk_ne HQ.out.o1 HQ.out.k0 (by decide) (by rw [hk, show k = w.heap.size from e]))) qf (fun k hk e => own_blk_ne HQ.out.o1 HQ.out.k1 (by decide) (by rw [hk, show k = w.heap.size + 1 from e]))
  have O2 := own_fr (own_fr HQ.out.o2 F6 (fun k hk e => own_blk_ne HQ.out.o2 HQ.out.k0 (by decide) (by rw [hk, show k = w.heap.size from e]))) qf (fun k hk e => own_blk_ne HQ.out.o2 HQ.out.k1 (by decide) (by rw [hk, show k = w.heap.size + 1 from e]))
  have G := (HQ.out.f5.then_only F6 (.inr (Nat.le_refl _))).then_only qf (.inr (by omega))
  clear K1 F6 qb qf
  refine bodyPost_ret (v := recV R (.slice A1 R.rows.length c1) (.slice A2 R.ents.length c2)) ?_ rfl ⟨A1, c1, A2, c2, rfl, ⟨O1, O2⟩, G⟩
  simp [results, Try.results23, go_sem, q0, q1, q2, q3, q4, q5, q6, q7, q8, q9, q10, q11, q12, q13, q14]
end Go.Proofs.Ytpjbncbmdfmlpaa
namespace Go.Proofs.Ytpjbncbmdfmlpaa
open Go.RowKit Go.BigFrame
set_option maxRecDepth 100000
set_option linter.unusedVariables false

def recFlat (L : List Ch) : List Value := (L.map recL).flatten
theorem recFlat_app (L M : List Ch) : recFlat (L ++ M) = recFlat L ++ recFlat M := by simp [recFlat]
theorem recFlat_get : ∀ (L : List Ch) (i : Nat) (C : Ch), L[i]? = some C → ∀ (j : Nat) (v : Value), (recL C)[j]? = some v → (recFlat L)[i * 15 + j]? = some v
  | [], i, C, h, _, _, _ => by simp at h
  | q :: L, 0, C, h, j, v, hv => by
    obtain rfl : q = C := by simpa using h
    have hj : j < (recL q).length := (List.getElem?_eq_some_iff.1 hv).1
    show (recL q ++ recFlat L)[0 * 15 + j]? = some v
    rw [show 0 * 15 + j = j by omega, List.getElem?_append_left hj]
    exact hv
  | q :: L, i + 1, C, h, j, v, hv => by
    have := recFlat_get L i C (by simpa using h) j v hv
    show (recL q ++ recFlat L)[(i + 1) * 15 + j]? = some v
    rw [List.getElem?_append_right (by simp; omega)]
    simp only [List.length_cons, List.length_nil]
    rw [show (i + 1) * 15 + j - (0 + 1 + 1 + 1 + 1 + 1 + 1 + 1 + 1 + 1 + 1 + 1 + 1 + 1 + 1 + 1) = i * 15 + j by omega]
    exact this
theorem record_info : (Try.prog.info? 58).map (fun i => (i.zero, i.size, i.bytes)) = some (some (.agg recZ8), 15, 192) := by kernel_rfl
/-- A record of the call's own. -/
structure ChOwn (w : World) (C : Ch) : Prop where
  own : RecOwn w 0 C.R (.slice C.A C.R.rows.length C.c) (.slice C.B C.R.ents.length C.d)
  low : SzOk C.R.low
  high : SzOk C.R.high
  key : SzOk C.R.key
  hkey : SzOk C.R.hkey
  ents : EtsOk C.R.ents
theorem ChOwn.ok {w : World} {C : Ch} (h : ChOwn w C) : ChOk w C := by
  obtain ⟨A', c', e, h1, h2, _⟩ := own_parts h.own.e
  have e1 : C.B = A' ∧ C.d = c' := by injection e with e1 e2 e3; exact ⟨e1, e3⟩
  exact ⟨h.own.reads, h.low, h.high, h.key, h.hkey, h.ents, by rw [e1.2]; exact h1, by rw [e1.2]; exact h2⟩
theorem ChOwn.keep {w w' : World} {C : Ch} (h : ChOwn w C) (hf : Fr none_ w w') : ChOwn w' C := ⟨h.own.keep hf, h.low, h.high, h.key, h.hkey, h.ents⟩
theorem ChOwn.beside {w w' : World} {C : Ch} (h : ChOwn w C) {base n : Nat} {v : Value} {xs : List Value} (ho : w.ownsRow base 58 15 v n xs) (hg : w.grownBy w' v.ownBlock) : ChOwn w' C := by
  refine ⟨?_, h.low, h.high, h.key, h.hkey, h.ents⟩
  have hf : Fr (fun k => v.ownBlock = some k) w w' := (Fr.refl _ w).grown hg (fun k hk => .inl hk)
  exact h.own.fr hf (fun k hk e => own_own_ne h.own.r ho (by decide) k hk e) (fun k hk e => own_own_ne h.own.e ho (by decide) k hk e)
/-- A row of records of the call's own, read as a chain. -/
theorem chReads_own {w : World} {base n c : Nat} {A : Option Addr} {Cs : List Ch} (ho : w.ownsRow base 58 15 (.slice A n c) n (recFlat Cs)) (hn : Cs.length = n) (hc : ∀ C ∈ Cs, ChOk w C) : ChReads w A n Cs := by
  refine ⟨hn, fun h0 => ?_⟩
  obtain ⟨A', c', e, _, _, hp⟩ := own_parts ho
  have e1 : A = A' := by injection e
  obtain ⟨g, hg, hl, hcell⟩ := hp h0
  refine ⟨g, 0, by rw [e1, hg], hl, fun k C hC => ⟨fun j v hv => ?_, hc C (List.mem_of_getElem? hC)⟩⟩
  have := hcell (k * 15 + j) v (recFlat_get Cs k C hC j v hv)
  rw [Nat.zero_add]
  exact this
end Go.Proofs.Ytpjbncbmdfmlpaa
namespace Go.Proofs.Ytpjbncbmdfmlpaa
open Go.RowKit
set_option linter.unusedVariables false
section
variable {P : Program} {fn : Func} (tmps : Array Value) (w : World)
/-- A function's results that lie in boxes, read whole. -/
theorem results_cell7 {t : Tmp} {ty : TypeId} (h : fn.results = #[.cell t ty]) (b o : Nat) (cs : List Value) (d : TypeDesc) (ha : tmps.getD t undef = .pointer (some ⟨b, o, none⟩)) (hc : w.rangeAt b o cs)
    (hu : P.underlying ty = some d) (hd : d.isRow = true) (hi : (P.info? ty).map (·.size) = some cs.length) : (results fn tmps).run P w = .ok (.agg cs.toArray) w := by
  have hl := run_loadVar_mid (P := P) w b o ty cs d hc hu hd hi
  have ha' : tmps[t]?.getD undef = .pointer (some ⟨b, o, none⟩) := by simpa using ha
  simp [results, h, ha', asAddr, hl]
theorem results_cell_tmp7 {t s : Tmp} {ty : TypeId} (h : fn.results = #[.cell t ty, .tmp s]) (b o : Nat) (cs : List Value) (d : TypeDesc) (ha : tmps.getD t undef = .pointer (some ⟨b, o, none⟩)) (hc : w.rangeAt b o cs)
    (hu : P.underlying ty = some d) (hd : d.isRow = true) (hi : (P.info? ty).map (·.size) = some cs.length) : (results fn tmps).run P w = .ok (.tuple #[.agg cs.toArray, tmps.getD s undef]) w := by
  have hl := run_loadVar_mid (P := P) w b o ty cs d hc hu hd hi
  have ha' : tmps[t]?.getD undef = .pointer (some ⟨b, o, none⟩) := by simpa using ha
  simp [results, h, ha', asAddr, hl]
end
end Go.Proofs.Ytpjbncbmdfmlpaa
namespace Go.Proofs.Ytpjbncbmdfmlpaa
open Go.RowKit Go.BigFrame
set_option maxRecDepth 100000
set_option linter.unusedVariables false

abbrev pgA (n hs hg : Int) (vc vr : Value) (leaf : Bool) (lv : Lw) (sl : Value) (iv : Vw) (si : Value) : Array Value := #[.int .i64 n, .int .i64 hs, .int .i64 hg, vc, vr, .bool leaf, .string lv.low, .string lv.high, .bool lv.unb, .int .i64 lv.right, sl, .bool lv.gone, .string iv.low, .string iv.high, .bool iv.unb, .int .i64 iv.right, si, .bool iv.held, .int .i64 iv.hp, .int .i64 iv.hl, .string iv.hk]
abbrev pgZ : Array Value := #[.int .i64 0, .int .i64 0, .int .i64 0, .slice none 0 0, .slice none 0 0, .bool false, .string ⟨#[]⟩, .string ⟨#[]⟩, .bool false, .int .i64 0, .slice none 0 0, .bool false, .string ⟨#[]⟩, .string ⟨#[]⟩, .bool false, .int .i64 0, .slice none 0 0, .bool false, .int .i64 0, .int .i64 0, .string ⟨#[]⟩]
theorem page_size : (Try.prog.info? 45).map (·.size) = some 21 := by kernel_rfl
theorem pref_info : (Try.prog.info? 33).map (fun i => (i.zero, i.size, i.bytes)) = some (some (.agg #[.int .i64 0, .int .i64 0]), 2, 16) := by kernel_rfl
/-- A row of refs, flat. -/
def rpFlat (L : List (Int × Int)) : List Value := (L.map fun p => [.int .i64 p.1, .int .i64 p.2]).flatten
theorem rpFlat_one (L : List (Int × Int)) : ∀ u ∈ rpFlat L, u.oneCell' = true := by
  intro u hu
  simp only [rpFlat, List.mem_flatten, List.mem_map] at hu
  obtain ⟨l, ⟨p, _, rfl⟩, hu⟩ := hu
  simp only [List.mem_cons, List.not_mem_nil, or_false] at hu
  rcases hu with rfl | rfl <;> rfl
theorem upM_kind {V V' : Vw} {R : Rc} (h : upM V R = some V') : KindOk R := by
  unfold upM at h
  unfold KindOk
  split at h
  · omega
  split at h
  · omega
  split at h
  · omega
  split at h
  · omega
  · cases h
theorem foldU_kind : ∀ {l : List Rc} {V : Vw}, foldU l = some V → ∀ R ∈ l, KindOk R
  | [], V, h, R, hR => by cases hR
  | [b], V, h, R, hR => by
    obtain rfl : R = b := by simpa using hR
    unfold foldU at h
    split at h
    · rename_i hb; unfold KindOk; omega
    · cases h
  | r :: s :: t, V, h, R, hR => by
    rw [foldU_cons _ (by simp)] at h
    cases hf : foldU (s :: t) with
    | none => rw [hf] at h; cases h
    | some V0 =>
      rw [hf] at h
      rcases List.mem_cons.1 hR with rfl | hR
      · exact upM_kind h
      · exact foldU_kind hf R hR
theorem foldU_no {l : List Rc} (h : (∀ R ∈ l, KindOk R) → foldU l = none) : foldU l = none := by
  cases hf : foldU l with
  | none => rfl
  | some V => rw [h (foldU_kind hf)] at hf; cases hf
theorem upL_kind {V V' : Lw} {R : Rc} (h : upL V R = some V') : KindL R := by
  unfold upL at h
  unfold KindL
  split at h
  · cases h
  split at h
  · omega
  split at h
  · omega
  split at h
  · omega
  split at h
  · omega
  split at h
  · omega
  · cases h
theorem foldL_kind : ∀ {l : List Rc} {V : Lw}, foldL l = some V → ∀ R ∈ l, KindL R
  | [], V, h, R, hR => by cases hR
  | [b], V, h, R, hR => by
    obtain rfl : R = b := by simpa using hR
    unfold foldL at h
    split at h
    · rename_i hb; unfold KindL; omega
    · cases h
  | r :: s :: t, V, h, R, hR => by
    rw [foldL_cons _ (by simp)] at h
    cases hf : foldL (s :: t) with
    | none => rw [hf] at h; cases h
    | some V0 =>
      rw [hf] at h
      rcases List.mem_cons.1 hR with rfl | hR
      · exact upL_kind h
      · exact foldL_kind hf R hR
theorem foldL_bad {l : List Rc} (h : ∃ R ∈ l, ¬ KindL R) : foldL l = none := by
  obtain ⟨R, hR, hn⟩ := h
  cases hf : foldL l with
  | none => rfl
  | some V => exact absurd (foldL_kind hf R hR) hn
theorem LwIn.base {b0 b : Nat} {w : World} {V : Lw} {A : Option Addr} {c : Nat} (h : LwIn b w V A c) (hb : b0 ≤ b) : LwIn b0 w V A c := ⟨own_base h.own hb, h.ok⟩
def leafB (l : List Rc) : Bool := match l[l.length - 1]? with
  | some R => decide (R.kind = 1)
  | none => false
/-- What a chain's page is: is it a leaf, and its views. -/
noncomputable def ofM (l : List Rc) : Option (Bool × Lw × Vw) :=
  if leafB l then (foldL l).map fun v => (true, v, Vw.zero) else (foldU l).map fun v => (false, Lw.zero, v)
/-- A page that Of told. -/
structure PgIn (b0 : Nat) (w : World) (L : List Rc) (refs : List (Int × Int)) (lv : Lw) (iv : Vw) (A : Option Addr) (c : Nat) (B : Option Addr) (d : Nat) (C : Option Addr) (x : Nat) (D : Option Addr) (y : Nat) : Prop where
  lv : LwIn b0 w lv A c
  iv : VwIn w iv B d
  ch : ∃ Cs : List Ch, Cs.map (·.R) = L ∧ w.ownsRow b0 58 15 (.slice C L.length x) L.length (recFlat Cs) ∧ ∀ E ∈ Cs, ChOwn w E
  rf : w.ownsRow b0 33 2 (.slice D refs.length y) refs.length (rpFlat refs)
def OfPost (n hs hg : Int) (L : List Rc) (refs : List (Int × Int)) (w : World) (e : Ending) (w' : World) : Prop :=
  (∃ leaf lv iv A c B d C x D y, ofM L = some (leaf, lv, iv) ∧ e = .returned (.tuple #[.agg (pgA n hs hg (.slice C L.length x) (.slice D refs.length y) leaf lv (.slice A lv.rows.length c) iv (.slice B iv.ents.length d)), .nilIface]) ∧ PgIn w.heap.size w' L refs lv iv A c B d C x D y ∧ Fr none_ w w') ∨
  (∃ k : Int, (k = 9 ∨ k = 10) ∧ ofM L = none ∧ e = .returned (.tuple #[.agg pgZ, errV k]) ∧ Fr none_ w w')
theorem ChOwn.only {w w' : World} {C : Ch} {g : Nat} {t : TypeId} {cs : Array Value} (h : ChOwn w C) (hf : Fr (only g) w w') (hg : Blk w g t cs) (h1 : 62 ≠ t) (h2 : 64 ≠ t) : ChOwn w' C := ⟨h.own.only hf hg h1 h2, h.low, h.high, h.key, h.hkey, h.ents⟩
/-- A page's box is none of its entries' rows: no text stands ahead of a number in it. -/
theorem VwIn.farP {w w' : World} {V : Vw} {A : Option Addr} {c X : Nat} {n hs hg : Int} {vc vr sl si : Value} {leaf : Bool} {lv : Lw} {iv : Vw} (h : VwIn w V A c) (hX : Blk w X 45 (pgA n hs hg vc vr leaf lv sl iv si)) (hsl : ∃ A n c, sl = .slice A n c) (hsi : ∃ A n c, si = .slice A n c) (hvr : ∃ A n c, vr = .slice A n c) (hf : Fr (only X) w w') : VwIn w' V A c := by
  refine ⟨?_, h.cap, h.capm, h.ok⟩
  rcases Nat.eq_zero_or_pos V.ents.length with h0 | h0
  · exact ⟨h.rd.1, fun hn => absurd hn (by omega)⟩
  · obtain ⟨p, hp⟩ : ∃ p, V.ents[0]? = some p := ⟨_, List.getElem?_eq_getElem h0⟩
    obtain ⟨b, off, rfl, hb, c0, c1⟩ := et_at h.rd hp
    refine h.rd.fr hf (fun ad e => ?_)
    cases e
    intro e
    have e' : b = X := e
    subst e'
    rw [hX.cell] at c0 c1
    simp only [Nat.zero_mul, Nat.add_zero] at c0 c1
    obtain ⟨_, _, _, rfl⟩ := hsl
    obtain ⟨_, _, _, rfl⟩ := hsi
    obtain ⟨_, _, _, rfl⟩ := hvr
    match off, c0, c1 with
    | 0, c0, c1 => simp at c0
    | 1, c0, c1 => simp at c0
    | 2, c0, c1 => simp at c0
    | 3, c0, c1 => simp at c1
    | 4, c0, c1 => simp at c0
    | 5, c0, c1 => simp at c0
    | 6, c0, c1 => simp at c1
    | 7, c0, c1 => simp at c1
    | 8, c0, c1 => simp at c0
    | 9, c0, c1 => simp at c0
    | 10, c0, c1 => simp at c0
    | 11, c0, c1 => simp at c0
    | 12, c0, c1 => simp at c1
    | 13, c0, c1 => simp at c1
    | 14, c0, c1 => simp at c0
    | 15, c0, c1 => simp at c0
    | 16, c0, c1 => simp at c0
    | 17, c0, c1 => simp at c0
    | 18, c0, c1 => simp at c0
    | 19, c0, c1 => simp at c0
    | 20, c0, c1 => simp at c1
    | k + 21, c0, c1 => simp at c0
/-- .. kept where a page's box was turned. -/
theorem PgIn.far {b0 : Nat} {w w' : World} {L : List Rc} {refs : List (Int × Int)} {lv : Lw} {iv : Vw} {A : Option Addr} {c : Nat} {B : Option Addr} {d : Nat} {C : Option Addr} {x : Nat} {D : Option Addr} {y X : Nat} {n hs hg : Int} {vc vr sl si : Value} {leaf : Bool} {lv' : Lw} {iv' : Vw} (h : PgIn b0 w L refs lv iv A c B d C x D y) (hX : Blk w X 45 (pgA n hs hg vc vr leaf lv' sl iv' si)) (hsl : ∃ A n c, sl = .slice A n c) (hsi : ∃ A n c, si = .slice A n c) (hvr : ∃ A n c, vr = .slice A n c) (hf : Fr (only X) w w') : PgIn b0 w' L refs lv iv A c B d C x D y := by
  obtain ⟨Cs, h1, h2, h3⟩ := h.ch
  refine ⟨h.lv.far hX (by decide) hf, h.iv.farP hX hsl hsi hvr hf, ⟨Cs, h1, own_fr h2 hf (fun k hk e => own_blk_ne h2 hX (by decide) (by rw [hk, show k = X from e])), fun E hE => (h3 E hE).only hf hX (by decide) (by decide)⟩, own_fr h.rf hf (fun k hk e => own_blk_ne h.rf hX (by decide) (by rw [hk, show k = X from e]))⟩
def OfCut (n hs hg : Int) (L : List Rc) (refs : List (Int × Int)) (w : World) (X : Nat) (u : Value) (wq : World) : Prop :=
  (∃ leaf lv iv A c B d C x D y, ofM L = some (leaf, lv, iv) ∧ u = .nilIface ∧ Blk wq X 45 (pgA n hs hg (.slice C L.length x) (.slice D refs.length y) leaf lv (.slice A lv.rows.length c) iv (.slice B iv.ents.length d)) ∧ PgIn w.heap.size wq L refs lv iv A c B d C x D y ∧ Blk wq (w.heap.size + 1) 45 pgZ ∧ Fr none_ w wq) ∨
  (∃ k : Int, (k = 9 ∨ k = 10) ∧ ofM L = none ∧ u = errV k ∧ Blk wq (w.heap.size + 1) 45 pgZ ∧ Fr none_ w wq)
theorem LwIn.zero (b0 : Nat) (w : World) : LwIn b0 w Lw.zero none 0 := ⟨World.ownsRow_nil _ _ _ _, ⟨SzOk.nil, SzOk.nil, by show (0:Nat) ≤ 300000; omega, fun p hp => by simp [Lw.zero] at hp⟩⟩
theorem VwIn.zero (w : World) : VwIn w Vw.zero none 0 := ⟨Reads.nil_, Nat.le_refl _, by simp, ⟨SzOk.nil, SzOk.nil, SzOk.nil, ⟨by show (0:Nat) ≤ 1000; omega, fun p hp => by simp [Vw.zero] at hp⟩⟩⟩
/-- The page in its box, with the chain up to k. -/
structure OfSt (n hs hg : Int) (L : List Ch) (refs : List (Int × Int)) (w : World) (X k : Nat) (wr : World) : Prop where
  st : ∃ (vc vr : Value) (Cs : List Ch), Cs.length = k ∧ Cs.map (·.R) = (L.take k).map (·.R) ∧ Blk wr X 45 (pgA n hs hg vc vr false Lw.zero (.slice none 0 0) Vw.zero (.slice none 0 0)) ∧ wr.ownsRow w.heap.size 58 15 vc k (recFlat Cs) ∧ (∀ C ∈ Cs, ChOwn wr C) ∧ wr.ownsRow w.heap.size 33 2 vr refs.length (rpFlat refs)
  bo : Blk wr (w.heap.size + 1) 45 pgZ
  fr : Fr none_ w wr
theorem OfSt.keep {n hs hg : Int} {L : List Ch} {refs : List (Int × Int)} {w w1 w2 : World} {X k : Nat} (h : OfSt n hs hg L refs w X k w1) (hf : Fr none_ w1 w2) : OfSt n hs hg L refs w X k w2 := by
  obtain ⟨vc, vr, Cs, h1, h2, h3, h4, h5, h6⟩ := h.st
  exact ⟨⟨vc, vr, Cs, h1, h2, h3.fr hf id, own_none h4 hf, fun C hC => (h5 C hC).keep hf, own_none h6 hf⟩, h.bo.fr hf id, h.fr.then_none hf⟩
set_option maxHeartbeats 8000000 in
theorem of_ok (n hs hg : Int) (A : Option Addr) (m cap : Nat) (L : List Ch) (refs : List (Int × Int)) (RA : Option Addr) (rc : Nat) (w : World) (h : ChReads w A m L) (hn : m ≤ 400) (hs7 : RwOkL L) (he : ∀ C ∈ L, C.R.ents.length ≤ 500) (hr : Reads w 2 RA refs.length (rpFlat refs)) (hrl : refs.length ≤ 5000) :
    Calls Try.prog 24 #[.int .i64 n, .agg #[.int .i64 hs, .int .i64 hg], .slice A m cap, .slice RA refs.length rc] w (OfPost n hs hg (L.map (·.R)) refs w) := by
  obtain ⟨i0, hi0, hz0, hs0, hb0⟩ := info_parts pref_info
  have Hi := hid_ (And.intro hi0 (And.intro hz0 (And.intro hs0 hb0)))
  obtain ⟨j0, hj0, hy0, ht0, hc0⟩ := info_parts record_info
  have Hj := hid_ (And.intro hj0 (And.intro hy0 (And.intro ht0 hc0)))
  have hln := h.1
  obtain ⟨w0, hw0⟩ : ∃ z, z = (w.alloc (.cells #[.int .i64 hs, .int .i64 hg] 33)).alloc (.cells pgZ 45) := ⟨_, rfl⟩
  have f0 : Fr none_ w w0 := by rw [hw0]; exact ((Fr.refl none_ w).alloc _).alloc _
  have BH : Hid (Blk w0 w.heap.size 33 #[.int .i64 hs, .int .i64 hg]) := hid_ (by rw [hw0]; exact (Blk.new w _ _).alloc _)
  have BO : Hid (Blk w0 (w.heap.size + 1) 45 pgZ) := hid_ (by rw [hw0]; exact Blk.new7 _ _ (by simp))
  have F0 := hid_ f0
  have H := hid_ h
  have HS := hid_ hs7
  have HE := hid_ he
  have HR := hid_ (hr.none_fr f0)
  have hsz0 := BO.out.lt
  clear h f0 hs7 he hr hi0 hz0 hs0 hb0 hj0 hy0 ht0 hc0
  go_enter Try.func24, Try.ntmps24
  go_upto_region 1 with fail
  change Code.wp _ _ _ _ ((w.alloc (.cells #[.int .i64 hs, .int .i64 hg] 33)).alloc (.cells pgZ 45))
  rw [← hw0]
  clear hw0
  go_cut [10] (fun v wq => ∃ X, v = .pointer (some ⟨X, 0, none⟩) ∧ w.heap.size + 1 < X ∧ OfSt n hs hg L refs w X 0 wq)
  case first =>
    have g0 : w0.cell? ⟨w.heap.size, 0, none⟩ = some (.int .i64 hs) := BH.out.cell' rfl
    have g1 : w0.cell? ⟨w.heap.size, 1, none⟩ = some (.int .i64 hg) := BH.out.cell' rfl
    have hS0 : (fun w' : World => Fr none_ w0 w') w0.drew := (Fr.refl none_ w0).drew
    refine wp_region_U (m := 7) (S := fun w' : World => Fr none_ w0 w') (by kernel_rfl) ?_
    refine wpAnyU_take2 (i := 0) (v := _) rfl (by kernel_rfl) (by kernel_rfl) (by kernel_rfl) (by kernel_rfl) (fun _ _ _ h => h) (.inl ⟨by kernel_rfl, fun w' hS => by have s_g0 := cellFr g0 hS; have s_g1 := cellFr g1 hS; go_simp; rfl⟩) hS0 ?_
    refine wpAnyU_take2 (i := 1) (v := _) rfl (by kernel_rfl) (by kernel_rfl) (by kernel_rfl) (by kernel_rfl) (fun _ _ _ h => h) (.inl ⟨by kernel_rfl, fun w' hS => by have s_g0 := cellFr g0 hS; have s_g1 := cellFr g1 hS; go_simp; rfl⟩) hS0 ?_
    refine wpAnyU_take2 (i := 3) (v := _) rfl (by kernel_rfl) (by kernel_rfl) (by kernel_rfl) (by kernel_rfl) (fun _ _ _ h => h) (.inl ⟨by kernel_rfl, fun w' hS => by have s_g0 := cellFr g0 hS; have s_g1 := cellFr g1 hS; go_simp; rfl⟩) hS0 ?_
    clear hS0 g0 g1
    refine wpAnyU_two7 (i := 2) (j := 6) rfl rfl (by kernel_rfl) (by kernel_rfl) (by kernel_rfl) ?_ ?_
    · go_simp
      refine ⟨(Fr.refl none_ w0).drew.alloc _, ?_⟩
      refine wpAnyU_two7 (i := 4) (j := 6) rfl rfl (by kernel_rfl) (by kernel_rfl) (by kernel_rfl) ?_ ?_
      · skip
        obtain ⟨w3, hw3⟩ : ∃ z, z = (w0.alloc (.cells #[] 33)).drew := ⟨_, rfl⟩
        have f3 : Fr none_ w0 w3 := by rw [hw3]; repeat (first | exact Fr.refl none_ w0 | apply Fr.drew | apply Fr.alloc)
        have O3 : w3.ownsRow w.heap.size 33 2 (.slice (some ⟨w0.heap.size, 0, none⟩) 0 0) 0 [] := by rw [hw3]; exact (own_empty_at w0 _ _ _ _ (by omega) rfl).drew
        have HB3 := hid_ (show w0.heap.size ≤ w0.heap.size by omega)
        change Oper.wp _ _ _ ((w0.alloc (.cells #[] 33)).drew) _ _
        rw [← hw3]
        refine wp_append_any _ (.tmp 17) (.tmp 18) 35 rfl w.heap.size 33 i0 _ 2 16 Try.underlying35 Hi.out.1 Hi.out.2.1 Hi.out.2.2.1 Hi.out.2.2.2 rfl (by omega) (.slice (some ⟨w0.heap.size, 0, none⟩) 0 0) 0 [] rfl O3 RA refs.length rc (rpFlat refs) rfl (HR.out.none_fr f3) (rpFlat_one _) (by simp only [maxLen]; omega) (by omega) (by have := f3.size; omega) ?_
        intro A' c' w4 hown hgr
        simp only [Nat.zero_add, List.nil_append] at hown ⊢
        have F4 : Fr none_ w0 w4 := f3.grown hgr (fun k hk => .inr (by simp [Value.ownBlock] at hk; have := HB3.out; omega))
        have hs4 := F4.size
        refine ⟨.inr F4, ?_⟩
        refine wpAnyU_take2 (i := 5) (v := _) rfl (by kernel_rfl) (by kernel_rfl) (by kernel_rfl) (by kernel_rfl) (fun _ _ _ h => h) (.inl ⟨by kernel_rfl, fun w' hS => by skip; go_simp; rfl⟩) F4 ?_
        refine wpAnyU_one7 (i := 6) rfl (by kernel_rfl) (by kernel_rfl) ?_
        go_simp
        obtain ⟨w5, hw5⟩ : ∃ z, z = w4.alloc (.cells pgZ 45) := ⟨_, rfl⟩
        have F5 : Fr none_ w0 w5 := by rw [hw5]; exact F4.alloc _
        have X5 : Blk w5 w4.heap.size 45 pgZ := by rw [hw5]; exact Blk.new w4 _ _
        have O5 := own_none hown (by rw [hw5]; exact (Fr.refl none_ w4).alloc (.cells pgZ 45) : Fr none_ w4 w5)
        rw [← hw5]
        refine ⟨F5, ?_⟩
        refine wpAnyU_one7 (i := 7) rfl (by kernel_rfl) (by kernel_rfl) ?_
        refine wp_store_mid 45 (.tmp 10) (.tmp 20) rfl (w4.heap.size) 0 (pgA n hs hg (.slice none 0 0) (.slice A' refs.length c') false Lw.zero (.slice none 0 0) Vw.zero (.slice none 0 0)) rfl rfl (X5.there7 rfl) page_size (by simp [Value.oneCell']) ?_
        refine ⟨.inl (by decide), ?_⟩
        refine wpAnyU_done (by kernel_rfl) ?_ _
        have ov := X5.over7 (pgA n hs hg (.slice none 0 0) (.slice A' refs.length c') false Lw.zero (.slice none 0 0) Vw.zero (.slice none 0 0)).toList rfl
        obtain ⟨w6, hw6⟩ : ∃ z, z = w5.setCells (w4.heap.size) 0 (pgA n hs hg (.slice none 0 0) (.slice A' refs.length c') false Lw.zero (.slice none 0 0) Vw.zero (.slice none 0 0)).toList := ⟨_, rfl⟩
        rw [← hw6] at ov
        rw [← hw6]
        have HST : Hid (OfSt n hs hg L refs w (w4.heap.size) 0 w6) := hid_ ⟨⟨_, _, [], rfl, rfl, ov.1, World.ownsRow_nil _ _ _ _, (fun C hC => by simp at hC), own_fr O5 ov.2 (fun k hk e => own_blk_ne O5 X5 (by decide) (by rw [hk, show k = w4.heap.size from e]))⟩, ((BO.out.fr F5 id).fr ov.2 (only_ne (by omega))), (F0.out.then_none F5).then_only ov.2 (.inr (by omega))⟩
        clear hw6 ov
        go_wp2
        go_meet
        case rel => exact ⟨_, rfl, by omega, HST.out⟩
      · go_simp
        refine ⟨((Fr.refl none_ w0).drew.alloc _).alloc _, ?_⟩
        refine wpAnyU_one7 (i := 4) rfl (by kernel_rfl) (by kernel_rfl) ?_
        obtain ⟨w3, hw3⟩ : ∃ z, z = ((w0.alloc (.cells #[] 33)).alloc (.cells pgZ 45)).drew := ⟨_, rfl⟩
        have f3 : Fr none_ w0 w3 := by rw [hw3]; repeat (first | exact Fr.refl none_ w0 | apply Fr.drew | apply Fr.alloc)
        have hb0 := f3.size
        have O3 : w3.ownsRow w.heap.size 33 2 (.slice (some ⟨w0.heap.size, 0, none⟩) 0 0) 0 [] := by
          rw [hw3]
          exact ((own_empty_at w0 _ _ _ _ (by omega) rfl).alloc _).drew
        have HB3 := hid_ (show w0.heap.size ≤ w0.heap.size by omega)
        have X3 : Blk w3 (w0.heap.size + 1) 45 pgZ := by
          rw [hw3]
          exact (Blk.new7 (w := w0.alloc (.cells #[] 33)) _ _ (by simp)).drew
        change Oper.wp _ _ _ (((w0.alloc (.cells #[] 33)).alloc (.cells pgZ 45)).drew) _ _
        rw [← hw3]
        refine wp_append_any _ (.tmp 17) (.tmp 18) 35 rfl w.heap.size 33 i0 _ 2 16 Try.underlying35 Hi.out.1 Hi.out.2.1 Hi.out.2.2.1 Hi.out.2.2.2 rfl (by omega) (.slice (some ⟨w0.heap.size, 0, none⟩) 0 0) 0 [] rfl O3 RA refs.length rc (rpFlat refs) rfl (HR.out.none_fr f3) (rpFlat_one _) (by simp only [maxLen]; omega) (by omega) (by have := f3.size; omega) ?_
        intro A' c' w4 hown hgr
        simp only [Nat.zero_add, List.nil_append] at hown ⊢
        have F4 : Fr none_ w0 w4 := f3.grown hgr (fun k hk => .inr (by simp [Value.ownBlock] at hk; have := HB3.out; omega))
        have hs4 := F4.size
        have X4 : Blk w4 (w0.heap.size + 1) 45 pgZ := X3.fr (Fr.grown (S := fun b => (Value.slice (some ⟨w0.heap.size, 0, none⟩) 0 0).ownBlock = some b) (Fr.refl _ _) hgr (fun k hk => .inl hk)) (fun hk => by simp [Value.ownBlock] at hk)
        refine ⟨.inr F4, ?_⟩
        refine wpAnyU_take2 (i := 5) (v := _) rfl (by kernel_rfl) (by kernel_rfl) (by kernel_rfl) (by kernel_rfl) (fun _ _ _ h => h) (.inl ⟨by kernel_rfl, fun w' hS => by skip; go_simp; rfl⟩) F4 ?_
        refine wpAnyU_one7 (i := 7) rfl (by kernel_rfl) (by kernel_rfl) ?_
        refine wp_store_mid 45 (.tmp 10) (.tmp 20) rfl (w0.heap.size + 1) 0 (pgA n hs hg (.slice none 0 0) (.slice A' refs.length c') false Lw.zero (.slice none 0 0) Vw.zero (.slice none 0 0)) rfl rfl (X4.there7 rfl) page_size (by simp [Value.oneCell']) ?_
        refine ⟨.inl (by decide), ?_⟩
        refine wpAnyU_done (by kernel_rfl) ?_ _
        have ov := X4.over7 (pgA n hs hg (.slice none 0 0) (.slice A' refs.length c') false Lw.zero (.slice none 0 0) Vw.zero (.slice none 0 0)).toList rfl
        obtain ⟨w6, hw6⟩ : ∃ z, z = w4.setCells (w0.heap.size + 1) 0 (pgA n hs hg (.slice none 0 0) (.slice A' refs.length c') false Lw.zero (.slice none 0 0) Vw.zero (.slice none 0 0)).toList := ⟨_, rfl⟩
        rw [← hw6] at ov
        rw [← hw6]
        have HST : Hid (OfSt n hs hg L refs w (w0.heap.size + 1) 0 w6) := hid_ ⟨⟨_, _, [], rfl, rfl, ov.1, World.ownsRow_nil _ _ _ _, (fun C hC => by simp at hC), own_fr hown ov.2 (fun k hk e => own_blk_ne hown X4 (by decide) (by rw [hk, show k = w0.heap.size + 1 from e]))⟩, ((BO.out.fr F4 id).fr ov.2 (only_ne (by omega))), (F0.out.then_none F4).then_only ov.2 (.inr (by omega))⟩
        clear hw6 ov
        go_wp2
        go_meet
        case rel => exact ⟨_, rfl, by omega, HST.out⟩
    · go_simp
      refine ⟨(Fr.refl none_ w0).drew.alloc _, ?_⟩
      refine wpAnyU_one7 (i := 2) rfl (by kernel_rfl) (by kernel_rfl) ?_
      go_simp
      refine ⟨((Fr.refl none_ w0).drew.alloc _).alloc _, ?_⟩
      refine wpAnyU_one7 (i := 4) rfl (by kernel_rfl) (by kernel_rfl) ?_
      obtain ⟨w3, hw3⟩ : ∃ z, z = ((w0.alloc (.cells pgZ 45)).alloc (.cells #[] 33)).drew := ⟨_, rfl⟩
      have f3 : Fr none_ w0 w3 := by rw [hw3]; repeat (first | exact Fr.refl none_ w0 | apply Fr.drew | apply Fr.alloc)
      have hb0 := f3.size
      have O3 : w3.ownsRow w.heap.size 33 2 (.slice (some ⟨w0.heap.size + 1, 0, none⟩) 0 0) 0 [] := by
        rw [hw3]
        exact (own_empty_at (w0.alloc (.cells pgZ 45)) _ _ _ _ (by simp; omega) (by simp)).drew
      have HB3 := hid_ (show w0.heap.size ≤ w0.heap.size + 1 by omega)
      have X3 : Blk w3 (w0.heap.size) 45 pgZ := by
        rw [hw3]
        exact ((Blk.new w0 _ _).alloc _).drew
      change Oper.wp _ _ _ (((w0.alloc (.cells pgZ 45)).alloc (.cells #[] 33)).drew) _ _
      rw [← hw3]
      refine wp_append_any _ (.tmp 17) (.tmp 18) 35 rfl w.heap.size 33 i0 _ 2 16 Try.underlying35 Hi.out.1 Hi.out.2.1 Hi.out.2.2.1 Hi.out.2.2.2 rfl (by omega) (.slice (some ⟨w0.heap.size + 1, 0, none⟩) 0 0) 0 [] rfl O3 RA refs.length rc (rpFlat refs) rfl (HR.out.none_fr f3) (rpFlat_one _) (by simp only [maxLen]; omega) (by omega) (by have := f3.size; omega) ?_
      intro A' c' w4 hown hgr
      simp only [Nat.zero_add, List.nil_append] at hown ⊢
      have F4 : Fr none_ w0 w4 := f3.grown hgr (fun k hk => .inr (by simp [Value.ownBlock] at hk; have := HB3.out; omega))
      have hs4 := F4.size
      have X4 : Blk w4 (w0.heap.size) 45 pgZ := X3.fr (Fr.grown (S := fun b => (Value.slice (some ⟨w0.heap.size + 1, 0, none⟩) 0 0).ownBlock = some b) (Fr.refl _ _) hgr (fun k hk => .inl hk)) (fun hk => by simp [Value.ownBlock] at hk)
      refine ⟨.inr F4, ?_⟩
      refine wpAnyU_take2 (i := 5) (v := _) rfl (by kernel_rfl) (by kernel_rfl) (by kernel_rfl) (by kernel_rfl) (fun _ _ _ h => h) (.inl ⟨by kernel_rfl, fun w' hS => by skip; go_simp; rfl⟩) F4 ?_
      refine wpAnyU_one7 (i := 7) rfl (by kernel_rfl) (by kernel_rfl) ?_
      refine wp_store_mid 45 (.tmp 10) (.tmp 20) rfl (w0.heap.size) 0 (pgA n hs hg (.slice none 0 0) (.slice A' refs.length c') false Lw.zero (.slice none 0 0) Vw.zero (.slice none 0 0)) rfl rfl (X4.there7 rfl) page_size (by simp [Value.oneCell']) ?_
      refine ⟨.inl (by decide), ?_⟩
      refine wpAnyU_done (by kernel_rfl) ?_ _
      have ov := X4.over7 (pgA n hs hg (.slice none 0 0) (.slice A' refs.length c') false Lw.zero (.slice none 0 0) Vw.zero (.slice none 0 0)).toList rfl
      obtain ⟨w6, hw6⟩ : ∃ z, z = w4.setCells (w0.heap.size) 0 (pgA n hs hg (.slice none 0 0) (.slice A' refs.length c') false Lw.zero (.slice none 0 0) Vw.zero (.slice none 0 0)).toList := ⟨_, rfl⟩
      rw [← hw6] at ov
      rw [← hw6]
      have HST : Hid (OfSt n hs hg L refs w (w0.heap.size) 0 w6) := hid_ ⟨⟨_, _, [], rfl, rfl, ov.1, World.ownsRow_nil _ _ _ _, (fun C hC => by simp at hC), own_fr hown ov.2 (fun k hk e => own_blk_ne hown X4 (by decide) (by rw [hk, show k = w0.heap.size from e]))⟩, ((BO.out.fr F4 id).fr ov.2 (only_ne (by omega))), (F0.out.then_none F4).then_only ov.2 (.inr (by omega))⟩
      clear hw6 ov
      go_wp2
      go_meet
      case rel => exact ⟨_, rfl, by omega, HST.out⟩
  case rest =>
    obtain ⟨X, rfl, hX, hst⟩ := hcut
    have ST := hid_ hst
    clear hst
    clear BH BO F0 HR hsz0
    go_wp2_with fail
    go_loopw [23] (fun i wr => ∃ k : Nat, k ≤ m ∧ i = .int .i64 k ∧ OfSt n hs hg L refs w X k wr) (fun i _ => m - (intOf i).toNat)
    case atStart => exact ⟨0, Nat.zero_le _, rfl, ST.out⟩
    case round =>
      obtain ⟨k, hk, rfl, hst⟩ := hrel
      have S2 := hid_ hst
      clear hst
      have hi0 : (0 : Int) ≤ (k : Int) := Int.natCast_nonneg _
      by_cases hlt : k < m
      · obtain ⟨E, hE⟩ : ∃ E, L[k]? = some E := ⟨_, List.getElem?_eq_getElem (by omega)⟩
        obtain ⟨b, off, rfl, hb, hR, hO⟩ := (H.out.keep S2.out.fr).at_ hE
        have hi1 : (k : Int) < (m : Int) := by omega
        have HR5 := hid_ hR
        have HO := hid_ hO
        have HEk := hid_ hE
        have hrow := (HS.out E (List.mem_of_getElem? hE)).2.2
        have hent := hO.ents.1
        clear hR hO hE
        go_upto_region 5 with (first | (refine wpList_load_mid rfl 58 (.tmp 25) rfl b (off + k * 15) rfl (recL E) _ HR5.out Try.underlying58 rfl rec_size8 ?_) | (refine wpList_store_mid rfl 58 (.tmp 12) (.tmp 26) rfl wr.heap.size 0 (recL E).toArray rfl rfl (new_there wr _ recZ8) rec_size8 (rec_one E) ?_; obtain ⟨w1, hw1⟩ : ∃ w1, w1 = (wr.alloc (.cells recZ8 58)).setCells wr.heap.size 0 (recL E) := ⟨_, rfl⟩; change wpList _ _ _ _ _ ((wr.alloc (.cells recZ8 58)).setCells wr.heap.size 0 (recL E)); rw [← hw1]; have P1 : Hid (Blk w1 wr.heap.size 58 (recL E).toArray ∧ Fr none_ wr w1) := hid_ (by rw [hw1]; exact new_copy wr _ recZ8 _ rfl); clear hw1))
        have S3 := hid_ (S2.out.keep P1.out.2)
        obtain ⟨vc, vr, Cs, hcl, hcm, hbx, hown, hcs, hrf⟩ := S3.out.st
        obtain ⟨oA, oc, rfl⟩ := hown.shape
        have HCL := hid_ hcl
        have HCM := hid_ hcm
        have BX := hid_ hbx
        have O := hid_ hown
        have HCS := hid_ hcs
        have RF := hid_ hrf
        have hsf := S3.out.fr.size
        have hxl := hbx.lt
        clear hcl hcm hown hcs hrf
        have x3 : w1.cell? ⟨X, 3, none⟩ = some (.slice oA k oc) := BX.out.cell' rfl
        clear hbx
        have hS0 : (fun w' : World => Fr none_ w1 w') w1.drew := (Fr.refl none_ w1).drew
        refine wp_region_U (m := 5) (S := fun w' : World => Fr none_ w1 w') (by kernel_rfl) ?_
        refine wpAnyU_take2 (i := 0) (v := _) rfl (by kernel_rfl) (by kernel_rfl) (by kernel_rfl) (by kernel_rfl) (fun _ _ _ h => h) (.inl ⟨by kernel_rfl, fun w' hS => by have s_x3 := cellFr x3 hS; go_simp; rfl⟩) hS0 ?_
        refine wpAnyU_take2 (i := 1) (v := _) rfl (by kernel_rfl) (by kernel_rfl) (by kernel_rfl) (by kernel_rfl) (fun _ _ _ h => h) (.inl ⟨by kernel_rfl, fun w' hS => by have s_x3 := cellFr x3 hS; go_simp; rfl⟩) hS0 ?_
        refine wpAnyU_take2 (i := 2) (v := _) rfl (by kernel_rfl) (by kernel_rfl) (by kernel_rfl) (by kernel_rfl) (fun _ _ _ h => h) (yieldsIf_load_mid (by kernel_rfl) 58 (.tmp 12) rfl wr.heap.size 0 rfl (recL E) _ (fun w' hS i v hv => cellFr (P1.out.1.range7 i v hv) hS) Try.underlying58 rfl rec_size8) hS0 ?_
        clear hS0 x3
        refine wpAnyU_one7 (i := 3) rfl (by kernel_rfl) (by kernel_rfl) ?_
        go_simp
        refine (clone_big E.R E.A E.c E.B E.d w1.drew ((HO.out.rd.keep P1.out.2).keep (Fr.refl none_ w1).drew) (by omega) hent).mono ?_
        rintro e w2 ⟨A1, c1, B1, d1, rfl, hro, hf2⟩
        have F2 : Hid (Fr none_ w1 w2) := hid_ ((Fr.refl none_ w1).drew.then_none hf2)
        have RO := hid_ (hro.base (Nat.zero_le _))
        have O2 := hid_ (own_none O.out F2.out)
        have hs2 := F2.out.size
        clear hro hf2
        refine ⟨F2.out, ?_⟩
        refine wpAnyU_one7 (i := 4) rfl (by kernel_rfl) (by kernel_rfl) ?_
        go_simp
        refine ⟨F2.out.alloc _, ?_⟩
        refine wpAnyU_one7 (i := 5) rfl (by kernel_rfl) (by kernel_rfl) ?_
        refine wp_append_any _ (.tmp 28) (.tmp 31) 34 rfl w.heap.size 58 j0 _ 15 192 Try.underlying34 Hj.out.1 Hj.out.2.1 Hj.out.2.2.1 Hj.out.2.2.2 rfl (by omega) (.slice oA k oc) k (recFlat Cs) rfl (O2.out.alloc _) (some ⟨w2.heap.size, 0, none⟩) 1 1 (recL ⟨E.R, A1, c1, B1, d1⟩) rfl (reads_new w2 _ (recL ⟨E.R, A1, c1, B1, d1⟩) _ rfl) (by simp [Value.oneCell']) (by simp only [maxLen]; omega) (by omega) (by simp; omega) ?_
        intro A3 c3 w3 hown3 hgr3
        refine ⟨.inl (by decide), ?_⟩
        have hf3 : Fr (fun q => (Value.slice oA k oc).ownBlock = some q) w2 w3 := ((Fr.refl _ w2).alloc (.cells (recL ⟨E.R, A1, c1, B1, d1⟩).toArray 58)).grown hgr3 (fun k hk => .inl hk)
        obtain ⟨E', hE'⟩ : ∃ E' : Ch, E' = ⟨E.R, A1, c1, B1, d1⟩ := ⟨_, rfl⟩
        have HE' := hid_ hE'
        have BX3 : Hid (Blk w3 X 45 (pgA n hs hg (.slice oA k oc) vr false Lw.zero (.slice none 0 0) Vw.zero (.slice none 0 0))) := hid_ ((BX.out.fr F2.out id).fr hf3 (own_blk_ne O2.out (BX.out.fr F2.out id) (by decide)))
        have BO3 : Hid (Blk w3 (w.heap.size + 1) 45 pgZ) := hid_ ((S3.out.bo.fr F2.out id).fr hf3 (own_blk_ne O2.out (S3.out.bo.fr F2.out id) (by decide)))
        have FF3 : Hid (Fr none_ w w3) := hid_ ((S3.out.fr.then_none F2.out).trans hf3 (fun _ _ => id) (fun q hq e => absurd (O2.out.lt q e).1 (by omega)))
        have RF3 : Hid (w3.ownsRow w.heap.size 33 2 vr refs.length (rpFlat refs)) := hid_ (own_fr (own_none RF.out F2.out) hf3 (fun q hq e => own_own_ne (own_none RF.out F2.out) O2.out (by decide) q hq e))
        have ho2 := O2.out.alloc (.cells (recL ⟨E.R, A1, c1, B1, d1⟩).toArray 58)
        have O3 : Hid (w3.ownsRow w.heap.size 58 15 (.slice A3 (k + 1) c3) (k + 1) (recFlat (Cs ++ [E']))) := hid_ (by
          rw [recFlat_app, hE', show recFlat [(⟨E.R, A1, c1, B1, d1⟩ : Ch)] = recL ⟨E.R, A1, c1, B1, d1⟩ by simp [recFlat]]
          exact hown3)
        have CS3 : Hid (∀ Z ∈ Cs ++ [E'], ChOwn w3 Z) := hid_ (fun Z hZ => by
          rcases List.mem_append.1 hZ with hZ | hZ
          · exact (((HCS.out Z hZ).keep F2.out).keep ((Fr.refl none_ w2).alloc _)).beside ho2 hgr3
          · obtain rfl : Z = E' := by simpa using hZ
            refine ChOwn.beside (ChOwn.keep ?_ ((Fr.refl none_ w2).alloc _)) ho2 hgr3
            rw [HE'.out]
            exact ⟨RO.out, HO.out.low, HO.out.high, HO.out.key, HO.out.hkey, HO.out.ents⟩)
        have CM3 : Hid ((Cs ++ [E']).map (·.R) = (L.take (k + 1)).map (·.R)) := hid_ (by rw [List.take_add_one, HEk.out, List.map_append, List.map_append, HCM.out, HE'.out]; rfl)
        have CL3 : Hid ((Cs ++ [E']).length = k + 1) := hid_ (by rw [List.length_append, HCL.out]; rfl)
        clear hown3 hgr3 hf3 hE' ho2
        have x3 : w3.cell? ⟨X, 3, none⟩ = some (.slice oA k oc) := BX3.out.cell' rfl
        have y3 := BX3.out.frozen 3
        refine wpAnyU_one7 (i := 6) rfl (by kernel_rfl) (by kernel_rfl) ?_
        go_simp
        refine wpAnyU_one7 (i := 7) rfl (by kernel_rfl) (by kernel_rfl) ?_
        go_simp
        refine wpAnyU_done (by kernel_rfl) ?_ _
        clear x3 y3
        obtain ⟨w4, hw4⟩ : ∃ z, z = w3.setCell ⟨X, 3, none⟩ (.slice A3 (k + 1) c3) := ⟨_, rfl⟩
        have f4 : Fr (only X) w3 w4 := by rw [hw4]; exact Fr.only1 w3 ⟨X, 3, none⟩ _
        have S4 : Hid (OfSt n hs hg L refs w X (k + 1) w4) := hid_ ⟨⟨_, vr, Cs ++ [E'], CL3.out, CM3.out, by rw [hw4]; exact BX3.out.set_ 3 _, own_fr O3.out f4 (fun q hq e => own_blk_ne O3.out BX3.out (by decide) (by rw [hq, show q = X from e])), fun Z hZ => (CS3.out Z hZ).only f4 BX3.out (by decide) (by decide), own_fr RF3.out f4 (fun q hq e => own_blk_ne RF3.out BX3.out (by decide) (by rw [hq, show q = X from e]))⟩, BO3.out.fr f4 (only_ne (by omega)), FF3.out.then_only f4 (.inr (by omega))⟩
        rw [← hw4]
        clear hw4 f4
        go_wp2_with fail
        go_roundw
        case rel => exact ⟨k + 1, by omega, by go_num, S4.out⟩
        case measure => simp [intOf]; omega
      · obtain rfl : k = m := by omega
        clear hlt hi0 ST
        have hmn : (L.map (·.R)).length = k := by rw [List.length_map]; exact hln
        go_upto_region 9 with fail
        go_cut [47] (fun u wq => u = .bool (leafB (L.map (·.R))) ∧ Fr none_ wr wq)
        case first =>
          by_cases hk0 : k = 0
          · subst hk0
            have hB : leafB (L.map (·.R)) = false := by rw [List.eq_nil_of_length_eq_zero hln]; rfl
            have HB := hid_ hB
            clear hB hmn
            go_wp2_with fail
            go_meet
            case rel => exact ⟨by rw [HB.out], Fr.refl _ _⟩
          · obtain ⟨j, rfl⟩ : ∃ j, k = j + 1 := ⟨k - 1, by omega⟩
            obtain ⟨E, hE⟩ : ∃ E, L[j]? = some E := ⟨_, List.getElem?_eq_getElem (by omega)⟩
            obtain ⟨b, off, rfl, hb, hR, hO⟩ := (H.out.keep S2.out.fr).at_ hE
            have k0 : wr.cell? ⟨b, off + j * 15, none⟩ = some (.int .i64 E.R.kind) := hR 0 _ rfl
            have hB : leafB (L.map (·.R)) = decide (E.R.kind = 1) := by
              unfold leafB
              rw [hmn, show j + 1 - 1 = j by omega, List.getElem?_map, hE]
              rfl
            have HB := hid_ hB
            have hi1 : (j : Int) < ((j + 1 : Nat) : Int) := by omega
            have hi2 : (j : Int) < (j : Int) + 1 := by omega
            have hi3 : (0 : Int) ≤ (j : Int) := Int.natCast_nonneg _
            have hp0 : decide ((0 : Int) < ((j + 1 : Nat) : Int)) = true := decide_eq_true (by omega)
            have hp1 : decide ((0 : Int) < (j : Int) + 1) = true := decide_eq_true (by omega)
            have hw1 : IntKind.i64.wrap ((j : Int) + 1 - 1) = (j : Int) := by rw [show (j : Int) + 1 - 1 = (j : Int) by omega]; exact IntWalk.i64_in _ (by omega)
            clear hB hmn hE hR hO hk0
            by_cases h1 : E.R.kind = 1
            · have e1 : (E.R.kind == 1) = true := by simpa using h1
              have H1 := hid_ h1
              clear h1
              go_wp2_with fail
              go_meet
              case rel => exact ⟨by rw [HB.out]; simp [H1.out], Fr.refl _ _⟩
            · have e1 : (E.R.kind == 1) = false := by simpa using h1
              have H1 := hid_ h1
              clear h1
              go_wp2_with fail
              go_meet
              case rel => exact ⟨by rw [HB.out]; simp [H1.out], Fr.refl _ _⟩
        case rest =>
          obtain ⟨rfl, hf⟩ := hcut
          have S3 := hid_ (S2.out.keep hf)
          clear hf S2
          go_upto_if 47 with fail
          go_cut [13] (fun u wq => OfCut n hs hg (L.map (·.R)) refs w X u wq)
          case rest =>
            have HC := hid_ hcut
            have HMN := hid_ hmn
            clear hcut S3 hmn
            rcases HC.out with ⟨leaf, lv, iv, A1, c1, B1, d1, C1, x1, D1, y1, hof, hu, hbx, hpg, hbo, hfr⟩ | ⟨q, hq, hof, hu, hbo, hfr⟩
            rotate_left
            · subst hu
              have BO5 := hid_ hbo
              have F5 := hid_ hfr
              have HQ := hid_ (And.intro hq hof)
              clear hbo hfr hof hq
              go_wp2_with (refine wpList_store_mid rfl 45 (.tmp 8) (.tmp 63) rfl (w.heap.size + 1) 0 (pgZ) rfl rfl (BO5.out.there7 rfl) page_size (by simp [Value.oneCell']) ?_; have ov := BO5.out.over7 (pgZ).toList rfl; obtain ⟨w6, hw6⟩ : ∃ z, z = wc.setCells (w.heap.size + 1) 0 (pgZ).toList := ⟨_, rfl⟩; rw [← hw6] at ov; change wpList _ _ _ _ _ (wc.setCells (w.heap.size + 1) 0 (pgZ).toList); rw [← hw6]; have OV := hid_ ov; clear hw6 ov)
              refine bodyPost_ret (results_cell_tmp7 _ _ rfl (w.heap.size + 1) 0 (pgZ).toList _ rfl (Blk.range7 (l := (pgZ).toList) OV.out.1) Try.underlying45 rfl page_size) rfl (.inr ⟨q, HQ.out.1, HQ.out.2, rfl, F5.out.then_only OV.out.2 (.inr (by omega))⟩)
            subst hu
            have BO5 := hid_ hbo
            have F5 := hid_ hfr
            have HQ := hid_ hof
            rw [HMN.out] at hbx
            have BX5 := hid_ hbx
            have PG := hid_ hpg
            clear hbo hfr hof hbx hpg
            go_wp2_with (first | (refine wpList_load_mid rfl 45 (.tmp 10) rfl X 0 rfl (pgA n hs hg (.slice C1 k x1) (.slice D1 refs.length y1) leaf lv (.slice A1 lv.rows.length c1) iv (.slice B1 iv.ents.length d1)).toList _ (Blk.range7 (l := (pgA n hs hg (.slice C1 k x1) (.slice D1 refs.length y1) leaf lv (.slice A1 lv.rows.length c1) iv (.slice B1 iv.ents.length d1)).toList) BX5.out) Try.underlying45 rfl page_size ?_) | (refine wpList_store_mid rfl 45 (.tmp 8) (.tmp 65) rfl (w.heap.size + 1) 0 (pgA n hs hg (.slice C1 k x1) (.slice D1 refs.length y1) leaf lv (.slice A1 lv.rows.length c1) iv (.slice B1 iv.ents.length d1)) rfl rfl (BO5.out.there7 rfl) page_size (by simp [Value.oneCell']) ?_; have ov := BO5.out.over7 (pgA n hs hg (.slice C1 k x1) (.slice D1 refs.length y1) leaf lv (.slice A1 lv.rows.length c1) iv (.slice B1 iv.ents.length d1)).toList rfl; obtain ⟨w6, hw6⟩ : ∃ z, z = wc.setCells (w.heap.size + 1) 0 (pgA n hs hg (.slice C1 k x1) (.slice D1 refs.length y1) leaf lv (.slice A1 lv.rows.length c1) iv (.slice B1 iv.ents.length d1)).toList := ⟨_, rfl⟩; rw [← hw6] at ov; change wpList _ _ _ _ _ (wc.setCells (w.heap.size + 1) 0 (pgA n hs hg (.slice C1 k x1) (.slice D1 refs.length y1) leaf lv (.slice A1 lv.rows.length c1) iv (.slice B1 iv.ents.length d1)).toList); rw [← hw6]; have OV := hid_ ov; clear hw6 ov))
            refine bodyPost_ret (results_cell_tmp7 _ _ rfl (w.heap.size + 1) 0 (pgA n hs hg (.slice C1 k x1) (.slice D1 refs.length y1) leaf lv (.slice A1 lv.rows.length c1) iv (.slice B1 iv.ents.length d1)).toList _ rfl (Blk.range7 (l := (pgA n hs hg (.slice C1 k x1) (.slice D1 refs.length y1) leaf lv (.slice A1 lv.rows.length c1) iv (.slice B1 iv.ents.length d1)).toList) OV.out.1) Try.underlying45 rfl page_size) rfl (.inl ⟨leaf, lv, iv, A1, c1, B1, d1, C1, x1, D1, y1, HQ.out, by rw [HMN.out]; rfl, PG.out.far (n := 0) (hs := 0) (hg := 0) (vc := .slice none 0 0) (vr := .slice none 0 0) (leaf := false) (lv' := Lw.zero) (sl := .slice none 0 0) (iv' := Vw.zero) (si := .slice none 0 0) BO5.out ⟨_, _, _, rfl⟩ ⟨_, _, _, rfl⟩ ⟨_, _, _, rfl⟩ OV.out.2, F5.out.then_only OV.out.2 (.inr (by omega))⟩)
          case first =>
            obtain ⟨vc, vr, Cs, hcl, hcm, hbx, hown, hcs, hrf⟩ := S3.out.st
            obtain ⟨C1, x1, rfl⟩ := hown.shape
            obtain ⟨D1, y1, rfl⟩ := hrf.shape

            have HMN := hid_ hmn
            rw [List.take_of_length_le (by omega)] at hcm
            have HCM := hid_ hcm
            have BX := hid_ hbx
            have O := hid_ hown
            have HCS := hid_ hcs
            have RF := hid_ hrf
            have hxl := hbx.lt
            clear hcl hcm hbx hown hcs hrf hmn
            cases hB : leafB (L.map (·.R)) with
            | true =>
              have HB := hid_ hB
              clear hB
              have x5 : wc.cell? ⟨X, 5, none⟩ = some (.bool false) := BX.out.cell' rfl
              have y5 := BX.out.frozen 5
              go_upto_region 11 with fail
              obtain ⟨w1, hw1⟩ : ∃ z, z = wc.setCell ⟨X, 5, none⟩ (.bool true) := ⟨_, rfl⟩
              have f1 : Fr (only X) wc w1 := by rw [hw1]; exact Fr.only1 wc ⟨X, 5, none⟩ _
              have BX1 : Hid (Blk w1 X 45 (pgA n hs hg (.slice C1 k x1) (.slice D1 refs.length y1) true Lw.zero (.slice none 0 0) Vw.zero (.slice none 0 0))) := hid_ (by rw [hw1]; exact BX.out.set_ 5 _)
              change Code.wp _ _ _ _ (wc.setCell ⟨X, 5, none⟩ (.bool true))
              rw [← hw1]
              clear hw1 x5 y5
              have O1 := hid_ (own_fr O.out f1 (fun q hq e => own_blk_ne O.out BX.out (by decide) (by rw [hq, show q = X from e])))
              have RF1 := hid_ (own_fr RF.out f1 (fun q hq e => own_blk_ne RF.out BX.out (by decide) (by rw [hq, show q = X from e])))
              have CS1 : Hid (∀ Z ∈ Cs, ChOwn w1 Z) := hid_ (fun Z hZ => (HCS.out Z hZ).only f1 BX.out (by decide) (by decide))
              have BO1 := hid_ (S3.out.bo.fr f1 (only_ne (by omega)))
              have FF1 := hid_ (S3.out.fr.then_only f1 (.inr (by omega)))
              clear f1 O RF HCS BX
              have hsz1 := FF1.out.size
              go_wp2_with fail
              refine (foldL_ok A k cap L w1 (H.out.keep FF1.out) hn HS.out).mono ?_
              rintro e w2 (⟨V, A', c', hkd, hfo, rfl, hvin, hf2⟩ | ⟨q, hq, rfl, hf2⟩)
              · have F2 := hid_ (FF1.out.then_none hf2)
                have BX2 := hid_ (BX1.out.fr hf2 id)
                have BO2 := hid_ (BO1.out.fr hf2 id)
                have O2 := hid_ (own_none O1.out hf2)
                have RF2 := hid_ (own_none RF1.out hf2)
                have CS2 : Hid (∀ Z ∈ Cs, ChOwn w2 Z) := hid_ (fun Z hZ => (CS1.out Z hZ).keep hf2)
                have VI := hid_ hvin
                have HOF : Hid (ofM (L.map (·.R)) = some (true, V, Vw.zero)) := hid_ (by unfold ofM; rw [if_pos HB.out, hfo]; rfl)
                clear hf2 hvin hfo hkd
                have x6 : w2.cell? ⟨X, 6, none⟩ = some (.string nilS) := BX2.out.cell' rfl
                have y6 := BX2.out.frozen 6
                have x7 : w2.cell? ⟨X, 7, none⟩ = some (.string nilS) := BX2.out.cell' rfl
                have y7 := BX2.out.frozen 7
                have x8 : w2.cell? ⟨X, 8, none⟩ = some (.bool false) := BX2.out.cell' rfl
                have y8 := BX2.out.frozen 8
                have x9 : w2.cell? ⟨X, 9, none⟩ = some (.int .i64 0) := BX2.out.cell' rfl
                have y9 := BX2.out.frozen 9
                have x10 : w2.cell? ⟨X, 10, none⟩ = some (.slice none 0 0) := BX2.out.cell' rfl
                have y10 := BX2.out.frozen 10
                have x11 : w2.cell? ⟨X, 11, none⟩ = some (.bool false) := BX2.out.cell' rfl
                have y11 := BX2.out.frozen 11
                go_wp2_with fail
                clear x6 y6 x7 y7 x8 y8 x9 y9 x10 y10 x11 y11
                obtain ⟨w5, hw5⟩ : ∃ z, z = ((((((w2.setCell ⟨X, 6, none⟩ (.string V.low)).setCell ⟨X, 7, none⟩ (.string V.high)).setCell ⟨X, 8, none⟩ (.bool V.unb)).setCell ⟨X, 9, none⟩ (.int .i64 V.right)).setCell ⟨X, 10, none⟩ (.slice A' V.rows.length c')).setCell ⟨X, 11, none⟩ (.bool V.gone)) := ⟨_, rfl⟩
                have f5 : Fr (only X) w2 w5 := by rw [hw5]; exact frOnly7 (frOnly7 (frOnly7 (frOnly7 (frOnly7 (frOnly7 (Fr.refl (only X) w2) _) _) _) _) _) _
                have BX5 : Blk w5 X 45 (pgA n hs hg (.slice C1 k x1) (.slice D1 refs.length y1) true V (.slice A' V.rows.length c') Vw.zero (.slice none 0 0)) := by
                  rw [hw5]
                  have e := ((((((BX2.out.set_ 6 (.string V.low)).set_ 7 (.string V.high)).set_ 8 (.bool V.unb)).set_ 9 (.int .i64 V.right)).set_ 10 (.slice A' V.rows.length c')).set_ 11 (.bool V.gone))
                  simp only [List.setIfInBounds_toArray, List.set_cons_zero, List.set_cons_succ] at e
                  exact e
                have HP5 : Hid (OfCut n hs hg (L.map (·.R)) refs w X .nilIface w5) := hid_ (by
                  refine .inl ⟨true, _, _, A', c', none, 0, C1, x1, D1, y1, HOF.out, rfl, by rw [HMN.out]; exact BX5, ⟨(VI.out.base (by omega)).far BX2.out (by decide) f5, VwIn.zero _, ⟨Cs, HCM.out, ?_, fun Z hZ => (CS2.out Z hZ).only f5 BX2.out (by decide) (by decide)⟩, own_fr RF2.out f5 (fun q hq e => own_blk_ne RF2.out BX2.out (by decide) (by rw [hq, show q = X from e]))⟩, BO2.out.fr f5 (only_ne (by omega)), F2.out.then_only f5 (.inr (by omega))⟩
                  rw [HMN.out]
                  exact own_fr O2.out f5 (fun q hq e => own_blk_ne O2.out BX2.out (by decide) (by rw [hq, show q = X from e])))
                rw [← hw5]
                clear hw5 f5 BX5
                go_meet
                case rel => exact HP5.out
              · have F2 := hid_ (FF1.out.then_none hf2)
                have BX2 := hid_ (BX1.out.fr hf2 id)
                have BO2 := hid_ (BO1.out.fr hf2 id)
                have HOF : Hid ((q = 9 ∨ q = 10) ∧ ofM (L.map (·.R)) = none) := hid_ ⟨by rcases hq with h | h; exact .inl h.1; exact .inr h.1, by unfold ofM; rw [if_pos HB.out, show foldL (L.map (·.R)) = none from by rcases hq with h | h; exact foldL_bad h.2; exact h.2.2]; rfl⟩
                clear hf2 hq
                have x6 : w2.cell? ⟨X, 6, none⟩ = some (.string nilS) := BX2.out.cell' rfl
                have y6 := BX2.out.frozen 6
                have x7 : w2.cell? ⟨X, 7, none⟩ = some (.string nilS) := BX2.out.cell' rfl
                have y7 := BX2.out.frozen 7
                have x8 : w2.cell? ⟨X, 8, none⟩ = some (.bool false) := BX2.out.cell' rfl
                have y8 := BX2.out.frozen 8
                have x9 : w2.cell? ⟨X, 9, none⟩ = some (.int .i64 0) := BX2.out.cell' rfl
                have y9 := BX2.out.frozen 9
                have x10 : w2.cell? ⟨X, 10, none⟩ = some (.slice none 0 0) := BX2.out.cell' rfl
                have y10 := BX2.out.frozen 10
                have x11 : w2.cell? ⟨X, 11, none⟩ = some (.bool false) := BX2.out.cell' rfl
                have y11 := BX2.out.frozen 11
                go_wp2_with fail
                clear x6 y6 x7 y7 x8 y8 x9 y9 x10 y10 x11 y11
                obtain ⟨w5, hw5⟩ : ∃ z, z = ((((((w2.setCell ⟨X, 6, none⟩ (.string Lw.zero.low)).setCell ⟨X, 7, none⟩ (.string Lw.zero.high)).setCell ⟨X, 8, none⟩ (.bool Lw.zero.unb)).setCell ⟨X, 9, none⟩ (.int .i64 Lw.zero.right)).setCell ⟨X, 10, none⟩ (.slice none 0 0)).setCell ⟨X, 11, none⟩ (.bool Lw.zero.gone)) := ⟨_, rfl⟩
                have f5 : Fr (only X) w2 w5 := by rw [hw5]; exact frOnly7 (frOnly7 (frOnly7 (frOnly7 (frOnly7 (frOnly7 (Fr.refl (only X) w2) _) _) _) _) _) _
                have HP5 : Hid (OfCut n hs hg (L.map (·.R)) refs w X (errV q) w5) := hid_ (.inr ⟨q, HOF.out.1, HOF.out.2, rfl, BO2.out.fr f5 (only_ne (by omega)), F2.out.then_only f5 (.inr (by omega))⟩)
                rw [← hw5]
                clear hw5 f5
                go_meet
                case rel => exact HP5.out
            | false =>
              have HB := hid_ hB
              clear hB
              have O1 := O
              have RF1 := RF
              have CS1 := HCS
              have BX1 := BX
              have BO1 := hid_ S3.out.bo
              have FF1 := hid_ S3.out.fr
              clear O RF HCS BX
              have hsz1 := FF1.out.size
              go_wp2_with fail
              refine (fold_ok A k cap L wc (H.out.keep FF1.out) hn HE.out).mono ?_
              rintro e w2 (⟨V, A', c', hkd, hfo, rfl, hvin, hheld, hf2⟩ | ⟨q, hq, hno, rfl, hf2⟩)
              · have F2 := hid_ (FF1.out.then_none hf2)
                have BX2 := hid_ (BX1.out.fr hf2 id)
                have BO2 := hid_ (BO1.out.fr hf2 id)
                have O2 := hid_ (own_none O1.out hf2)
                have RF2 := hid_ (own_none RF1.out hf2)
                have CS2 : Hid (∀ Z ∈ Cs, ChOwn w2 Z) := hid_ (fun Z hZ => (CS1.out Z hZ).keep hf2)
                have VI := hid_ hvin
                have HOF : Hid (ofM (L.map (·.R)) = some (false, Lw.zero, V)) := hid_ (by unfold ofM; rw [if_neg (by rw [HB.out]; decide), hfo]; rfl)
                clear hf2 hvin hfo hkd
                have x12 : w2.cell? ⟨X, 12, none⟩ = some (.string nilS) := BX2.out.cell' rfl
                have y12 := BX2.out.frozen 12
                have x13 : w2.cell? ⟨X, 13, none⟩ = some (.string nilS) := BX2.out.cell' rfl
                have y13 := BX2.out.frozen 13
                have x14 : w2.cell? ⟨X, 14, none⟩ = some (.bool false) := BX2.out.cell' rfl
                have y14 := BX2.out.frozen 14
                have x15 : w2.cell? ⟨X, 15, none⟩ = some (.int .i64 0) := BX2.out.cell' rfl
                have y15 := BX2.out.frozen 15
                have x16 : w2.cell? ⟨X, 16, none⟩ = some (.slice none 0 0) := BX2.out.cell' rfl
                have y16 := BX2.out.frozen 16
                have x17 : w2.cell? ⟨X, 17, none⟩ = some (.bool false) := BX2.out.cell' rfl
                have y17 := BX2.out.frozen 17
                have x18 : w2.cell? ⟨X, 18, none⟩ = some (.int .i64 0) := BX2.out.cell' rfl
                have y18 := BX2.out.frozen 18
                have x19 : w2.cell? ⟨X, 19, none⟩ = some (.int .i64 0) := BX2.out.cell' rfl
                have y19 := BX2.out.frozen 19
                have x20 : w2.cell? ⟨X, 20, none⟩ = some (.string nilS) := BX2.out.cell' rfl
                have y20 := BX2.out.frozen 20
                go_wp2_with fail
                clear x12 y12 x13 y13 x14 y14 x15 y15 x16 y16 x17 y17 x18 y18 x19 y19 x20 y20
                obtain ⟨w5, hw5⟩ : ∃ z, z = (((((((((w2.setCell ⟨X, 12, none⟩ (.string V.low)).setCell ⟨X, 13, none⟩ (.string V.high)).setCell ⟨X, 14, none⟩ (.bool V.unb)).setCell ⟨X, 15, none⟩ (.int .i64 V.right)).setCell ⟨X, 16, none⟩ (.slice A' V.ents.length c')).setCell ⟨X, 17, none⟩ (.bool V.held)).setCell ⟨X, 18, none⟩ (.int .i64 V.hp)).setCell ⟨X, 19, none⟩ (.int .i64 V.hl)).setCell ⟨X, 20, none⟩ (.string V.hk)) := ⟨_, rfl⟩
                have f5 : Fr (only X) w2 w5 := by rw [hw5]; exact frOnly7 (frOnly7 (frOnly7 (frOnly7 (frOnly7 (frOnly7 (frOnly7 (frOnly7 (frOnly7 (Fr.refl (only X) w2) _) _) _) _) _) _) _) _) _
                have BX5 : Blk w5 X 45 (pgA n hs hg (.slice C1 k x1) (.slice D1 refs.length y1) false Lw.zero (.slice none 0 0) V (.slice A' V.ents.length c')) := by
                  rw [hw5]
                  have e := (((((((((BX2.out.set_ 12 (.string V.low)).set_ 13 (.string V.high)).set_ 14 (.bool V.unb)).set_ 15 (.int .i64 V.right)).set_ 16 (.slice A' V.ents.length c')).set_ 17 (.bool V.held)).set_ 18 (.int .i64 V.hp)).set_ 19 (.int .i64 V.hl)).set_ 20 (.string V.hk))
                  simp only [List.setIfInBounds_toArray, List.set_cons_zero, List.set_cons_succ] at e
                  exact e
                have HP5 : Hid (OfCut n hs hg (L.map (·.R)) refs w X .nilIface w5) := hid_ (by
                  refine .inl ⟨false, _, _, none, 0, A', c', C1, x1, D1, y1, HOF.out, rfl, by rw [HMN.out]; exact BX5, ⟨LwIn.zero _ _, VI.out.farP BX2.out ⟨_, _, _, rfl⟩ ⟨_, _, _, rfl⟩ ⟨_, _, _, rfl⟩ f5, ⟨Cs, HCM.out, ?_, fun Z hZ => (CS2.out Z hZ).only f5 BX2.out (by decide) (by decide)⟩, own_fr RF2.out f5 (fun q hq e => own_blk_ne RF2.out BX2.out (by decide) (by rw [hq, show q = X from e]))⟩, BO2.out.fr f5 (only_ne (by omega)), F2.out.then_only f5 (.inr (by omega))⟩
                  rw [HMN.out]
                  exact own_fr O2.out f5 (fun q hq e => own_blk_ne O2.out BX2.out (by decide) (by rw [hq, show q = X from e])))
                rw [← hw5]
                clear hw5 f5 BX5
                go_meet
                case rel => exact HP5.out
              · have F2 := hid_ (FF1.out.then_none hf2)
                have BX2 := hid_ (BX1.out.fr hf2 id)
                have BO2 := hid_ (BO1.out.fr hf2 id)
                have HOF : Hid ((q = 9 ∨ q = 10) ∧ ofM (L.map (·.R)) = none) := hid_ ⟨hq, by unfold ofM; rw [if_neg (by rw [HB.out]; decide), show foldU (L.map (·.R)) = none from foldU_no hno]; rfl⟩
                clear hf2 hq hno
                have x12 : w2.cell? ⟨X, 12, none⟩ = some (.string nilS) := BX2.out.cell' rfl
                have y12 := BX2.out.frozen 12
                have x13 : w2.cell? ⟨X, 13, none⟩ = some (.string nilS) := BX2.out.cell' rfl
                have y13 := BX2.out.frozen 13
                have x14 : w2.cell? ⟨X, 14, none⟩ = some (.bool false) := BX2.out.cell' rfl
                have y14 := BX2.out.frozen 14
                have x15 : w2.cell? ⟨X, 15, none⟩ = some (.int .i64 0) := BX2.out.cell' rfl
                have y15 := BX2.out.frozen 15
                have x16 : w2.cell? ⟨X, 16, none⟩ = some (.slice none 0 0) := BX2.out.cell' rfl
                have y16 := BX2.out.frozen 16
                have x17 : w2.cell? ⟨X, 17, none⟩ = some (.bool false) := BX2.out.cell' rfl
                have y17 := BX2.out.frozen 17
                have x18 : w2.cell? ⟨X, 18, none⟩ = some (.int .i64 0) := BX2.out.cell' rfl
                have y18 := BX2.out.frozen 18
                have x19 : w2.cell? ⟨X, 19, none⟩ = some (.int .i64 0) := BX2.out.cell' rfl
                have y19 := BX2.out.frozen 19
                have x20 : w2.cell? ⟨X, 20, none⟩ = some (.string nilS) := BX2.out.cell' rfl
                have y20 := BX2.out.frozen 20
                go_wp2_with fail
                clear x12 y12 x13 y13 x14 y14 x15 y15 x16 y16 x17 y17 x18 y18 x19 y19 x20 y20
                obtain ⟨w5, hw5⟩ : ∃ z, z = (((((((((w2.setCell ⟨X, 12, none⟩ (.string Vw.zero.low)).setCell ⟨X, 13, none⟩ (.string Vw.zero.high)).setCell ⟨X, 14, none⟩ (.bool Vw.zero.unb)).setCell ⟨X, 15, none⟩ (.int .i64 Vw.zero.right)).setCell ⟨X, 16, none⟩ (.slice none 0 0)).setCell ⟨X, 17, none⟩ (.bool Vw.zero.held)).setCell ⟨X, 18, none⟩ (.int .i64 Vw.zero.hp)).setCell ⟨X, 19, none⟩ (.int .i64 Vw.zero.hl)).setCell ⟨X, 20, none⟩ (.string Vw.zero.hk)) := ⟨_, rfl⟩
                have f5 : Fr (only X) w2 w5 := by rw [hw5]; exact frOnly7 (frOnly7 (frOnly7 (frOnly7 (frOnly7 (frOnly7 (frOnly7 (frOnly7 (frOnly7 (Fr.refl (only X) w2) _) _) _) _) _) _) _) _) _
                have HP5 : Hid (OfCut n hs hg (L.map (·.R)) refs w X (errV q) w5) := hid_ (.inr ⟨q, HOF.out.1, HOF.out.2, rfl, BO2.out.fr f5 (only_ne (by omega)), F2.out.then_only f5 (.inr (by omega))⟩)
                rw [← hw5]
                clear hw5 f5
                go_meet
                case rel => exact HP5.out
end Go.Proofs.Ytpjbncbmdfmlpaa
namespace Go.Proofs.Ytpjbncbmdfmlpaa
open Go.RowKit Go.BigFrame
set_option maxRecDepth 100000
set_option linter.unusedVariables false

/-- No entry behind the first, ahead of k, is of that page. -/
def NB (V : Vw) (page : Int) (k : Nat) : Prop := ∀ (j : Nat) (p : Et), 1 ≤ j → j < k → V.ents[j]? = some p → p.2 ≠ page
theorem NB.one (V : Vw) (page : Int) {k : Nat} (h : k ≤ 1) : NB V page k := fun j p h1 h2 _ => by omega
end Go.Proofs.Ytpjbncbmdfmlpaa
namespace Go.Proofs.Ytpjbncbmdfmlpaa
open Go.RowKit Go.BigFrame
set_option maxRecDepth 100000
set_option linter.unusedVariables false

/-- A page as a value. -/
structure Pz where
  n : Int
  hs : Int
  hg : Int
  C : Option Addr
  nc : Nat
  x : Nat
  vr : Value
  leaf : Bool
  lv : Lw
  A : Option Addr
  c : Nat
  iv : Vw
  B : Option Addr
  d : Nat
abbrev pzA (P : Pz) : Array Value := pgA P.n P.hs P.hg (.slice P.C P.nc P.x) P.vr P.leaf P.lv (.slice P.A P.lv.rows.length P.c) P.iv (.slice P.B P.iv.ents.length P.d)
structure PzOk (w : World) (P : Pz) : Prop where
  low : SzOk P.lv.low
  high : SzOk P.lv.high
  rows : P.lv.rows.length ≤ 300000
  iv : VwIn w P.iv P.B P.d
  nc : P.nc ≤ 4000
theorem PzOk.keep {w w' : World} {P : Pz} (h : PzOk w P) (hf : Fr none_ w w') : PzOk w' P := ⟨h.low, h.high, h.rows, h.iv.keep hf, h.nc⟩
def Pz.low (P : Pz) : ByteArray := if P.leaf then P.lv.low else P.iv.low
def Pz.high (P : Pz) : ByteArray := if P.leaf then P.lv.high else P.iv.high
def Pz.unb (P : Pz) : Bool := if P.leaf then P.lv.unb else P.iv.unb
def Pz.right (P : Pz) : Int := if P.leaf then P.lv.right else P.iv.right
def Pz.size (P : Pz) : Nat := P.lv.rows.length + P.iv.ents.length
theorem results_tmp4 {fn : Func} {t u v x : Tmp} (h : fn.results = #[.tmp t, .tmp u, .tmp v, .tmp x]) (tmps : Array Value) (P : Program) (w : World) :
    (results fn tmps).run P w = .ok (.tuple #[tmps.getD t undef, tmps.getD u undef, tmps.getD v undef, tmps.getD x undef]) w := by
  simp [results, h]
abbrev RetQ (v : Value) (w : World) (e : Ending) (w' : World) : Prop := e = .returned v ∧ Fr none_ w w'
set_option maxHeartbeats 4000000 in
theorem bounds_ok (P : Pz) (w : World) : Calls Try.prog 34 #[.agg (pzA P)] w (RetQ (.tuple #[.string P.low, .string P.high, .bool P.unb, .int .i64 P.right]) w) := by
  obtain ⟨w0, hw0⟩ : ∃ z, z = w.alloc (.cells (pzA P) 45) := ⟨_, rfl⟩
  have f0 : Fr none_ w w0 := by rw [hw0]; exact (Fr.refl none_ w).alloc _
  have B0 : Hid (Blk w0 w.heap.size 45 (pzA P)) := hid_ (by rw [hw0]; exact Blk.new w _ _)
  have F0 := hid_ f0
  clear f0
  go_enter Try.func34, Try.ntmps34
  go_upto_region 1 with fail
  change Code.wp _ _ _ _ (w.alloc (.cells (pzA P) 45))
  rw [← hw0]
  clear hw0
  have p5 : w0.cell? ⟨w.heap.size, 5, none⟩ = some (.bool P.leaf) := B0.out.cell' rfl
  have p6 : w0.cell? ⟨w.heap.size, 6, none⟩ = some (.string P.lv.low) := B0.out.cell' rfl
  have p7 : w0.cell? ⟨w.heap.size, 7, none⟩ = some (.string P.lv.high) := B0.out.cell' rfl
  have p8 : w0.cell? ⟨w.heap.size, 8, none⟩ = some (.bool P.lv.unb) := B0.out.cell' rfl
  have p9 : w0.cell? ⟨w.heap.size, 9, none⟩ = some (.int .i64 P.lv.right) := B0.out.cell' rfl
  have p12 : w0.cell? ⟨w.heap.size, 12, none⟩ = some (.string P.iv.low) := B0.out.cell' rfl
  have p13 : w0.cell? ⟨w.heap.size, 13, none⟩ = some (.string P.iv.high) := B0.out.cell' rfl
  have p14 : w0.cell? ⟨w.heap.size, 14, none⟩ = some (.bool P.iv.unb) := B0.out.cell' rfl
  have p15 : w0.cell? ⟨w.heap.size, 15, none⟩ = some (.int .i64 P.iv.right) := B0.out.cell' rfl
  cases hl : P.leaf with
  | true =>
    rw [hl] at p5
    have HL := hid_ hl
    clear hl
    go_wp2_with fail
    go_quiet (fail)
    go_wp2
    (try simp only [Exit.inBlock, Exit.then])
    refine bodyPost_ret (results_tmp4 rfl _ _ _) rfl ?_
    exact ⟨by simp [Pz.low, Pz.high, Pz.unb, Pz.right, HL.out], by repeat (first | exact F0.out | apply Fr.drewN | apply Fr.drew)⟩
  | false =>
    rw [hl] at p5
    have HL := hid_ hl
    clear hl
    go_wp2_with fail
    go_quiet (fail)
    go_wp2
    (try simp only [Exit.inBlock, Exit.then])
    refine bodyPost_ret (results_tmp4 rfl _ _ _) rfl ?_
    exact ⟨by simp [Pz.low, Pz.high, Pz.unb, Pz.right, HL.out], by repeat (first | exact F0.out | apply Fr.drewN | apply Fr.drew)⟩
set_option maxHeartbeats 4000000 in
theorem phas_ok (P : Pz) (key : ByteArray) (w : World) (h1 : SzOk P.low) (h2 : SzOk P.high) (h3 : SzOk key) : Calls Try.prog 32 #[.agg (pzA P), .string key] w (RetQ (.bool (inS P.low P.high P.unb key)) w) := by
  obtain ⟨w0, hw0⟩ : ∃ z, z = w.alloc (.cells (pzA P) 45) := ⟨_, rfl⟩
  have f0 : Fr none_ w w0 := by rw [hw0]; exact (Fr.refl none_ w).alloc _
  have B0 : Hid (Blk w0 w.heap.size 45 (pzA P)) := hid_ (by rw [hw0]; exact Blk.new w _ _)
  have F0 := hid_ f0
  have HS := hid_ (And.intro h1 (And.intro h2 h3))
  clear f0 h1 h2 h3
  go_enter Try.func32, Try.ntmps32
  go_upto_region 1 with fail
  change Code.wp _ _ _ _ (w.alloc (.cells (pzA P) 45))
  rw [← hw0]
  clear hw0
  go_wp2_with (refine wpList_load_mid rfl 45 (.tmp 2) rfl w.heap.size 0 rfl (pzA P).toList _ (Blk.range7 (l := (pzA P).toList) B0.out) Try.underlying45 rfl page_size ?_)
  refine (bounds_ok P w0).mono ?_
  rintro e w1 ⟨rfl, hf⟩
  replace F0 := hid_ (F0.out.then_none hf)
  clear hf
  go_wp2_with fail
  refine (in_ok P.low P.high P.unb key _ HS.out.1.le HS.out.2.1.le HS.out.2.2.le).mono ?_
  rintro e w2 ⟨rfl, q, rfl⟩
  go_wp2
  go_ret
  exact ⟨rfl, F0.out.drewN q⟩
end Go.Proofs.Ytpjbncbmdfmlpaa
namespace Go.Proofs.Ytpjbncbmdfmlpaa
open Go.RowKit Go.BigFrame
set_option maxRecDepth 100000
set_option linter.unusedVariables false

structure L6 where
  a0 : Int
  a1 : Int
  a2 : Int
  rows : Int
  chain : Int
  a5 : Int
end Go.Proofs.Ytpjbncbmdfmlpaa
namespace Go.Proofs.Ytpjbncbmdfmlpaa
open Go.RowKit Go.BigFrame
set_option maxRecDepth 100000
set_option linter.unusedVariables false

/-- A guarded load of a whole struct. -/
theorem wpList_load_midG {P : Program} {ops : Array Oper} {rest : List Oper} {op : Oper} {a : Act} {w : World} {Q : Exit → Act → World → Prop} (hw : Region.wanted op (yielded ops a.tmps) = true) (ty : TypeId) (x : Operand) (ho : op.op = .load ty x)
    (b o : Nat) (hx : a.eval x = .pointer (some ⟨b, o, none⟩)) (cs : List Value) (d : TypeDesc) (hc : w.rangeAt b o cs)
    (hu : P.underlying ty = some d) (hd : d.isRow = true) (hi : (P.info? ty).map (·.size) = some cs.length)
    (h : wpList P ops Q rest (a.put op.dst (.agg cs.toArray)) w) : wpList P ops Q (op :: rest) a w := by
  unfold wpList
  rw [if_pos hw]
  exact .inl (wp_load_mid ty x ho b o hx cs d hc hu hd hi h)
end Go.Proofs.Ytpjbncbmdfmlpaa
namespace Go.Proofs.Ytpjbncbmdfmlpaa
open Go.RowKit Go.BigFrame Go.ChangeShapes Go.WideShapes
set_option maxRecDepth 100000
set_option linter.unusedVariables false

structure Cz where
  n : Int
  A1 : Option Addr
  n1 : Nat
  c1 : Nat
  A2 : Option Addr
  n2 : Nat
  c2 : Nat
  some_ : Bool
  key : ByteArray
  l : L6
  writes : Bool
structure CzIn (w : World) (c : Cz) (L1 L2 : List Ch) : Prop where
  i1 : InReads w c.A1 c.n1 L1
  r1 : RwIn L1
  m1 : c.n1 ≤ maxLen
  i2 : InReads w c.A2 c.n2 L2
  r2 : RwIn L2
  m2 : c.n2 ≤ maxLen
  key : SzOk c.key
theorem CzIn.keep {w w' : World} {c : Cz} {L1 L2 : List Ch} (h : CzIn w c L1 L2) (hf : Fr none_ w w') : CzIn w' c L1 L2 := ⟨h.i1.keep hf, h.r1, h.m1, h.i2.keep hf, h.r2, h.m2, h.key⟩
end Go.Proofs.Ytpjbncbmdfmlpaa
namespace Go.Proofs.Ytpjbncbmdfmlpaa
open Go.RowKit Go.BigFrame
set_option maxRecDepth 100000
set_option linter.unusedVariables false

section
variable {P : Program} {md : Region.Mode} {ops : Array Oper} {Q : Exit → Act → World → Prop} {S : World → Prop}
end
theorem VwIn.farZ {w w' : World} {V : Vw} {A : Option Addr} {c X : Nat} (h : VwIn w V A c) (hX : Blk w X 45 pgZ) (hf : Fr (only X) w w') : VwIn w' V A c :=
  h.farP (n := 0) (hs := 0) (hg := 0) (vc := .slice none 0 0) (vr := .slice none 0 0) (leaf := false) (lv := Lw.zero) (sl := .slice none 0 0) (iv := Vw.zero) (si := .slice none 0 0) hX ⟨_, _, _, rfl⟩ ⟨_, _, _, rfl⟩ ⟨_, _, _, rfl⟩ hf
end Go.Proofs.Ytpjbncbmdfmlpaa
namespace Go.Proofs.Ytpjbncbmdfmlpaa
open Go.RowKit
set_option linter.unusedVariables false
section
variable {ops : Array Oper} {S : World → Prop} {a : Act} {oi : Oper}
variable {P : Program} {md : Region.Mode} {Q : Exit → Act → World → Prop} {m fuel : Nat} {listed : Array Bool} {w : World}
/-- The one operation that is ready, whose value and world are known. -/
theorem u_run (i : Nat) (d : Option Tmp) (v : Value) (w2 : World) (hi : ops[i]? = some oi) (hd : oi.dst = d) (hw : Region.wanted oi (yielded ops a.tmps) = true) (hr : Region.ready md ops listed = [i])
    (hx : (execOp a.eval oi).run P w = .ok (.value v) w2) (hS : m ≤ i ∨ S w2) (h : UwA P md ops Q S m fuel (listed.setIfInBounds i true) (a.put d v) w2) : UwA P md ops Q S m (fuel + 1) listed a w := by
  subst hd
  refine u_one i hi hw hr ?_
  unfold Oper.wp
  rw [hx, Oper.upon_value]
  exact ⟨hS, h⟩
/-- One of two operations comes first. -/
theorem u_two {oj : Oper} (i j : Nat) (hi : ops[i]? = some oi) (hj : ops[j]? = some oj) (wi : Region.wanted oi (yielded ops a.tmps) = true) (wj : Region.wanted oj (yielded ops a.tmps) = true) (hr : Region.ready md ops listed = [i, j])
    (h1 : Oper.wp P oi a w (fun a' w' => (m ≤ i ∨ S w') ∧ UwA P md ops Q S m fuel (listed.setIfInBounds i true) a' w') Q)
    (h2 : Oper.wp P oj a w (fun a' w' => (m ≤ j ∨ S w') ∧ UwA P md ops Q S m fuel (listed.setIfInBounds j true) a' w') Q) : UwA P md ops Q S m (fuel + 1) listed a w :=
  ⟨wpAnyU_two7 hi hj wi wj hr (Oper.wp_mono (fun a' w' h' => ⟨h'.1, h'.2.h⟩) h1) (Oper.wp_mono (fun a' w' h' => ⟨h'.1, h'.2.h⟩) h2)⟩
end
end Go.Proofs.Ytpjbncbmdfmlpaa
namespace Go.Proofs.Ytpjbncbmdfmlpaa
open Go.RowKit
open Go
set_option linter.unusedVariables false
section
variable {P : Program} {md : Region.Mode} {ops : Array Oper} {Q : Exit → Act → World → Prop} {S : World → Prop}
/-- As wpAnyU, but that each operation ahead of the tail keeps S. -/
def wpAnyV (P : Program) (md : Region.Mode) (ops : Array Oper) (Q : Exit → Act → World → Prop) (S : World → Prop) (m : Nat) : Nat → Array Bool → Act → World → Prop
  | 0, listed, a, w => Region.ready md ops listed = [] ∧ Q .normal a w
  | fuel + 1, listed, a, w =>
    (Region.ready md ops listed = [] → Q .normal a w) ∧
    ∀ i ∈ Region.ready md ops listed, wpOp P ops Q i (fun a' w' => (m ≤ i ∨ (S w → S w')) ∧ wpAnyV P md ops Q S m fuel (listed.setIfInBounds i true) a' w') a w
theorem wpAny_of_V {m : Nat} : ∀ (fuel : Nat) (listed : Array Bool) (a : Act) (w : World), wpAnyV P md ops Q S m fuel listed a w → wpAny P md ops Q fuel listed a w
  | 0, _, _, _, h => h
  | fuel + 1, _, _, _, h => ⟨h.1, fun i hi => wpOp_mono (fun a' w' h' => wpAny_of_V fuel _ a' w' h'.2) (h.2 i hi)⟩
theorem wpAnyV_of_U {m : Nat} : ∀ (fuel : Nat) (listed : Array Bool) (a : Act) (w : World), wpAnyU P md ops Q S m fuel listed a w → wpAnyV P md ops Q S m fuel listed a w
  | 0, _, _, _, h => h
  | fuel + 1, _, _, _, h => ⟨h.1, fun i hi => wpOp_mono (fun a' w' h' => ⟨h'.1.imp_right (fun hs _ => hs), wpAnyV_of_U fuel _ a' w' h'.2⟩) (h.2 i hi)⟩
theorem wpAnyV_pure {m i : Nat} {oi : Oper} {v : Value} (hi : ops[i]? = some oi) (hsel : ∀ (j : Nat) (o : Oper) cs b, ops[j]? = some o → o.op ≠ .select cs b)
    (hQ : ∀ c a w, Q (.panic c) (a.put oi.dst v) w → Q (.panic c) a w) :
    ∀ (fuel : Nat) (listed : Array Bool) (a : Act) (w : World),
      (∀ j oj, ops[j]? = some oj → j ≠ i → listed.getD j true = false → (∀ e ∈ oj.after, Region.binds md e = true → e.on ≠ i) → oi.apart ops oj = true) →
      i ∈ Region.ready md ops listed → YieldsIf P ops (fun _ => True) oi v a →
      wpAnyV P md ops Q S m fuel (listed.setIfInBounds i true) (a.put oi.dst v) w → wpAnyV P md ops Q S m (fuel + 1) listed a w := by
  intro fuel
  induction fuel with
  | zero =>
    intro listed a w _ hr hy H
    refine ⟨fun h => (by rw [h] at hr; cases hr), fun j hj => ?_⟩
    by_cases hji : j = i
    · subst hji; exact hy.wpOp hi trivial ⟨.inr id, H⟩
    · have := ready_mono hj hji
      rw [H.1] at this
      cases this
  | succ fuel ih =>
    intro listed a w hfree hr hy H
    refine ⟨fun h => (by rw [h] at hr; cases hr), fun j hj => ?_⟩
    by_cases hji : j = i
    · subst hji; exact hy.wpOp hi trivial ⟨.inr id, H⟩
    · have h1 := H.2 j (ready_mono hj hji)
      obtain ⟨hjun, oj, hoj, hall⟩ := mem_ready.1 hj
      have hnot : ∀ e ∈ oj.after, Region.binds md e = true → e.on ≠ i := fun e he hb heq => by
        have h1 := hall e he hb
        have h0 := (mem_ready.1 hr).1
        rw [heq] at h1
        rcases Nat.lt_or_ge i listed.size with h' | h'
        · simp [h'] at h0 h1; rw [h0] at h1; cases h1
        · simp [Array.getElem?_eq_none h'] at h1
      have h2 := wpOp_putIf hoj (hfree j oj hoj hji hjun hnot) (fun cs b => hsel i oi cs b hi) (fun cs b => hsel j oj cs b hoj) hQ hy h1
      have hfree' : ∀ k ok, ops[k]? = some ok → k ≠ i → (listed.setIfInBounds j true).getD k true = false →
          (∀ e ∈ ok.after, Region.binds md e = true → e.on ≠ i) → oi.apart ops ok = true := fun k ok hk hki hun hno => by
        refine hfree k ok hk hki ?_ hno
        by_cases hjk : j = k
        · subst hjk; exact hjun
        · rw [getD_set_ne true hjk] at hun; exact hun
      refine wpOp_mono (fun a' w' h3 => ?_) h2
      refine ⟨h3.2.1, ih (listed.setIfInBounds j true) a' w' hfree' (ready_mono hr (Ne.symm hji)) h3.1 ?_⟩
      rw [Array.setIfInBounds_comm _ _ hji]
      exact h3.2.2
/-- A region that draws, of which one operation reads no memory and is taken first. -/
theorem wp_region_u1 (m : Nat) (S : World → Prop) (i n : Nat) (d : Option Tmp) (v : Value) {id : Nat} {oi : Oper} {a : Act} {w : World} (hm : P.follows .mixedOrders = true) (hn : ops.size = n + 1) (hi : ops[i]? = some oi) (hd : oi.dst = d)
    (hs : Region.noSelect ops = true) (hf : Region.free .any ops (Array.replicate ops.size false) i = true) (hr : (Region.ready .any ops (Array.replicate ops.size false)).contains i = true)
    (hQ : ∀ c a w, Q (.panic c) (a.put oi.dst v) w → Q (.panic c) a w) (hy : YieldsIf P ops (fun _ => True) oi v a)
    (h : UwA P .any ops Q S m n ((Array.replicate ops.size false).setIfInBounds i true) (a.put d v) w.drew) : (Code.region id ops true).wp P Q a w := by
  subst hd
  refine wp_region_any hm (wpAny_of_V (S := S) (m := m) _ _ _ _ ?_)
  rw [show ops.size = n + 1 from hn]
  rw [show ops.size = n + 1 from hn] at hf hr h
  exact wpAnyV_pure hi (Region.noSelect_spec hs) hQ n _ _ _ (Region.free_spec hi hf) (by simpa using hr) hy (wpAnyV_of_U _ _ _ _ h.h)
variable {oi : Oper} {a : Act} {w : World}
theorem wp_knownD {K : Act → World → Prop} (d : Option Tmp) (hd : oi.dst = d) (v : Value) (w2 : World) (hx : (execOp a.eval oi).run P w = .ok (.value v) w2) (h : K (a.put d v) w2) : Oper.wp P oi a w K Q := by
  subst hd
  unfold Oper.wp
  rw [hx, Oper.upon_value]
  exact h
/-- What the operation yields, at its slot. -/
theorem wp_dst {K : Act → World → Prop} (d : Option Tmp) (hd : oi.dst = d) (h : oi.dst = d → Oper.wp P oi a w K Q) : Oper.wp P oi a w K Q := h hd
end
end Go.Proofs.Ytpjbncbmdfmlpaa
namespace Go.Proofs.Ytpjbncbmdfmlpaa
open Go.RowKit Go.BigFrame
set_option maxRecDepth 100000
set_option linter.unusedVariables false

theorem lim_size9 : (Try.prog.info? 28).map (·.size) = some 6 := by kernel_rfl
theorem memLimits_ok {m : Nat} {k : Int} {l : Lm} {x : St} (w : World) (h : Mm w m k l x) : Calls Try.prog 52 #[.pointer (some ⟨m, 0, none⟩)] w fun e w' => e = .returned (.agg (lmA l)) ∧ Fr none_ w w' := by
  obtain ⟨w0, hw0⟩ : ∃ z, z = w.alloc (.cells #[.int .i64 0, .int .i64 0, .int .i64 0, .int .i64 0, .int .i64 0, .int .i64 0] 28) := ⟨_, rfl⟩
  have f0 : Fr none_ w w0 := by rw [hw0]; exact (Fr.refl none_ w).alloc _
  have BZ : Hid (Blk w0 w.heap.size 28 #[.int .i64 0, .int .i64 0, .int .i64 0, .int .i64 0, .int .i64 0, .int .i64 0]) := hid_ (by rw [hw0]; exact Blk.new w _ _)
  have h2 := h.b.fr f0 id
  have F0 := hid_ f0
  have c1 : w0.cell? ⟨m, 1, none⟩ = some (.int .i64 (l.s : Int)) := h2.cell' rfl
  have c2 : w0.cell? ⟨m, 2, none⟩ = some (.int .i64 (l.p : Int)) := h2.cell' rfl
  have c3 : w0.cell? ⟨m, 3, none⟩ = some (.int .i64 l.t) := h2.cell' rfl
  have c4 : w0.cell? ⟨m, 4, none⟩ = some (.int .i64 l.r) := h2.cell' rfl
  have c5 : w0.cell? ⟨m, 5, none⟩ = some (.int .i64 l.c) := h2.cell' rfl
  have c6 : w0.cell? ⟨m, 6, none⟩ = some (.int .i64 l.n) := h2.cell' rfl
  clear h h2 f0
  go_enter Try.func52, Try.ntmps52
  go_upto_region 1 with fail
  change Code.wp _ _ _ _ (w.alloc (.cells #[.int .i64 0, .int .i64 0, .int .i64 0, .int .i64 0, .int .i64 0, .int .i64 0] 28))
  rw [← hw0]
  clear hw0
  go_wp2_with (refine wpList_store_mid rfl 28 (.tmp 2) (.tmp 9) rfl w.heap.size 0 (lmA l) rfl rfl (BZ.out.there9 rfl) lim_size9 (by simp [Value.oneCell']) ?_; have ov := BZ.out.over9 (lmA l).toList rfl; obtain ⟨w9, hw9⟩ : ∃ z, z = w0.setCells w.heap.size 0 (lmA l).toList := ⟨_, rfl⟩; rw [← hw9] at ov; change wpList _ _ _ _ _ (w0.setCells w.heap.size 0 (lmA l).toList); rw [← hw9]; have OV := hid_ ov; clear hw9 ov)
  exact bodyPost_ret (results_cell7 _ _ rfl w.heap.size 0 (lmA l).toList _ rfl (Blk.range7 (l := (lmA l).toList) OV.out.1) Try.underlying28 rfl lim_size9) rfl ⟨rfl, F0.out.then_only OV.out.2 (.inr (Nat.le_refl _))⟩
theorem ld_range5 {w : World} {g : Nat} {s : LdS} (h : Blk w g 114 (ldA s)) : w.rangeAt g 5 [.int .i64 s.ns, .int .i64 s.ng] := fun j v hv => by
  match j, hv with
  | 0, hv => have e : some _ = some v := hv; rw [← e]; exact h.cell' rfl
  | 1, hv => have e : some _ = some v := hv; rw [← e]; exact h.cell' rfl
  | k + 2, hv => simp at hv
theorem ref_size9 : (Try.prog.info? 33).map (·.size) = some 2 := by kernel_rfl
/-- Within a step: a loader whose rows grow. -/
structure LdW (b0 g b m : Nat) (k : Int) (l : Lm) (x : St) (w : World) (s : LdS) (C : Cr) (vl : Value) (nl : Nat) (xl : List Value) (vr : Value) (nr : Nat) (xr : List Value) (wr : World) : Prop where
  l_ : wr.ownsRow b0 58 15 vl nl xl
  r_ : wr.ownsRow b0 33 2 vr nr xr
  nl : ∀ k, vl.ownBlock = some k → k ≠ b
  bg : Blk wr g 114 (ldA s)
  bt : Blk wr b 58 (crA C)
  lb : b0 ≤ g
  own : ∀ D ∈ s.L ++ [C], RecOwn wr b0 D.R (.slice D.A D.R.rows.length D.c) (.slice D.B D.R.ents.length D.d)
  mm : Mm wr m k l x
  f : Fr (lall m x b0) w wr
section
variable {b0 g b m : Nat} {k : Int} {l : Lm} {x : St} {w wr w' : World} {s : LdS} {C : Cr} {vl : Value} {nl : Nat} {xl : List Value} {vr : Value} {nr : Nat} {xr : List Value}
theorem LdW.keep (h : LdW b0 g b m k l x w s C vl nl xl vr nr xr wr) (hf : Fr none_ wr w') : LdW b0 g b m k l x w s C vl nl xl vr nr xr w' :=
  ⟨own_none h.l_ hf, own_none h.r_ hf, h.nl, h.bg.fr hf id, h.bt.fr hf id, h.lb, fun D hD => (h.own D hD).keep hf, h.mm.keep hf, h.f.then_none hf⟩
theorem LdW.sz (h : LdW b0 g b m k l x w s C vl nl xl vr nr xr wr) : b0 ≤ wr.heap.size := by have := h.bg.lt; have := h.lb; omega
theorem LdW.putL (h : LdW b0 g b m k l x w s C vl nl xl vr nr xr wr) {v' : Value} {q : Nat} {ys : List Value} (ho : w'.ownsRow b0 58 15 v' (nl + q) (xl ++ ys)) (hg : wr.grownBy w' vl.ownBlock) (hat : v'.ownBlock = vl.ownBlock ∨ v'.ownBlock = some wr.heap.size) : LdW b0 g b m k l x w s C v' (nl + q) (xl ++ ys) vr nr xr w' :=
  ⟨ho, own_kept h.r_ h.l_ (by decide) hg, fun k hk => by
      rcases hat with e | e
      · exact h.nl k (e ▸ hk)
      · have h1 := h.bt.lt
        have : wr.heap.size = k := Option.some.inj (e.symm.trans hk)
        omega, h.bg.grown hg (fun e => own_blk_ne h.l_ h.bg (by decide) e.symm), h.bt.grown hg (fun e => h.nl b e.symm rfl), h.lb, fun D hD => (h.own D hD).grown h.l_ (by decide) (by decide) hg, h.mm.grown h.l_ (.inl rfl) hg, h.f.grown hg (fun k hk => .inl (.inr (h.l_.lt k hk).1))⟩
theorem LdW.putR (h : LdW b0 g b m k l x w s C vl nl xl vr nr xr wr) {v' : Value} {q : Nat} {ys : List Value} (ho : w'.ownsRow b0 33 2 v' (nr + q) (xr ++ ys)) (hg : wr.grownBy w' vr.ownBlock) (hat : v'.ownBlock = vr.ownBlock ∨ v'.ownBlock = some wr.heap.size) : LdW b0 g b m k l x w s C vl nl xl v' (nr + q) (xr ++ ys) w' :=
  ⟨own_kept h.l_ h.r_ (by decide) hg, ho, h.nl, h.bg.grown hg (fun e => own_blk_ne h.r_ h.bg (by decide) e.symm), h.bt.grown hg (fun e => own_blk_ne h.r_ h.bt (by decide) e.symm), h.lb, fun D hD => (h.own D hD).grown h.r_ (by decide) (by decide) hg, h.mm.grown h.r_ (.inr rfl) hg, h.f.grown hg (fun k hk => .inl (.inr (h.r_.lt k hk).1))⟩
theorem LdW.fin {A' B' : Option Addr} {c' d' : Nat} (h : LdW b0 g b m k l x w s C (.slice A' (s.L.length + 1) c') (s.L.length + 1) (crFlat s.L ++ (crA C).toList) (.slice B' (s.refs.length + 1) d') (s.refs.length + 1) (rf9Flat s.refs ++ [.int .i64 s.ns, .int .i64 s.ng]) wr)
    (hb : Blk w' g 114 #[.int .i64 s.n, .bool s.begun, .bool s.over, .int .i64 s.hs, .int .i64 s.hg, .int .i64 s.ns, .int .i64 s.ng, .slice A' (s.L.length + 1) c', .slice B' (s.refs.length + 1) d', s.ve]) (hf : Fr (only g) wr w') :
    Ldr b0 w' g ⟨s.n, s.begun, s.over, s.hs, s.hg, s.ns, s.ng, A', c', s.L ++ [C], B', d', s.refs ++ [(s.ns, s.ng)], s.ve⟩ ∧ Mm w' m k l x ∧ Blk w' b 58 (crA C) ∧ Fr (lall m x b0) w w' := by
  have e1 : (s.L ++ [C]).length = s.L.length + 1 := by simp
  have e2 : (s.refs ++ [(s.ns, s.ng)]).length = s.refs.length + 1 := by simp
  refine ⟨⟨?_, h.lb, ?_, ?_, fun D hD => (h.own D hD).only hf h.bg (by decide) (by decide)⟩, h.mm.ldr h.bg hf, h.bt.fr hf (only_ne (Blk.ne_ h.bt h.bg (by decide))), h.f.then_only hf (.inl (.inr h.lb))⟩
  · show Blk w' g 114 #[.int .i64 s.n, .bool s.begun, .bool s.over, .int .i64 s.hs, .int .i64 s.hg, .int .i64 s.ns, .int .i64 s.ng, .slice A' (s.L ++ [C]).length c', .slice B' (s.refs ++ [(s.ns, s.ng)]).length d', s.ve]
    rw [e1, e2]
    exact hb
  · show w'.ownsRow b0 58 15 (.slice A' (s.L ++ [C]).length c') (s.L ++ [C]).length (crFlat (s.L ++ [C]))
    rw [e1, crFlat_snoc]
    exact own_fr h.l_ hf (fun k hk e => own_blk_ne h.l_ h.bg (by decide) (by rw [hk, show k = g from e]))
  · show w'.ownsRow b0 33 2 (.slice B' (s.refs ++ [(s.ns, s.ng)]).length d') (s.refs ++ [(s.ns, s.ng)]).length (rf9Flat (s.refs ++ [(s.ns, s.ng)]))
    rw [e2, rf9Flat_snoc]
    exact own_fr h.r_ hf (fun k hk e => own_blk_ne h.r_ h.bg (by decide) (by rw [hk, show k = g from e]))
end
/-- What Step's later accesses tell. -/
def LdNext (b0 g m : Nat) (k : Int) (l : Lm) (x : St) (s : LdS) (w : World) (e : Ending) (w' : World) : Prop :=
  ∃ (R : Rc) (A : Option Addr) (c : Nat) (B : Option Addr) (d : Nat) (kk : Int) (v : Value), LoadR x.ss s.ns s.ng R kk ∧ Ev w' v sArena9 s.ns kk ∧ Mm w' m (k + 1) l x ∧ Fr (lall m x b0) w w' ∧
    ((kk ≠ 0 ∧ e = .returned (.bool true) ∧ Ldr b0 w' g { s with over := true, ve := v }) ∨
     (kk = 0 ∧ ∃ (A' : Option Addr) (c' : Nat) (B' : Option Addr) (d' : Nat) (ov : Bool) (ve : Value), e = .returned (.bool ov) ∧ Ldr b0 w' g ⟨s.n, s.begun, ov, s.hs, s.hg, R.nslot, R.ngen, A', c', s.L ++ [⟨R, A, c, B, d⟩], B', d', s.refs ++ [(s.ns, s.ng)], ve⟩ ∧
       ((R.nslot = 0 ∧ R.ngen = 0 ∧ ov = true ∧ ve = .nilIface) ∨ (¬ (R.nslot = 0 ∧ R.ngen = 0) ∧ l.s ≤ s.L.length + 1 ∧ ov = true ∧ ve = errV 10) ∨ (¬ (R.nslot = 0 ∧ R.ngen = 0) ∧ s.L.length + 1 < l.s ∧ ov = false ∧ ve = s.ve))))
set_option maxHeartbeats 8000000 in
theorem step_next {b0 g m : Nat} {k : Int} {l : Lm} {x : St} {w : World} {s : LdS} (h : Ldr b0 w g s) (hm : Mm w m k l x) (hb : ∀ i, mall m x i → i < b0) (h0 : 0 ≤ k) (h1 : k ≤ 100000) (ho : s.over = false) (hg : s.begun = true) (hl1 : s.L.length ≤ 5000) (hl2 : s.refs.length ≤ 5000) :
    Calls Try.prog 17 #[.pointer (some ⟨g, 0, none⟩), .pointer (some ⟨m, 0, none⟩)] w (LdNext b0 g m k l x s w) := by
  have H := hid_ h
  have HM := hid_ hm
  have HB := hid_ hb
  have HO := hid_ ho
  have c1 : w.cell? ⟨g, 1, none⟩ = some (.bool true) := by rw [← hg]; exact h.b.cell' rfl
  have c5 : w.cell? ⟨g, 5, none⟩ = some (.int .i64 s.ns) := h.b.cell' rfl
  have c6 : w.cell? ⟨g, 6, none⟩ = some (.int .i64 s.ng) := h.b.cell' rfl
  have hsg := h.b.lt
  have HG := hid_ hg
  obtain ⟨i0, hi0, hz0, hs0, hb0⟩ := info_parts rec_info9
  have Hi := hid_ (And.intro hi0 (And.intro hz0 (And.intro hs0 hb0)))
  obtain ⟨j0, hj0, hy0, ht0, hc0⟩ := info_parts ref_info9
  have Hj := hid_ (And.intro hj0 (And.intro hy0 (And.intro ht0 hc0)))
  clear hi0 hz0 hs0 hb0 hj0 hy0 ht0 hc0 h hm hb ho hg
  go_enter Try.func17, Try.ntmps17
  go_wp2_with fail
  refine (ldOver_ok H.out).mono ?_
  rintro e w' ⟨rfl, rfl⟩
  rw [HO.out]
  go_wp2_with fail
  refine (memLoad_any m k l x _ HM.out h0 h1 s.ns s.ng).mono ?_
  rintro e w1 ⟨R, A, c, B, d, kk, v, rfl, hld, hev, hmm, hro, hf1⟩
  have LD := hid_ hld
  have EV := hid_ hev
  have RO := hid_ (hro.base (show b0 ≤ w.heap.size by have := H.out.lb; omega))
  replace H := hid_ (H.out.fr hf1 HB.out)
  replace HM := hid_ hmm
  have F1 := hid_ (hf1.mono (S' := lall m x b0) (fun i _ e => .inl e))
  have hsz1 := hf1.size
  have hNL1 : Hid (∀ k, (Value.slice s.A s.L.length s.c).ownBlock = some k → k ≠ w1.heap.size) := hid_ (fun k hk => by have := (H.out.l.lt k hk).2; omega)
  clear hld hev hmm hro hf1 c1 c5 c6
  go_upto_region 12 with (refine wpList_store_mid rfl 58 (.tmp 7) (.tmp 56) rfl w1.heap.size 0 (crA (⟨R, A, c, B, d⟩ : Cr)) rfl rfl (new_there w1 _ recZ) rec_size (by simp [Value.oneCell']) ?_; obtain ⟨w2, hw2⟩ : ∃ z, z = (w1.alloc (.cells recZ 58)).setCells w1.heap.size 0 (crA (⟨R, A, c, B, d⟩ : Cr)).toList := ⟨_, rfl⟩; change wpList _ _ _ _ _ ((w1.alloc (.cells recZ 58)).setCells w1.heap.size 0 (crA (⟨R, A, c, B, d⟩ : Cr)).toList); rw [← hw2]; have P2 : Hid (Blk w2 w1.heap.size 58 (crA (⟨R, A, c, B, d⟩ : Cr)) ∧ Fr none_ w1 w2) := hid_ (by rw [hw2]; exact new_copy w1 _ recZ _ rfl); clear hw2)
  replace H := hid_ (H.out.keep P2.out.2)
  replace HM := hid_ (HM.out.keep P2.out.2)
  replace EV := hid_ (EV.out.keep P2.out.2)
  replace RO := hid_ (RO.out.keep P2.out.2)
  replace F1 := hid_ (F1.out.then_none P2.out.2)
  have BT := hid_ P2.out.1
  have hszb := P2.out.1.lt
  have hlb := H.out.lb
  obtain ⟨b, hbq⟩ : ∃ b, b = w1.heap.size := ⟨_, rfl⟩
  rw [← hbq] at BT hszb
  rw [← hbq]
  have hgb : g < b := by have := H.out.b; omega
  have hNL : Hid (∀ k, (Value.slice s.A s.L.length s.c).ownBlock = some k → k ≠ b) := hid_ (by rw [hbq]; exact hNL1.out)
  clear hbq P2
  rcases EV.out with ⟨hc, rfl⟩ | ⟨hc, q, rfl, -⟩
  rotate_left
  · have HC := hid_ hc
    have EQ := hid_ EV.out
    clear hc
    go_wp2_with fail
    refine (ldStop_ok (.iface 169 (.pointer (some ⟨q, 0, none⟩))) (.inr ⟨_, _, rfl⟩) H.out).mono ?_
    rintro e w3 ⟨rfl, hl3, hf3⟩
    go_wp2_with fail
    go_ret
    exact ⟨R, A, c, B, d, kk, _, LD.out, EQ.out.only hf3 H.out.b (by decide), HM.out.ldr H.out.b hf3, F1.out.then_only hf3 (.inl (.inr hlb)), .inl ⟨HC.out, rfl, hl3⟩⟩
  have HC := hid_ hc
  clear hc EV
  have P0 : Hid (LdW b0 g b m (k + 1) l x w s (⟨R, A, c, B, d⟩ : Cr) (.slice s.A s.L.length s.c) s.L.length (crFlat s.L) (.slice s.B s.refs.length s.e) s.refs.length (rf9Flat s.refs) w2) := hid_ ⟨H.out.l, H.out.r, hNL.out, H.out.b, BT.out, hlb, fun D hD => by
    rcases List.mem_append.1 hD with h | h
    · exact H.out.own D h
    · obtain rfl : D = ⟨R, A, c, B, d⟩ := by simpa using h
      exact RO.out, HM.out, F1.out⟩
  clear H HM RO F1 BT hNL
  go_upto_region 14 with fail
  (try go_frame)
  go_cut [4] (fun u wq => ∃ (A' : Option Addr) (c' : Nat) (B' : Option Addr) (d' : Nat), u = .bool false ∧ Ldr b0 wq g (⟨s.n, s.begun, s.over, s.hs, s.hg, s.ns, s.ng, A', c', s.L ++ [⟨R, A, c, B, d⟩], B', d', s.refs ++ [(s.ns, s.ng)], s.ve⟩ : LdS) ∧ Mm wq m (k + 1) l x ∧ Blk wq b 58 (crA (⟨R, A, c, B, d⟩ : Cr)) ∧ Fr (lall m x b0) w wq)
  case first =>
    have hS0 : (fun w' : World => Blk w' g 114 (ldA s) ∧ Blk w' b 58 (crA (⟨R, A, c, B, d⟩ : Cr))) w2.drew := ⟨P0.out.bg.drew, P0.out.bt.drew⟩
    refine wp_region_u1 21 (fun w' : World => Blk w' g 114 (ldA s) ∧ Blk w' b 58 (crA (⟨R, A, c, B, d⟩ : Cr))) 1 24 (some 64) (.pointer (some ⟨g, 0, none⟩)) (by kernel_rfl) rfl rfl rfl (by kernel_rfl) (by kernel_rfl) (by kernel_rfl) (fun _ _ _ h => h) (y_val (by kernel_rfl) (fun w' hS => by kernel_rfl)) ?_
    refine u_take 0 (some 63) (.pointer (some ⟨g, 0, none⟩)) rfl rfl (by kernel_rfl) (by kernel_rfl) (by kernel_rfl) (by kernel_rfl) (fun _ _ _ h => h) (y_val (by kernel_rfl) (fun w' hS => by kernel_rfl)) hS0 ?_
    go_frame
    refine u_take 2 (some 65) (.pointer (some ⟨g, 0, none⟩)) rfl rfl (by kernel_rfl) (by kernel_rfl) (by kernel_rfl) (by kernel_rfl) (fun _ _ _ h => h) (y_val (by kernel_rfl) (fun w' hS => by kernel_rfl)) hS0 ?_
    go_frame
    refine u_take 3 (some 66) (.pointer (some ⟨g, 0, none⟩)) rfl rfl (by kernel_rfl) (by kernel_rfl) (by kernel_rfl) (by kernel_rfl) (fun _ _ _ h => h) (y_val (by kernel_rfl) (fun w' hS => by kernel_rfl)) hS0 ?_
    go_frame
    refine u_take 4 (some 67) (.pointer (some ⟨g, 7, none⟩)) rfl rfl (by kernel_rfl) (by kernel_rfl) (by kernel_rfl) (by kernel_rfl) (fun _ _ _ h => h) (y_val (by kernel_rfl) (fun w' hS => by kernel_rfl)) hS0 ?_
    go_frame
    refine u_take 5 (some 68) (.slice s.A s.L.length s.c) rfl rfl (by kernel_rfl) (by kernel_rfl) (by kernel_rfl) (by kernel_rfl) (fun _ _ _ h => h) (y_cell 34 (.tmp 67) ⟨g, 7, none⟩ _ (by kernel_rfl) rfl (by kernel_rfl) (fun w' hS => hS.1.cell' rfl) Try.underlying34 rfl) hS0 ?_
    go_frame
    refine u_take 6 (some 69) (.agg (crA (⟨R, A, c, B, d⟩ : Cr))) rfl rfl (by kernel_rfl) (by kernel_rfl) (by kernel_rfl) (by kernel_rfl) (fun _ _ _ h => h) (yieldsIf_load_mid (by kernel_rfl) 58 (.tmp 7) rfl b 0 (by kernel_rfl) (crA (⟨R, A, c, B, d⟩ : Cr)).toList _ (fun w' hS => Blk.range7 (l := (crA (⟨R, A, c, B, d⟩ : Cr)).toList) hS.2) Try.underlying58 rfl rec_size) hS0 ?_
    go_frame
    refine u_take 9 (some 72) (.pointer (some ⟨g, 0, none⟩)) rfl rfl (by kernel_rfl) (by kernel_rfl) (by kernel_rfl) (by kernel_rfl) (fun _ _ _ h => h) (y_val (by kernel_rfl) (fun w' hS => by kernel_rfl)) hS0 ?_
    go_frame
    refine u_take 10 (some 73) (.pointer (some ⟨g, 0, none⟩)) rfl rfl (by kernel_rfl) (by kernel_rfl) (by kernel_rfl) (by kernel_rfl) (fun _ _ _ h => h) (y_val (by kernel_rfl) (fun w' hS => by kernel_rfl)) hS0 ?_
    go_frame
    refine u_take 11 (some 74) (.pointer (some ⟨g, 8, none⟩)) rfl rfl (by kernel_rfl) (by kernel_rfl) (by kernel_rfl) (by kernel_rfl) (fun _ _ _ h => h) (y_val (by kernel_rfl) (fun w' hS => by kernel_rfl)) hS0 ?_
    go_frame
    refine u_take 12 (some 75) (.slice s.B s.refs.length s.e) rfl rfl (by kernel_rfl) (by kernel_rfl) (by kernel_rfl) (by kernel_rfl) (fun _ _ _ h => h) (y_cell 35 (.tmp 74) ⟨g, 8, none⟩ _ (by kernel_rfl) rfl (by kernel_rfl) (fun w' hS => hS.1.cell' rfl) Try.underlying35 rfl) hS0 ?_
    go_frame
    refine u_take 13 (some 76) (.pointer (some ⟨g, 0, none⟩)) rfl rfl (by kernel_rfl) (by kernel_rfl) (by kernel_rfl) (by kernel_rfl) (fun _ _ _ h => h) (y_val (by kernel_rfl) (fun w' hS => by kernel_rfl)) hS0 ?_
    go_frame
    refine u_take 14 (some 77) (.pointer (some ⟨g, 0, none⟩)) rfl rfl (by kernel_rfl) (by kernel_rfl) (by kernel_rfl) (by kernel_rfl) (fun _ _ _ h => h) (y_val (by kernel_rfl) (fun w' hS => by kernel_rfl)) hS0 ?_
    go_frame
    refine u_take 15 (some 78) (.pointer (some ⟨g, 5, none⟩)) rfl rfl (by kernel_rfl) (by kernel_rfl) (by kernel_rfl) (by kernel_rfl) (fun _ _ _ h => h) (y_val (by kernel_rfl) (fun w' hS => by kernel_rfl)) hS0 ?_
    go_frame
    refine u_take 16 (some 79) (.agg #[.int .i64 s.ns, .int .i64 s.ng]) rfl rfl (by kernel_rfl) (by kernel_rfl) (by kernel_rfl) (by kernel_rfl) (fun _ _ _ h => h) (yieldsIf_load_mid (by kernel_rfl) 33 (.tmp 78) rfl g 5 (by kernel_rfl) [.int .i64 s.ns, .int .i64 s.ng] _ (fun w' hS => ld_range5 hS.1) Try.underlying33 rfl ref_size9) hS0 ?_
    go_frame
    clear hS0
    obtain ⟨y0, hy0⟩ : ∃ z, z = w2.drew := ⟨_, rfl⟩
    have Q0 := hid_ (P0.out.keep (Fr.refl none_ w2).drew)
    rw [← hy0] at Q0
    rw [← hy0]
    clear hy0 P0
    refine u_two 7 17 rfl rfl (by kernel_rfl) (by kernel_rfl) (by kernel_rfl) ?_ ?_
    · skip
      refine wp_knownD (some 70) rfl (.slice (some ⟨y0.heap.size, 0, none⟩) 1 1) (y0.alloc (.cells (crA (⟨R, A, c, B, d⟩ : Cr)) 58)) (by kernel_rfl) ⟨(.inr ⟨(Q0.out.keep ((Fr.refl none_ _).alloc _)).bg, (Q0.out.keep ((Fr.refl none_ _).alloc _)).bt⟩), ?_⟩
      go_frame
      obtain ⟨y1, hy1⟩ : ∃ z, z = y0.alloc (.cells (crA (⟨R, A, c, B, d⟩ : Cr)) 58) := ⟨_, rfl⟩
      have f2 : Fr none_ y0 y1 := by rw [hy1]; exact (Fr.refl none_ _).alloc _
      have B4 : Hid (Blk y1 y0.heap.size 58 (crA (⟨R, A, c, B, d⟩ : Cr))) := hid_ (by rw [hy1]; exact Blk.new _ _ _)
      have Q3 := hid_ (Q0.out.keep f2)
      rw [← hy1]
      clear hy1 f2 Q0
      refine u_two 8 17 rfl rfl (by kernel_rfl) (by kernel_rfl) (by kernel_rfl) ?_ ?_
      · skip
        refine wp_dst (some 71) rfl (fun hds => ?_)
        refine wp_append_at _ (.tmp 68) (.tmp 70) 34 rfl b0 58 i0 _ 15 192 Try.underlying34 Hi.out.1 Hi.out.2.1 Hi.out.2.2.1 Hi.out.2.2.2 rfl (by omega) _ _ _ (by kernel_rfl) Q3.out.l_ (some ⟨y0.heap.size, 0, none⟩) 1 1 (crA (⟨R, A, c, B, d⟩ : Cr)).toList (by kernel_rfl) (reads_blk9 B4.out) (cr_one _) (by simp only [maxLen]; omega) (by omega) Q3.out.sz ?_
        intro v7 y6 hown hgr hat
        have Q5 := hid_ (Q3.out.putL hown hgr hat)
        refine ⟨.inr ⟨Q5.out.bg, Q5.out.bt⟩, ?_⟩
        rw [hds]
        clear hown hgr hat hds Q3 B4
        go_frame
        refine u_run 17 (some 80) (.slice (some ⟨y6.heap.size, 0, none⟩) 1 1) (y6.alloc (.cells #[.int .i64 s.ns, .int .i64 s.ng] 33)) rfl rfl (by kernel_rfl) (by kernel_rfl) (by kernel_rfl) (.inr ⟨(Q5.out.keep ((Fr.refl none_ _).alloc _)).bg, (Q5.out.keep ((Fr.refl none_ _).alloc _)).bt⟩) ?_
        go_frame
        obtain ⟨y8, hy8⟩ : ∃ z, z = y6.alloc (.cells #[.int .i64 s.ns, .int .i64 s.ng] 33) := ⟨_, rfl⟩
        have f9 : Fr none_ y6 y8 := by rw [hy8]; exact (Fr.refl none_ _).alloc _
        have B11 : Hid (Blk y8 y6.heap.size 33 #[.int .i64 s.ns, .int .i64 s.ng]) := hid_ (by rw [hy8]; exact Blk.new _ _ _)
        have Q10 := hid_ (Q5.out.keep f9)
        rw [← hy8]
        clear hy8 f9 Q5
        refine u_one 18 rfl (by kernel_rfl) (by kernel_rfl) ?_
        refine wp_dst (some 81) rfl (fun hds => ?_)
        refine wp_append_at _ (.tmp 75) (.tmp 80) 35 rfl b0 33 j0 _ 2 16 Try.underlying35 Hj.out.1 Hj.out.2.1 Hj.out.2.2.1 Hj.out.2.2.2 rfl (by omega) _ _ _ (by kernel_rfl) Q10.out.r_ (some ⟨y6.heap.size, 0, none⟩) 1 1 [.int .i64 s.ns, .int .i64 s.ng] (by kernel_rfl) (reads_blk9 B11.out) (by simp [Value.oneCell']) (by simp only [maxLen]; omega) (by omega) Q10.out.sz ?_
        intro v14 y13 hown hgr hat
        have Q12 := hid_ (Q10.out.putR hown hgr hat)
        refine ⟨.inr ⟨Q12.out.bg, Q12.out.bt⟩, ?_⟩
        rw [hds]
        clear hown hgr hat hds Q10 B11
        go_frame
        obtain ⟨A', c', e1⟩ := Q12.out.l_.shape
        obtain ⟨B', d', e2⟩ := Q12.out.r_.shape
        subst e1
        subst e2
        (try go_frame)
        refine u_run 19 (some 82) (.pointer (some ⟨g, 0, none⟩)) y13 rfl rfl (by kernel_rfl) (by kernel_rfl) (by kernel_rfl) (.inr ⟨Q12.out.bg, Q12.out.bt⟩) ?_
        go_frame
        refine u_run 20 (some 83) (.pointer (some ⟨g, 7, none⟩)) y13 rfl rfl (by kernel_rfl) (by kernel_rfl) (by kernel_rfl) (.inr ⟨Q12.out.bg, Q12.out.bt⟩) ?_
        go_frame
        refine u_one 21 rfl (by kernel_rfl) (by kernel_rfl) ?_
        have c7 : y13.cell? ⟨g, 7, none⟩ = some (.slice s.A s.L.length s.c) := Q12.out.bg.cell' rfl
        have y7 := Q12.out.bg.frozen 7
        go_simp
        have hk := And.intro (Q12.out.bg.set_ 7 (.slice A' (s.L.length + 1) c')) (Fr.only1 y13 ⟨g, 7, none⟩ (.slice A' (s.L.length + 1) c'))
        obtain ⟨y15, hy15⟩ : ∃ z, z = y13.setCell ⟨g, 7, none⟩ (.slice A' (s.L.length + 1) c') := ⟨_, rfl⟩
        rw [← hy15] at hk
        rw [← hy15]
        have K16 := hid_ hk
        clear hk hy15 c7 y7
        refine u_run 22 (some 84) (.pointer (some ⟨g, 0, none⟩)) y15 rfl rfl (by kernel_rfl) (by kernel_rfl) (by kernel_rfl) (.inl (by decide)) ?_
        go_frame
        refine u_run 23 (some 85) (.pointer (some ⟨g, 8, none⟩)) y15 rfl rfl (by kernel_rfl) (by kernel_rfl) (by kernel_rfl) (.inl (by decide)) ?_
        go_frame
        refine u_one 24 rfl (by kernel_rfl) (by kernel_rfl) ?_
        have c7 : y15.cell? ⟨g, 8, none⟩ = some (.slice s.B s.refs.length s.e) := K16.out.1.cell' rfl
        have y7 := K16.out.1.frozen 8
        go_simp
        have hk := And.intro (K16.out.1.set_ 8 (.slice B' (s.refs.length + 1) d')) (Fr.setCell (p := ⟨g, 8, none⟩) K16.out.2 (.inl rfl) (.slice B' (s.refs.length + 1) d'))
        obtain ⟨y17, hy17⟩ : ∃ z, z = y15.setCell ⟨g, 8, none⟩ (.slice B' (s.refs.length + 1) d') := ⟨_, rfl⟩
        rw [← hy17] at hk
        rw [← hy17]
        have K18 := hid_ hk
        clear hk hy17 c7 y7
        have FIN := hid_ (Q12.out.fin K18.out.1 K18.out.2)
        refine u_done (by kernel_rfl) ?_
        (try simp only [Exit.then])
        (try go_frame)
        (first | (rename_i hKm; refine hKm _ _ ?_) | (rename_i hKm _; refine hKm _ _ ?_) | (rename_i hKm _ _; refine hKm _ _ ?_) | (rename_i hKm _ _ _; refine hKm _ _ ?_))
        go_meet
        case rel => exact ⟨A', c', B', d', rfl, FIN.out⟩
      · skip
        refine wp_knownD (some 80) rfl (.slice (some ⟨y1.heap.size, 0, none⟩) 1 1) (y1.alloc (.cells #[.int .i64 s.ns, .int .i64 s.ng] 33)) (by kernel_rfl) ⟨(.inr ⟨(Q3.out.keep ((Fr.refl none_ _).alloc _)).bg, (Q3.out.keep ((Fr.refl none_ _).alloc _)).bt⟩), ?_⟩
        go_frame
        obtain ⟨y19, hy19⟩ : ∃ z, z = y1.alloc (.cells #[.int .i64 s.ns, .int .i64 s.ng] 33) := ⟨_, rfl⟩
        have f20 : Fr none_ y1 y19 := by rw [hy19]; exact (Fr.refl none_ _).alloc _
        have B22 : Hid (Blk y19 y1.heap.size 33 #[.int .i64 s.ns, .int .i64 s.ng]) := hid_ (by rw [hy19]; exact Blk.new _ _ _)
        have Q21 := hid_ (Q3.out.keep f20)
        replace B4 := hid_ (B4.out.fr f20 id)
        rw [← hy19]
        clear hy19 f20 Q3
        refine u_one 8 rfl (by kernel_rfl) (by kernel_rfl) ?_
        refine wp_dst (some 71) rfl (fun hds => ?_)
        refine wp_append_at _ (.tmp 68) (.tmp 70) 34 rfl b0 58 i0 _ 15 192 Try.underlying34 Hi.out.1 Hi.out.2.1 Hi.out.2.2.1 Hi.out.2.2.2 rfl (by omega) _ _ _ (by kernel_rfl) Q21.out.l_ (some ⟨y0.heap.size, 0, none⟩) 1 1 (crA (⟨R, A, c, B, d⟩ : Cr)).toList (by kernel_rfl) (reads_blk9 B4.out) (cr_one _) (by simp only [maxLen]; omega) (by omega) Q21.out.sz ?_
        intro v25 y24 hown hgr hat
        have Q23 := hid_ (Q21.out.putL hown hgr hat)
        replace B22 := hid_ (B22.out.grown hgr (fun e => own_blk_ne Q21.out.l_ B22.out (by decide) e.symm))
        refine ⟨.inr ⟨Q23.out.bg, Q23.out.bt⟩, ?_⟩
        rw [hds]
        clear hown hgr hat hds Q21 B4
        go_frame
        refine u_one 18 rfl (by kernel_rfl) (by kernel_rfl) ?_
        refine wp_dst (some 81) rfl (fun hds => ?_)
        refine wp_append_at _ (.tmp 75) (.tmp 80) 35 rfl b0 33 j0 _ 2 16 Try.underlying35 Hj.out.1 Hj.out.2.1 Hj.out.2.2.1 Hj.out.2.2.2 rfl (by omega) _ _ _ (by kernel_rfl) Q23.out.r_ (some ⟨y1.heap.size, 0, none⟩) 1 1 [.int .i64 s.ns, .int .i64 s.ng] (by kernel_rfl) (reads_blk9 B22.out) (by simp [Value.oneCell']) (by simp only [maxLen]; omega) (by omega) Q23.out.sz ?_
        intro v28 y27 hown hgr hat
        have Q26 := hid_ (Q23.out.putR hown hgr hat)
        refine ⟨.inr ⟨Q26.out.bg, Q26.out.bt⟩, ?_⟩
        rw [hds]
        clear hown hgr hat hds Q23 B22
        go_frame
        obtain ⟨A', c', e1⟩ := Q26.out.l_.shape
        obtain ⟨B', d', e2⟩ := Q26.out.r_.shape
        subst e1
        subst e2
        (try go_frame)
        refine u_run 19 (some 82) (.pointer (some ⟨g, 0, none⟩)) y27 rfl rfl (by kernel_rfl) (by kernel_rfl) (by kernel_rfl) (.inr ⟨Q26.out.bg, Q26.out.bt⟩) ?_
        go_frame
        refine u_run 20 (some 83) (.pointer (some ⟨g, 7, none⟩)) y27 rfl rfl (by kernel_rfl) (by kernel_rfl) (by kernel_rfl) (.inr ⟨Q26.out.bg, Q26.out.bt⟩) ?_
        go_frame
        refine u_one 21 rfl (by kernel_rfl) (by kernel_rfl) ?_
        have c7 : y27.cell? ⟨g, 7, none⟩ = some (.slice s.A s.L.length s.c) := Q26.out.bg.cell' rfl
        have y7 := Q26.out.bg.frozen 7
        go_simp
        have hk := And.intro (Q26.out.bg.set_ 7 (.slice A' (s.L.length + 1) c')) (Fr.only1 y27 ⟨g, 7, none⟩ (.slice A' (s.L.length + 1) c'))
        obtain ⟨y29, hy29⟩ : ∃ z, z = y27.setCell ⟨g, 7, none⟩ (.slice A' (s.L.length + 1) c') := ⟨_, rfl⟩
        rw [← hy29] at hk
        rw [← hy29]
        have K30 := hid_ hk
        clear hk hy29 c7 y7
        refine u_run 22 (some 84) (.pointer (some ⟨g, 0, none⟩)) y29 rfl rfl (by kernel_rfl) (by kernel_rfl) (by kernel_rfl) (.inl (by decide)) ?_
        go_frame
        refine u_run 23 (some 85) (.pointer (some ⟨g, 8, none⟩)) y29 rfl rfl (by kernel_rfl) (by kernel_rfl) (by kernel_rfl) (.inl (by decide)) ?_
        go_frame
        refine u_one 24 rfl (by kernel_rfl) (by kernel_rfl) ?_
        have c7 : y29.cell? ⟨g, 8, none⟩ = some (.slice s.B s.refs.length s.e) := K30.out.1.cell' rfl
        have y7 := K30.out.1.frozen 8
        go_simp
        have hk := And.intro (K30.out.1.set_ 8 (.slice B' (s.refs.length + 1) d')) (Fr.setCell (p := ⟨g, 8, none⟩) K30.out.2 (.inl rfl) (.slice B' (s.refs.length + 1) d'))
        obtain ⟨y31, hy31⟩ : ∃ z, z = y29.setCell ⟨g, 8, none⟩ (.slice B' (s.refs.length + 1) d') := ⟨_, rfl⟩
        rw [← hy31] at hk
        rw [← hy31]
        have K32 := hid_ hk
        clear hk hy31 c7 y7
        have FIN := hid_ (Q26.out.fin K32.out.1 K32.out.2)
        refine u_done (by kernel_rfl) ?_
        (try simp only [Exit.then])
        (try go_frame)
        (first | (rename_i hKm; refine hKm _ _ ?_) | (rename_i hKm _; refine hKm _ _ ?_) | (rename_i hKm _ _; refine hKm _ _ ?_) | (rename_i hKm _ _ _; refine hKm _ _ ?_))
        go_meet
        case rel => exact ⟨A', c', B', d', rfl, FIN.out⟩
    · skip
      refine wp_knownD (some 80) rfl (.slice (some ⟨y0.heap.size, 0, none⟩) 1 1) (y0.alloc (.cells #[.int .i64 s.ns, .int .i64 s.ng] 33)) (by kernel_rfl) ⟨(.inr ⟨(Q0.out.keep ((Fr.refl none_ _).alloc _)).bg, (Q0.out.keep ((Fr.refl none_ _).alloc _)).bt⟩), ?_⟩
      go_frame
      obtain ⟨y33, hy33⟩ : ∃ z, z = y0.alloc (.cells #[.int .i64 s.ns, .int .i64 s.ng] 33) := ⟨_, rfl⟩
      have f34 : Fr none_ y0 y33 := by rw [hy33]; exact (Fr.refl none_ _).alloc _
      have B36 : Hid (Blk y33 y0.heap.size 33 #[.int .i64 s.ns, .int .i64 s.ng]) := hid_ (by rw [hy33]; exact Blk.new _ _ _)
      have Q35 := hid_ (Q0.out.keep f34)
      rw [← hy33]
      clear hy33 f34 Q0
      refine u_run 7 (some 70) (.slice (some ⟨y33.heap.size, 0, none⟩) 1 1) (y33.alloc (.cells (crA (⟨R, A, c, B, d⟩ : Cr)) 58)) rfl rfl (by kernel_rfl) (by kernel_rfl) (by kernel_rfl) (.inr ⟨(Q35.out.keep ((Fr.refl none_ _).alloc _)).bg, (Q35.out.keep ((Fr.refl none_ _).alloc _)).bt⟩) ?_
      go_frame
      obtain ⟨y37, hy37⟩ : ∃ z, z = y33.alloc (.cells (crA (⟨R, A, c, B, d⟩ : Cr)) 58) := ⟨_, rfl⟩
      have f38 : Fr none_ y33 y37 := by rw [hy37]; exact (Fr.refl none_ _).alloc _
      have B40 : Hid (Blk y37 y33.heap.size 58 (crA (⟨R, A, c, B, d⟩ : Cr))) := hid_ (by rw [hy37]; exact Blk.new _ _ _)
      have Q39 := hid_ (Q35.out.keep f38)
      replace B36 := hid_ (B36.out.fr f38 id)
      rw [← hy37]
      clear hy37 f38 Q35
      refine u_one 8 rfl (by kernel_rfl) (by kernel_rfl) ?_
      refine wp_dst (some 71) rfl (fun hds => ?_)
      refine wp_append_at _ (.tmp 68) (.tmp 70) 34 rfl b0 58 i0 _ 15 192 Try.underlying34 Hi.out.1 Hi.out.2.1 Hi.out.2.2.1 Hi.out.2.2.2 rfl (by omega) _ _ _ (by kernel_rfl) Q39.out.l_ (some ⟨y33.heap.size, 0, none⟩) 1 1 (crA (⟨R, A, c, B, d⟩ : Cr)).toList (by kernel_rfl) (reads_blk9 B40.out) (cr_one _) (by simp only [maxLen]; omega) (by omega) Q39.out.sz ?_
      intro v43 y42 hown hgr hat
      have Q41 := hid_ (Q39.out.putL hown hgr hat)
      replace B36 := hid_ (B36.out.grown hgr (fun e => own_blk_ne Q39.out.l_ B36.out (by decide) e.symm))
      refine ⟨.inr ⟨Q41.out.bg, Q41.out.bt⟩, ?_⟩
      rw [hds]
      clear hown hgr hat hds Q39 B40
      go_frame
      refine u_one 18 rfl (by kernel_rfl) (by kernel_rfl) ?_
      refine wp_dst (some 81) rfl (fun hds => ?_)
      refine wp_append_at _ (.tmp 75) (.tmp 80) 35 rfl b0 33 j0 _ 2 16 Try.underlying35 Hj.out.1 Hj.out.2.1 Hj.out.2.2.1 Hj.out.2.2.2 rfl (by omega) _ _ _ (by kernel_rfl) Q41.out.r_ (some ⟨y0.heap.size, 0, none⟩) 1 1 [.int .i64 s.ns, .int .i64 s.ng] (by kernel_rfl) (reads_blk9 B36.out) (by simp [Value.oneCell']) (by simp only [maxLen]; omega) (by omega) Q41.out.sz ?_
      intro v46 y45 hown hgr hat
      have Q44 := hid_ (Q41.out.putR hown hgr hat)
      refine ⟨.inr ⟨Q44.out.bg, Q44.out.bt⟩, ?_⟩
      rw [hds]
      clear hown hgr hat hds Q41 B36
      go_frame
      obtain ⟨A', c', e1⟩ := Q44.out.l_.shape
      obtain ⟨B', d', e2⟩ := Q44.out.r_.shape
      subst e1
      subst e2
      (try go_frame)
      refine u_run 19 (some 82) (.pointer (some ⟨g, 0, none⟩)) y45 rfl rfl (by kernel_rfl) (by kernel_rfl) (by kernel_rfl) (.inr ⟨Q44.out.bg, Q44.out.bt⟩) ?_
      go_frame
      refine u_run 20 (some 83) (.pointer (some ⟨g, 7, none⟩)) y45 rfl rfl (by kernel_rfl) (by kernel_rfl) (by kernel_rfl) (.inr ⟨Q44.out.bg, Q44.out.bt⟩) ?_
      go_frame
      refine u_one 21 rfl (by kernel_rfl) (by kernel_rfl) ?_
      have c7 : y45.cell? ⟨g, 7, none⟩ = some (.slice s.A s.L.length s.c) := Q44.out.bg.cell' rfl
      have y7 := Q44.out.bg.frozen 7
      go_simp
      have hk := And.intro (Q44.out.bg.set_ 7 (.slice A' (s.L.length + 1) c')) (Fr.only1 y45 ⟨g, 7, none⟩ (.slice A' (s.L.length + 1) c'))
      obtain ⟨y47, hy47⟩ : ∃ z, z = y45.setCell ⟨g, 7, none⟩ (.slice A' (s.L.length + 1) c') := ⟨_, rfl⟩
      rw [← hy47] at hk
      rw [← hy47]
      have K48 := hid_ hk
      clear hk hy47 c7 y7
      refine u_run 22 (some 84) (.pointer (some ⟨g, 0, none⟩)) y47 rfl rfl (by kernel_rfl) (by kernel_rfl) (by kernel_rfl) (.inl (by decide)) ?_
      go_frame
      refine u_run 23 (some 85) (.pointer (some ⟨g, 8, none⟩)) y47 rfl rfl (by kernel_rfl) (by kernel_rfl) (by kernel_rfl) (.inl (by decide)) ?_
      go_frame
      refine u_one 24 rfl (by kernel_rfl) (by kernel_rfl) ?_
      have c7 : y47.cell? ⟨g, 8, none⟩ = some (.slice s.B s.refs.length s.e) := K48.out.1.cell' rfl
      have y7 := K48.out.1.frozen 8
      go_simp
      have hk := And.intro (K48.out.1.set_ 8 (.slice B' (s.refs.length + 1) d')) (Fr.setCell (p := ⟨g, 8, none⟩) K48.out.2 (.inl rfl) (.slice B' (s.refs.length + 1) d'))
      obtain ⟨y49, hy49⟩ : ∃ z, z = y47.setCell ⟨g, 8, none⟩ (.slice B' (s.refs.length + 1) d') := ⟨_, rfl⟩
      rw [← hy49] at hk
      rw [← hy49]
      have K50 := hid_ hk
      clear hk hy49 c7 y7
      have FIN := hid_ (Q44.out.fin K50.out.1 K50.out.2)
      refine u_done (by kernel_rfl) ?_
      (try simp only [Exit.then])
      (try go_frame)
      (first | (rename_i hKm; refine hKm _ _ ?_) | (rename_i hKm _; refine hKm _ _ ?_) | (rename_i hKm _ _; refine hKm _ _ ?_) | (rename_i hKm _ _ _; refine hKm _ _ ?_))
      go_meet
      case rel => exact ⟨A', c', B', d', rfl, FIN.out⟩
  case rest =>
  obtain ⟨A', c', B', d', rfl, hL, hM, hT, hF⟩ := hcut
  obtain ⟨w3, rfl⟩ : ∃ z : World, z = wc := ⟨_, rfl⟩
  have HL := hid_ hL
  have HM := hid_ hM
  have HT := hid_ hT
  have HF := hid_ hF
  have hlc : (s.L ++ [(⟨R, A, c, B, d⟩ : Cr)]).length = s.L.length + 1 := by simp
  clear hL hM hT hF
  have b13 : w3.cell? ⟨b, 13, none⟩ = some (.int .i64 R.nslot) := HT.out.cell' rfl
  have b14 : w3.cell? ⟨b, 14, none⟩ = some (.int .i64 R.ngen) := HT.out.cell' rfl
  have g5 : w3.cell? ⟨g, 5, none⟩ = some (.int .i64 s.ns) := HL.out.b.cell' rfl
  have g6 : w3.cell? ⟨g, 6, none⟩ = some (.int .i64 s.ng) := HL.out.b.cell' rfl
  have y5 := HL.out.b.frozen 5
  have y6 := HL.out.b.frozen 6
  go_upto_region 16 with fail
  obtain ⟨w4, hw4⟩ : ∃ z, z = (w3.setCell ⟨g, 5, none⟩ (.int .i64 R.nslot)).setCell ⟨g, 6, none⟩ (.int .i64 R.ngen) := ⟨_, rfl⟩
  have f4 : Fr (only g) w3 w4 := by rw [hw4]; exact Fr.setCell (p := ⟨g, 6, none⟩) (Fr.only1 w3 ⟨g, 5, none⟩ _) (.inl rfl) _
  have b4 := (HL.out.b.set_ 5 (.int .i64 R.nslot)).set_ 6 (.int .i64 R.ngen)
  rw [← hw4] at b4
  rw [← hw4]
  clear hw4 b13 b14 g5 g6 y5 y6
  have L4 : Hid (Ldr b0 w4 g (⟨s.n, s.begun, s.over, s.hs, s.hg, R.nslot, R.ngen, A', c', s.L ++ [⟨R, A, c, B, d⟩], B', d', s.refs ++ [(s.ns, s.ng)], s.ve⟩ : LdS)) := hid_ (HL.out.upd b4 f4 rfl)
  replace HM := hid_ (HM.out.ldr HL.out.b f4)
  replace HF := hid_ (HF.out.then_only f4 (.inl (.inr hlb)))
  clear HL HT f4 b4
  have hg5 : w4.cell? ⟨g, 5, none⟩ = some (.int .i64 R.nslot) := L4.out.b.cell' rfl
  have hg6 : w4.cell? ⟨g, 6, none⟩ = some (.int .i64 R.ngen) := L4.out.b.cell' rfl
  have hq := eql_ref
  by_cases hz : R.nslot = 0 ∧ R.ngen = 0
  · have hd : (R.nslot == 0 && R.ngen == 0) = true := by simp [hz.1, hz.2]
    have HZ := hid_ hz
    clear hz
    go_wp2_with fail
    refine (ldStop_ok .nilIface (.inl rfl) L4.out).mono ?_
    rintro e w5 ⟨rfl, hl5, hf5⟩
    go_wp2_with fail
    go_ret
    exact ⟨R, A, c, B, d, kk, .nilIface, LD.out, .inl ⟨HC.out, rfl⟩, HM.out.ldr L4.out.b hf5, HF.out.then_only hf5 (.inl (.inr hlb)), .inr ⟨HC.out, A', c', B', d', true, .nilIface, rfl, hl5, .inl ⟨HZ.out.1, HZ.out.2, rfl, rfl⟩⟩⟩
  · have hd : (R.nslot == 0 && R.ngen == 0) = false := by
      simp only [Bool.and_eq_false_iff, beq_eq_false_iff_ne]
      omega
    have HZ := hid_ hz
    clear hz
    have hg7 : w4.cell? ⟨g, 7, none⟩ = some (.slice A' (s.L.length + 1) c') := by have := L4.out.b.cell' (i := 7) (v := .slice A' (s.L ++ [(⟨R, A, c, B, d⟩ : Cr)]).length c') rfl; rwa [hlc] at this
    go_upto_region 18 with fail
    (try go_frame)
    go_cut [107] (fun u wq => u = .bool (decide ((l.s : Int) ≤ ((s.L.length + 1 : Nat) : Int))) ∧ Fr none_ w4 wq)
    case first =>
      have hS0 : (fun w' : World => Fr none_ w4 w') w4.drew := (Fr.refl none_ w4).drew
      refine wp_region_u 9 (fun w' : World => Fr none_ w4 w') (by kernel_rfl) ?_
      refine u_take 0 (some 99) (.pointer (some ⟨g, 0, none⟩)) rfl rfl (by kernel_rfl) (by kernel_rfl) (by kernel_rfl) (by kernel_rfl) (fun _ _ _ h => h) (y_val (by kernel_rfl) (fun w' hS => by kernel_rfl)) hS0 ?_
      go_frame
      refine u_take 1 (some 100) (.pointer (some ⟨g, 0, none⟩)) rfl rfl (by kernel_rfl) (by kernel_rfl) (by kernel_rfl) (by kernel_rfl) (fun _ _ _ h => h) (y_val (by kernel_rfl) (fun w' hS => by kernel_rfl)) hS0 ?_
      go_frame
      refine u_take 2 (some 101) (.pointer (some ⟨g, 7, none⟩)) rfl rfl (by kernel_rfl) (by kernel_rfl) (by kernel_rfl) (by kernel_rfl) (fun _ _ _ h => h) (y_val (by kernel_rfl) (fun w' hS => by kernel_rfl)) hS0 ?_
      go_frame
      refine u_take 3 (some 102) (.slice A' (s.L.length + 1) c') rfl rfl (by kernel_rfl) (by kernel_rfl) (by kernel_rfl) (by kernel_rfl) (fun _ _ _ h => h) (y_cell 34 (.tmp 101) ⟨g, 7, none⟩ _ (by kernel_rfl) rfl (by kernel_rfl) (fun w' hS => cellFr hg7 hS) Try.underlying34 rfl) hS0 ?_
      go_frame
      refine u_take 4 (some 103) (.int .i64 ((s.L.length + 1 : Nat) : Int)) rfl rfl (by kernel_rfl) (by kernel_rfl) (by kernel_rfl) (by kernel_rfl) (fun _ _ _ h => h) (y_val (by kernel_rfl) (fun w' hS => by kernel_rfl)) hS0 ?_
      go_frame
      refine u_take 5 (some 104) (.pointer (some ⟨m, 0, none⟩)) rfl rfl (by kernel_rfl) (by kernel_rfl) (by kernel_rfl) (by kernel_rfl) (fun _ _ _ h => h) (y_val (by kernel_rfl) (fun w' hS => by kernel_rfl)) hS0 ?_
      go_frame
      clear hS0
      refine u_call 6 (some 105) 52 #[.pointer (some ⟨m, 0, none⟩)] (.agg (lmA l)) (Fr none_ w4.drew) rfl rfl (by kernel_rfl) (by kernel_rfl) (by kernel_rfl) (memLimits_ok _ (HM.out.keep (Fr.refl none_ w4).drew)) ?_
      intro w5 hf5
      have F5 := hid_ (((Fr.refl none_ w4).drew).then_none hf5)
      refine ⟨F5.out, ?_⟩
      go_frame
      refine u_run 7 (some 106) (.int .i64 (l.s : Int)) w5 rfl rfl (by kernel_rfl) (by kernel_rfl) (by kernel_rfl) (.inr F5.out) ?_
      go_frame
      refine u_run 8 (some 107) (.bool (decide ((l.s : Int) ≤ ((s.L.length + 1 : Nat) : Int)))) w5 rfl rfl (by kernel_rfl) (by kernel_rfl) (by kernel_rfl) (.inr F5.out) ?_
      go_frame
      refine u_done (by kernel_rfl) ?_
      (try simp only [Exit.then])
      (try go_frame)
      (first | (rename_i hKm; refine hKm _ _ ?_) | (rename_i hKm _; refine hKm _ _ ?_) | (rename_i hKm _ _; refine hKm _ _ ?_) | (rename_i hKm _ _ _; refine hKm _ _ ?_))
      go_meet
      case rel => exact ⟨rfl, F5.out⟩
    case rest =>
    obtain ⟨rfl, hf5⟩ := hcut
    obtain ⟨w5, rfl⟩ : ∃ z : World, z = wc := ⟨_, rfl⟩
    replace L4 := hid_ (L4.out.keep hf5)
    replace HM := hid_ (HM.out.keep hf5)
    replace HF := hid_ (HF.out.then_none hf5)
    clear hf5 hg5 hg6 hg7 hq hd
    by_cases hle : l.s ≤ s.L.length + 1
    · have hd : decide ((l.s : Int) ≤ ((s.L.length + 1 : Nat) : Int)) = true := by simp; omega
      have HLE := hid_ hle
      rw [hd]
      clear hd hle
      go_wp2_with fail
      refine (ldStop_ok (errV 10) (.inr ⟨_, _, rfl⟩) L4.out).mono ?_
      rintro e w6 ⟨rfl, hl6, hf6⟩
      go_wp2_with fail
      go_ret
      exact ⟨R, A, c, B, d, kk, .nilIface, LD.out, .inl ⟨HC.out, rfl⟩, HM.out.ldr L4.out.b hf6, HF.out.then_only hf6 (.inl (.inr hlb)), .inr ⟨HC.out, A', c', B', d', true, errV 10, rfl, hl6, .inr (.inl ⟨HZ.out, HLE.out, rfl, rfl⟩)⟩⟩
    · have hd : decide ((l.s : Int) ≤ ((s.L.length + 1 : Nat) : Int)) = false := by simp; omega
      have HLE := hid_ hle
      rw [hd]
      clear hd hle
      go_wp2_with fail
      go_ret
      exact ⟨R, A, c, B, d, kk, .nilIface, LD.out, .inl ⟨HC.out, rfl⟩, HM.out, HF.out, .inr ⟨HC.out, A', c', B', d', false, s.ve, rfl, by rw [← HO.out]; exact L4.out, .inr (.inr ⟨HZ.out, by have := HLE.out; omega, rfl, rfl⟩)⟩⟩
end Go.Proofs.Ytpjbncbmdfmlpaa
namespace Go.Proofs.Ytpjbncbmdfmlpaa
open Go.RowKit Go.BigFrame
set_option maxRecDepth 100000
set_option linter.unusedVariables false

abbrev toCh (C : Cr) : Ch := ⟨C.R, C.A, C.c, C.B, C.d⟩
/-- A record's texts and entries are not too long. -/
structure RcOk (R : Rc) : Prop where
  low : SzOk R.low
  high : SzOk R.high
  key : SzOk R.key
  hkey : SzOk R.hkey
  ents : EtsOk R.ents
theorem flat_toCh (L : List Cr) : recFlat (L.map toCh) = crFlat L := by
  induction L with
  | nil => rfl
  | cons C t ih => simp only [recFlat, crFlat, List.map_cons, List.flatten_cons] at ih ⊢; rw [ih]
theorem map_toCh (L : List Cr) : (L.map toCh).map (·.R) = L.map (·.R) := by induction L with
  | nil => rfl
  | cons C t ih => simp only [List.map_cons]; rw [ih]
theorem Ldr.ch {b0 g : Nat} {w : World} {s : LdS} (h : Ldr b0 w g s) (hs : ∀ C ∈ s.L, RcOk C.R) : ChReads w s.A s.L.length (s.L.map toCh) := by
  refine chReads_own (Cs := s.L.map toCh) (base := b0) (c := s.c) (by rw [flat_toCh]; exact h.l) (by simp) (fun C hC => ?_)
  obtain ⟨D, hD, rfl⟩ := List.mem_map.1 hC
  have hk := hs D hD
  exact ChOwn.ok ⟨(h.own D hD).base (Nat.zero_le _), hk.low, hk.high, hk.key, hk.hkey, hk.ents⟩
theorem PgIn.only {b0 : Nat} {w w' : World} {L : List Rc} {refs : List (Int × Int)} {lv : Lw} {iv : Vw} {A B C D : Option Addr} {c d x y X : Nat} (h : PgIn b0 w L refs lv iv A c B d C x D y) (hX : Blk w X 45 pgZ) (hf : Fr (only X) w w') : PgIn b0 w' L refs lv iv A c B d C x D y := by
  obtain ⟨Cs, h1, h2, h3⟩ := h.ch
  exact ⟨⟨own_fr h.lv.own hf (fun k hk e => own_blk_ne h.lv.own hX (by decide) (by rw [hk, show k = X from e])), h.lv.ok⟩, h.iv.farZ hX hf,
    ⟨Cs, h1, own_fr h2 hf (fun k hk e => own_blk_ne h2 hX (by decide) (by rw [hk, show k = X from e])), fun E hE => (h3 E hE).only hf hX (by decide) (by decide)⟩,
    own_fr h.rf hf (fun k hk e => own_blk_ne h.rf hX (by decide) (by rw [hk, show k = X from e]))⟩
theorem PgIn.base {b0 b1 : Nat} {w : World} {L : List Rc} {refs : List (Int × Int)} {lv : Lw} {iv : Vw} {A B C D : Option Addr} {c d x y : Nat} (h : PgIn b1 w L refs lv iv A c B d C x D y) (hb : b0 ≤ b1) : PgIn b0 w L refs lv iv A c B d C x D y := by
  obtain ⟨Cs, h1, h2, h3⟩ := h.ch
  exact ⟨⟨own_base h.lv.own hb, h.lv.ok⟩, h.iv, ⟨Cs, h1, own_base h2 hb, h3⟩, own_base h.rf hb⟩
/-- What a call of Of told, in a world behind it, and all older than b0 is as it was. -/
def LdMade (b0 : Nat) (s : LdS) (w : World) (v : Value) (w' : World) : Prop :=
  ((∃ leaf lv iv A c B d C x D y, ofM (s.L.map (·.R)) = some (leaf, lv, iv) ∧ v = .tuple #[.agg (pgA s.n s.hs s.hg (.slice C s.L.length x) (.slice D s.refs.length y) leaf lv (.slice A lv.rows.length c) iv (.slice B iv.ents.length d)), .nilIface] ∧ PgIn b0 w' (s.L.map (·.R)) s.refs lv iv A c B d C x D y) ∨
   (∃ k : Int, (k = 9 ∨ k = 10) ∧ ofM (s.L.map (·.R)) = none ∧ v = .tuple #[.agg pgZ, errV k])) ∧ Fr none_ w w'
theorem LdMade.only {b0 : Nat} {s : LdS} {w w1 w' : World} {v : Value} {X : Nat} (h : LdMade b0 s w v w1) (hX : Blk w1 X 45 pgZ) (hf : Fr (only X) w1 w') (hn : w.heap.size ≤ X) : LdMade b0 s w v w' := by
  obtain ⟨h, hf0⟩ := h
  refine ⟨?_, hf0.then_only hf (.inr hn)⟩
  rcases h with ⟨leaf, lv, iv, A, c, B, d, C, x, D, y, h1, h2, h3⟩ | h
  · exact .inl ⟨leaf, lv, iv, A, c, B, d, C, x, D, y, h1, h2, h3.only hX hf⟩
  · exact .inr h
theorem LdMade.of {b0 : Nat} {s : LdS} {w w1 w' : World} {v : Value} (h : OfPost s.n s.hs s.hg ((s.L.map toCh).map (·.R)) s.refs w1 (.returned v) w') (hf : Fr none_ w w1) (hb : b0 ≤ w1.heap.size) : LdMade b0 s w v w' := by
  unfold OfPost at h
  rw [map_toCh] at h
  rcases h with ⟨leaf, lv, iv, A, c, B, d, C, x, D, y, h1, h2, h3, h4⟩ | ⟨k, hk, h1, h2, h4⟩
  · refine ⟨.inl ⟨leaf, lv, iv, A, c, B, d, C, x, D, y, h1, ?_, h3.base hb⟩, hf.then_none h4⟩
    have := Ending.returned.inj h2
    rw [this]
    simp
  · exact ⟨.inr ⟨k, hk, h1, Ending.returned.inj h2⟩, hf.then_none h4⟩
theorem LdMade.shape {b0 : Nat} {s : LdS} {w w' : World} {v : Value} (h : LdMade b0 s w v w') : ∃ (pv : Array Value) (ev : Value), v = .tuple #[.agg pv, ev] ∧ pv.size = 21 ∧ pv.all (·.oneCell') = true := by
  rcases h.1 with ⟨leaf, lv, iv, A, c, B, d, C, x, D, y, h1, h2, h3⟩ | ⟨k, hk, h1, h2⟩
  · exact ⟨_, _, h2, rfl, by simp [Value.oneCell']⟩
  · exact ⟨_, _, h2, rfl, by simp [Value.oneCell']⟩
theorem ld_range3 {w : World} {g : Nat} {s : LdS} (h : Blk w g 114 (ldA s)) : w.rangeAt g 3 [.int .i64 s.hs, .int .i64 s.hg] := fun j v hv => by
  match j, hv with
  | 0, hv => have e : some _ = some v := hv; rw [← e]; exact h.cell' rfl
  | 1, hv => have e : some _ = some v := hv; rw [← e]; exact h.cell' rfl
  | k + 2, hv => simp at hv
set_option maxHeartbeats 4000000 in
theorem ldMade_ok {b0 g bx : Nat} {w : World} {s : LdS} (h : Ldr b0 w g s) (hx : Blk w bx 30 #[.pointer (some ⟨g, 0, none⟩)]) (hs : ∀ C ∈ s.L, RcOk C.R) (hl : s.L.length ≤ 400) (h7 : RwOkL (s.L.map toCh)) (he : ∀ C ∈ s.L.map toCh, C.R.ents.length ≤ 500) (hr : s.refs.length ≤ 5000) :
    Calls Try.prog 48 #[.pointer (some ⟨bx, 0, none⟩)] w fun e w' => ∃ v, e = .returned v ∧ LdMade w.heap.size s w v w' := by
  obtain ⟨w0, hw0⟩ : ∃ z, z = w.alloc (.cells pgZ 45) := ⟨_, rfl⟩
  have f0 : Fr none_ w w0 := by rw [hw0]; exact (Fr.refl none_ w).alloc _
  have BZ : Hid (Blk w0 w.heap.size 45 pgZ) := hid_ (by rw [hw0]; exact Blk.new w _ _)
  have H := hid_ (h.keep f0)
  have BX := hid_ (hx.fr f0 id)
  have F0 := hid_ f0
  have HS := hid_ (And.intro hs (And.intro hl (And.intro h7 (And.intro he hr))))
  have hsz0 := BZ.out.lt
  clear h hx hs hl h7 he hr f0
  go_enter Try.func48, Try.ntmps48
  go_upto_region 1 with fail
  change Code.wp _ _ _ _ (w.alloc (.cells pgZ 45))
  rw [← hw0]
  clear hw0
  have hS0 : (fun w' : World => Blk w' g 114 (ldA s) ∧ Blk w' bx 30 #[.pointer (some ⟨g, 0, none⟩)]) w0.drew := ⟨H.out.b.drew, BX.out.drew⟩
  refine wp_region_u 21 (fun w' : World => Blk w' g 114 (ldA s) ∧ Blk w' bx 30 #[.pointer (some ⟨g, 0, none⟩)]) (by kernel_rfl) ?_
  refine u_take 0 (some 3) (.pointer (some ⟨g, 0, none⟩)) rfl rfl (by kernel_rfl) (by kernel_rfl) (by kernel_rfl) (by kernel_rfl) (fun _ _ _ h => h) (y_cell 30 (.tmp 0) ⟨bx, 0, none⟩ _ (by kernel_rfl) rfl (by kernel_rfl) (fun w' hS => hS.2.cell' rfl) Try.underlying30 rfl) hS0 ?_
  go_frame
  refine u_take 1 (some 4) (.pointer (some ⟨g, 0, none⟩)) rfl rfl (by kernel_rfl) (by kernel_rfl) (by kernel_rfl) (by kernel_rfl) (fun _ _ _ h => h) (y_val (by kernel_rfl) (fun w' hS => by kernel_rfl)) hS0 ?_
  go_frame
  refine u_take 2 (some 5) (.pointer (some ⟨g, 0, none⟩)) rfl rfl (by kernel_rfl) (by kernel_rfl) (by kernel_rfl) (by kernel_rfl) (fun _ _ _ h => h) (y_val (by kernel_rfl) (fun w' hS => by kernel_rfl)) hS0 ?_
  go_frame
  refine u_take 3 (some 6) (.int .i64 s.n) rfl rfl (by kernel_rfl) (by kernel_rfl) (by kernel_rfl) (by kernel_rfl) (fun _ _ _ h => h) (y_cell 3 (.tmp 5) ⟨g, 0, none⟩ _ (by kernel_rfl) rfl (by kernel_rfl) (fun w' hS => hS.1.cell' rfl) Try.underlying3 rfl) hS0 ?_
  go_frame
  refine u_take 4 (some 7) (.pointer (some ⟨g, 0, none⟩)) rfl rfl (by kernel_rfl) (by kernel_rfl) (by kernel_rfl) (by kernel_rfl) (fun _ _ _ h => h) (y_cell 30 (.tmp 0) ⟨bx, 0, none⟩ _ (by kernel_rfl) rfl (by kernel_rfl) (fun w' hS => hS.2.cell' rfl) Try.underlying30 rfl) hS0 ?_
  go_frame
  refine u_take 5 (some 8) (.pointer (some ⟨g, 0, none⟩)) rfl rfl (by kernel_rfl) (by kernel_rfl) (by kernel_rfl) (by kernel_rfl) (fun _ _ _ h => h) (y_val (by kernel_rfl) (fun w' hS => by kernel_rfl)) hS0 ?_
  go_frame
  refine u_take 6 (some 9) (.pointer (some ⟨g, 3, none⟩)) rfl rfl (by kernel_rfl) (by kernel_rfl) (by kernel_rfl) (by kernel_rfl) (fun _ _ _ h => h) (y_val (by kernel_rfl) (fun w' hS => by kernel_rfl)) hS0 ?_
  go_frame
  refine u_take 7 (some 10) (.agg #[.int .i64 s.hs, .int .i64 s.hg]) rfl rfl (by kernel_rfl) (by kernel_rfl) (by kernel_rfl) (by kernel_rfl) (fun _ _ _ h => h) (yieldsIf_load_mid (by kernel_rfl) 33 (.tmp 9) rfl g 3 (by kernel_rfl) [.int .i64 s.hs, .int .i64 s.hg] _ (fun w' hS => ld_range3 hS.1) Try.underlying33 rfl ref_size9) hS0 ?_
  go_frame
  refine u_take 8 (some 11) (.pointer (some ⟨g, 0, none⟩)) rfl rfl (by kernel_rfl) (by kernel_rfl) (by kernel_rfl) (by kernel_rfl) (fun _ _ _ h => h) (y_cell 30 (.tmp 0) ⟨bx, 0, none⟩ _ (by kernel_rfl) rfl (by kernel_rfl) (fun w' hS => hS.2.cell' rfl) Try.underlying30 rfl) hS0 ?_
  go_frame
  refine u_take 9 (some 12) (.pointer (some ⟨g, 0, none⟩)) rfl rfl (by kernel_rfl) (by kernel_rfl) (by kernel_rfl) (by kernel_rfl) (fun _ _ _ h => h) (y_val (by kernel_rfl) (fun w' hS => by kernel_rfl)) hS0 ?_
  go_frame
  refine u_take 10 (some 13) (.pointer (some ⟨g, 7, none⟩)) rfl rfl (by kernel_rfl) (by kernel_rfl) (by kernel_rfl) (by kernel_rfl) (fun _ _ _ h => h) (y_val (by kernel_rfl) (fun w' hS => by kernel_rfl)) hS0 ?_
  go_frame
  refine u_take 11 (some 14) (.slice s.A s.L.length s.c) rfl rfl (by kernel_rfl) (by kernel_rfl) (by kernel_rfl) (by kernel_rfl) (fun _ _ _ h => h) (y_cell 34 (.tmp 13) ⟨g, 7, none⟩ _ (by kernel_rfl) rfl (by kernel_rfl) (fun w' hS => hS.1.cell' rfl) Try.underlying34 rfl) hS0 ?_
  go_frame
  refine u_take 12 (some 15) (.pointer (some ⟨g, 0, none⟩)) rfl rfl (by kernel_rfl) (by kernel_rfl) (by kernel_rfl) (by kernel_rfl) (fun _ _ _ h => h) (y_cell 30 (.tmp 0) ⟨bx, 0, none⟩ _ (by kernel_rfl) rfl (by kernel_rfl) (fun w' hS => hS.2.cell' rfl) Try.underlying30 rfl) hS0 ?_
  go_frame
  refine u_take 13 (some 16) (.pointer (some ⟨g, 0, none⟩)) rfl rfl (by kernel_rfl) (by kernel_rfl) (by kernel_rfl) (by kernel_rfl) (fun _ _ _ h => h) (y_val (by kernel_rfl) (fun w' hS => by kernel_rfl)) hS0 ?_
  go_frame
  refine u_take 14 (some 17) (.pointer (some ⟨g, 8, none⟩)) rfl rfl (by kernel_rfl) (by kernel_rfl) (by kernel_rfl) (by kernel_rfl) (fun _ _ _ h => h) (y_val (by kernel_rfl) (fun w' hS => by kernel_rfl)) hS0 ?_
  go_frame
  refine u_take 15 (some 18) (.slice s.B s.refs.length s.e) rfl rfl (by kernel_rfl) (by kernel_rfl) (by kernel_rfl) (by kernel_rfl) (fun _ _ _ h => h) (y_cell 35 (.tmp 17) ⟨g, 8, none⟩ _ (by kernel_rfl) rfl (by kernel_rfl) (fun w' hS => hS.1.cell' rfl) Try.underlying35 rfl) hS0 ?_
  go_frame
  clear hS0
  refine u_callE 16 (some 19) 24 #[.int .i64 s.n, .agg #[.int .i64 s.hs, .int .i64 s.hg], .slice s.A s.L.length s.c, .slice s.B s.refs.length s.e] (fun v w' => LdMade w.heap.size s w v w' ∧ Fr none_ w0 w') rfl rfl (by kernel_rfl) (by kernel_rfl) (by kernel_rfl) ((of_ok s.n s.hs s.hg s.A s.L.length s.c (s.L.map toCh) s.refs s.B s.e w0.drew ((H.out.ch HS.out.1).keep (Fr.refl none_ w0).drew) HS.out.2.1 HS.out.2.2.1 HS.out.2.2.2.1 (Reads.of_own (own_none H.out.r (Fr.refl none_ w0).drew)) HS.out.2.2.2.2).mono (fun e w' hh => ?_)) ?_
  · have hfr : Fr none_ w0.drew w' := by rcases hh with ⟨_, _, _, _, _, _, _, _, _, _, _, _, _, _, h4⟩ | ⟨_, _, _, _, h4⟩ <;> exact h4
    have he : ∃ v, e = .returned v := by rcases hh with ⟨_, _, _, _, _, _, _, _, _, _, _, _, h2, _⟩ | ⟨_, _, _, h2, _⟩ <;> exact ⟨_, h2⟩
    obtain ⟨v, rfl⟩ := he
    exact ⟨v, rfl, LdMade.of hh (F0.out.then_none (Fr.refl none_ w0).drew) (by have := F0.out.size; simp; omega), (Fr.refl none_ w0).drew.then_none hfr⟩
  intro v w5 hh
  obtain ⟨pv, ev, rfl, hps, hpo⟩ := hh.1.shape
  have LM := hid_ hh.1
  have BZ5 := hid_ (BZ.out.fr hh.2 id)
  have hS5 : (fun w' : World => Blk w' g 114 (ldA s) ∧ Blk w' bx 30 #[.pointer (some ⟨g, 0, none⟩)]) w5 := ⟨H.out.b.fr hh.2 id, BX.out.fr hh.2 id⟩
  have FR5 := hid_ hh.2
  have hsz5 := hh.2.size
  clear hh
  refine ⟨hS5, ?_⟩
  go_frame
  refine u_take 17 (some 20) (.agg pv) rfl rfl (by kernel_rfl) (by kernel_rfl) (by kernel_rfl) (by kernel_rfl) (fun _ _ _ h => h) (y_val (by kernel_rfl) (fun w' hS => by kernel_rfl)) hS5 ?_
  go_frame
  refine u_take 18 (some 21) (ev) rfl rfl (by kernel_rfl) (by kernel_rfl) (by kernel_rfl) (by kernel_rfl) (fun _ _ _ h => h) (y_val (by kernel_rfl) (fun w' hS => by kernel_rfl)) hS5 ?_
  go_frame
  clear hS5
  have S5 : Hid ((fun w' : World => Blk w' g 114 (ldA s) ∧ Blk w' bx 30 #[.pointer (some ⟨g, 0, none⟩)]) w5) := hid_ ⟨H.out.b.fr FR5.out id, BX.out.fr FR5.out id⟩
  refine u_store 19 45 (.tmp 1) (.tmp 20) w.heap.size 0 pv rfl rfl (by kernel_rfl) (by kernel_rfl) rfl (by kernel_rfl) (by kernel_rfl) (by rw [hps]; exact BZ5.out.there7 rfl) (by rw [hps]; exact page_size) hpo ?_
  intro w6 hw6
  have ov := BZ5.out.over7 pv.toList (by simp [hps])
  rw [← hw6] at ov
  have OV := hid_ ov
  have LM6 := hid_ (LM.out.only BZ5.out ov.2 (Nat.le_refl _))
  have S6 : Hid ((fun w' : World => Blk w' g 114 (ldA s) ∧ Blk w' bx 30 #[.pointer (some ⟨g, 0, none⟩)]) w6) := hid_ ⟨S5.out.1.fr ov.2 (only_ne (Blk.ne_ S5.out.1 BZ5.out (by decide))), S5.out.2.fr ov.2 (only_ne (Blk.ne_ S5.out.2 BZ5.out (by decide)))⟩
  clear hw6 ov
  refine ⟨S6.out, ?_⟩
  refine u_run 20 (some 2) ev w6 rfl rfl (by kernel_rfl) (by kernel_rfl) (by kernel_rfl) (.inr S6.out) ?_
  go_frame
  refine u_done (by kernel_rfl) ?_
  go_wp2_with fail
  refine bodyPost_ret (results_cell_tmp7 _ _ rfl w.heap.size 0 pv.toList _ rfl (Blk.range7 (l := pv.toList) (by simpa using OV.out.1)) Try.underlying45 rfl (by rw [Array.length_toList, hps]; exact page_size)) rfl ⟨_, rfl, ?_⟩
  simpa using LM6.out
end Go.Proofs.Ytpjbncbmdfmlpaa
namespace Go.Proofs.Ytpjbncbmdfmlpaa
open Go.RowKit Go.BigFrame
set_option maxRecDepth 100000
set_option linter.unusedVariables false

/-- The two boxes that Page begins with. -/
theorem page_boxes (w : World) (v : Value) : ∃ w0, w0 = (w.alloc (.cells #[v] 30)).alloc (.cells pgZ 45) ∧ Fr none_ w w0 ∧ Blk w0 w.heap.size 30 #[v] ∧ Blk w0 (w.heap.size + 1) 45 pgZ :=
  ⟨_, rfl, ((Fr.refl none_ w).alloc _).alloc _, (Blk.new w _ _).alloc _, Blk.new7 _ _ (by simp)⟩
theorem LdMade.wide {b0 b1 : Nat} {s : LdS} {w w1 w' : World} {v : Value} (h : LdMade b1 s w1 v w') (hf : Fr none_ w w1) (hb : b0 ≤ b1) : LdMade b0 s w v w' := by
  obtain ⟨h, hf0⟩ := h
  refine ⟨?_, hf.then_none hf0⟩
  rcases h with ⟨leaf, lv, iv, A, c, B, d, C, x, D, y, h1, h2, h3⟩ | h
  · exact .inl ⟨leaf, lv, iv, A, c, B, d, C, x, D, y, h1, h2, h3.base hb⟩
  · exact .inr h
set_option maxHeartbeats 2000000 in
theorem ldPage_nil (w : World) : Calls Try.prog 15 #[.pointer none] w fun e w' => e = .returned (.tuple #[.agg pgZ, errV 1]) ∧ Fr none_ w w' := by
  obtain ⟨w0, hw0, f0, bx, bz⟩ := page_boxes w (.pointer none)
  have BX := hid_ bx
  have BZ := hid_ bz
  have F0 := hid_ f0
  have x0 : w0.cell? ⟨w.heap.size, 0, none⟩ = some (.pointer none) := bx.cell' rfl
  clear bx bz f0
  go_enter Try.func15, Try.ntmps15
  go_upto_region 1 with fail
  change Code.wp _ _ _ _ ((w.alloc (.cells #[.pointer none] 30)).alloc (.cells pgZ 45))
  rw [← hw0]
  clear hw0
  go_wp2_with (refine wpList_store_mid rfl 45 (.tmp 2) (.tmp 9) rfl (w.heap.size + 1) 0 pgZ rfl rfl (BZ.out.there7 rfl) page_size (by simp [Value.oneCell']) ?_; have ov := BZ.out.over7 pgZ.toList rfl; obtain ⟨w9, hw9⟩ : ∃ z, z = w0.setCells (w.heap.size + 1) 0 pgZ.toList := ⟨_, rfl⟩; rw [← hw9] at ov; change wpList _ _ _ _ _ (w0.setCells (w.heap.size + 1) 0 pgZ.toList); rw [← hw9]; have OV := hid_ ov; clear hw9 ov)
  exact bodyPost_ret (results_cell_tmp7 _ _ rfl (w.heap.size + 1) 0 pgZ.toList _ rfl (Blk.range7 (l := pgZ.toList) OV.out.1) Try.underlying45 rfl page_size) rfl ⟨rfl, F0.out.then_only OV.out.2 (.inr (by omega))⟩
set_option maxHeartbeats 4000000 in
theorem ldPage_err {b0 g : Nat} {w : World} {s : LdS} (t : TypeId) (u : Value) (h : Ldr b0 w g s) (ho : s.over = true) (hv : s.ve = .iface t u) : Calls Try.prog 15 #[.pointer (some ⟨g, 0, none⟩)] w fun e w' => e = .returned (.tuple #[.agg pgZ, .iface t u]) ∧ Fr none_ w w' := by
  obtain ⟨w0, hw0, f0, bx, bz⟩ := page_boxes w (.pointer (some ⟨g, 0, none⟩))
  have BX := hid_ bx
  have BZ := hid_ bz
  have F0 := hid_ f0
  have H := hid_ (h.keep f0)
  have x0 : w0.cell? ⟨w.heap.size, 0, none⟩ = some (.pointer (some ⟨g, 0, none⟩)) := bx.cell' rfl
  have g2 : w0.cell? ⟨g, 2, none⟩ = some (.bool true) := by rw [← ho]; exact H.out.b.cell' rfl
  have g9 : w0.cell? ⟨g, 9, none⟩ = some (.iface t u) := by rw [← hv]; exact H.out.b.cell' rfl
  have HV := hid_ hv
  clear bx bz f0 h ho hv
  go_enter Try.func15, Try.ntmps15
  go_upto_region 1 with fail
  change Code.wp _ _ _ _ ((w.alloc (.cells #[.pointer (some ⟨g, 0, none⟩)] 30)).alloc (.cells pgZ 45))
  rw [← hw0]
  clear hw0
  go_wp2_with fail
  have hS0 : (fun w' : World => Blk w' g 114 (ldA s) ∧ Blk w' w.heap.size 30 #[.pointer (some ⟨g, 0, none⟩)]) w0.drew := ⟨H.out.b.drew, BX.out.drew⟩
  refine wp_region_u 7 (fun w' : World => Blk w' g 114 (ldA s) ∧ Blk w' w.heap.size 30 #[.pointer (some ⟨g, 0, none⟩)]) (by kernel_rfl) ?_
  refine u_take 0 (some 25) (.agg pgZ) rfl rfl (by kernel_rfl) (by kernel_rfl) (by kernel_rfl) (by kernel_rfl) (fun _ _ _ h => h) (y_val (by kernel_rfl) (fun w' hS => by kernel_rfl)) hS0 ?_
  go_frame
  refine u_take 1 (some 26) (.pointer (some ⟨g, 0, none⟩)) rfl rfl (by kernel_rfl) (by kernel_rfl) (by kernel_rfl) (by kernel_rfl) (fun _ _ _ h => h) (y_cell 30 (.tmp 1) ⟨w.heap.size, 0, none⟩ _ (by kernel_rfl) rfl (by kernel_rfl) (fun w' hS => hS.2.cell' rfl) Try.underlying30 rfl) hS0 ?_
  go_frame
  refine u_take 2 (some 27) (.pointer (some ⟨g, 0, none⟩)) rfl rfl (by kernel_rfl) (by kernel_rfl) (by kernel_rfl) (by kernel_rfl) (fun _ _ _ h => h) (y_val (by kernel_rfl) (fun w' hS => by kernel_rfl)) hS0 ?_
  go_frame
  refine u_take 3 (some 28) (.pointer (some ⟨g, 9, none⟩)) rfl rfl (by kernel_rfl) (by kernel_rfl) (by kernel_rfl) (by kernel_rfl) (fun _ _ _ h => h) (y_val (by kernel_rfl) (fun w' hS => by kernel_rfl)) hS0 ?_
  go_frame
  refine u_take 4 (some 29) (.iface t u) rfl rfl (by kernel_rfl) (by kernel_rfl) (by kernel_rfl) (by kernel_rfl) (fun _ _ _ h => h) (y_cell 24 (.tmp 28) ⟨g, 9, none⟩ _ (by kernel_rfl) rfl (by kernel_rfl) (fun w' hS => by rw [← HV.out]; exact hS.1.cell' rfl) Try.underlying24 rfl) hS0 ?_
  go_frame
  clear hS0 x0 g2 g9
  refine u_store 5 45 (.tmp 2) (.tmp 25) (w.heap.size + 1) 0 pgZ rfl rfl (by kernel_rfl) (by kernel_rfl) rfl (by kernel_rfl) (by kernel_rfl) (BZ.out.drew.there7 rfl) page_size (by simp [Value.oneCell']) ?_
  intro w6 hw6
  have ov := BZ.out.drew.over7 pgZ.toList rfl
  rw [← hw6] at ov
  have OV := hid_ ov
  have S6 : Hid ((fun w' : World => Blk w' g 114 (ldA s) ∧ Blk w' w.heap.size 30 #[.pointer (some ⟨g, 0, none⟩)]) w6) := hid_ ⟨H.out.b.drew.fr ov.2 (only_ne (Blk.ne_ H.out.b BZ.out (by decide))), BX.out.drew.fr ov.2 (only_ne (by omega))⟩
  clear hw6 ov
  refine ⟨S6.out, ?_⟩
  refine u_run 6 (some 3) (.iface t u) w6 rfl rfl (by kernel_rfl) (by kernel_rfl) (by kernel_rfl) (.inr S6.out) ?_
  go_frame
  refine u_done (by kernel_rfl) ?_
  go_wp2_with fail
  exact bodyPost_ret (results_cell_tmp7 _ _ rfl (w.heap.size + 1) 0 pgZ.toList _ rfl (Blk.range7 (l := pgZ.toList) OV.out.1) Try.underlying45 rfl page_size) rfl ⟨rfl, F0.out.drew.then_only OV.out.2 (.inr (by omega))⟩
set_option maxHeartbeats 4000000 in
theorem ldPage_made {b0 g : Nat} {w : World} {s : LdS} (h : Ldr b0 w g s) (ho : s.over = true) (hv : s.ve = .nilIface) (hs : ∀ C ∈ s.L, RcOk C.R) (hl : s.L.length ≤ 400) (h7 : RwOkL (s.L.map toCh)) (he : ∀ C ∈ s.L.map toCh, C.R.ents.length ≤ 500) (hr : s.refs.length ≤ 5000) :
    Calls Try.prog 15 #[.pointer (some ⟨g, 0, none⟩)] w fun e w' => ∃ v, e = .returned v ∧ LdMade w.heap.size s w v w' := by
  obtain ⟨w0, hw0, f0, bx, bz⟩ := page_boxes w (.pointer (some ⟨g, 0, none⟩))
  have BX := hid_ bx
  have BZ := hid_ bz
  have F0 := hid_ f0
  have H := hid_ (h.keep f0)
  have HS := hid_ (And.intro hs (And.intro hl (And.intro h7 (And.intro he hr))))
  have x0 : w0.cell? ⟨w.heap.size, 0, none⟩ = some (.pointer (some ⟨g, 0, none⟩)) := bx.cell' rfl
  have g2 : w0.cell? ⟨g, 2, none⟩ = some (.bool true) := by rw [← ho]; exact H.out.b.cell' rfl
  have g9 : w0.cell? ⟨g, 9, none⟩ = some .nilIface := by rw [← hv]; exact H.out.b.cell' rfl
  have hsz0 := f0.size
  have hbl := bz.lt
  clear bx bz f0 h ho hv hs hl h7 he hr
  go_enter Try.func15, Try.ntmps15
  go_upto_region 1 with fail
  change Code.wp _ _ _ _ ((w.alloc (.cells #[.pointer (some ⟨g, 0, none⟩)] 30)).alloc (.cells pgZ 45))
  rw [← hw0]
  clear hw0
  go_wp2_with fail
  refine (ldMade_ok H.out BX.out HS.out.1 HS.out.2.1 HS.out.2.2.1 HS.out.2.2.2.1 HS.out.2.2.2.2).mono ?_
  rintro e w5 ⟨v, rfl, hm⟩
  obtain ⟨pv, ev, rfl, hps, hpo⟩ := hm.shape
  have LM := hid_ hm
  have BZ5 := hid_ (BZ.out.fr hm.2 id)
  clear hm x0 g2 g9
  go_wp2_with (refine wpList_store_mid rfl 45 (.tmp 2) (.tmp 32) rfl (w.heap.size + 1) 0 pv rfl rfl (by rw [hps]; exact BZ5.out.there7 rfl) (by rw [hps]; exact page_size) hpo ?_; have ov := BZ5.out.over7 pv.toList (by simp [hps]); obtain ⟨w9, hw9⟩ : ∃ z, z = w5.setCells (w.heap.size + 1) 0 pv.toList := ⟨_, rfl⟩; rw [← hw9] at ov; change wpList _ _ _ _ _ (w5.setCells (w.heap.size + 1) 0 pv.toList); rw [← hw9]; have OV := hid_ ov; clear hw9 ov)
  refine bodyPost_ret (results_cell_tmp7 _ _ rfl (w.heap.size + 1) 0 pv.toList _ rfl (Blk.range7 (l := pv.toList) (by simpa using OV.out.1)) Try.underlying45 rfl (by rw [Array.length_toList, hps]; exact page_size)) rfl ⟨_, rfl, ?_⟩
  have hfin := (LM.out.wide F0.out hsz0).only BZ5.out OV.out.2 (by omega)
  simpa using hfin
end Go.Proofs.Ytpjbncbmdfmlpaa
namespace Go.Proofs.Ytpjbncbmdfmlpaa
open Go.RowKit Go.BigFrame
set_option maxRecDepth 100000
set_option linter.unusedVariables false

theorem memCount_ok {m : Nat} {k : Int} {l : Lm} {x : St} (w : World) (h : Mm w m k l x) : Calls Try.prog 19 #[.pointer (some ⟨m, 0, none⟩)] w fun e w' => e = .returned (.int .i64 k) ∧ w = w' := by
  have c0 : w.cell? ⟨m, 0, none⟩ = some (.int .i64 k) := h.b.cell' rfl
  clear h
  go_enter Try.func19, Try.ntmps19
  go_wp2
  go_ret
  exact ⟨rfl, rfl⟩
theorem Mm.mall_lt {w : World} {m : Nat} {k : Int} {l : Lm} {x : St} (h : Mm w m k l x) : ∀ i, mall m x i → i < w.heap.size := by
  obtain ⟨cs, hG, _⟩ := h.ar.hG
  obtain ⟨cap, cur, hT0, hH, _⟩ := id h.tb
  rintro i (e | e | e | e | e)
  · rw [e]; exact h.b.lt
  · rw [e]; exact hG.lt
  · rw [e]; exact hH.lt
  · rw [e]; exact h.ck.hC.lt
  · obtain ⟨es, clock, hm, r⟩ := h.ck.hM
    rw [e]
    rcases Nat.lt_or_ge x.M w.heap.size with h1 | h1
    · exact h1
    · rw [Array.getElem?_eq_none h1] at hm; cases hm
abbrev lim10 : Lm := ⟨100, 4, 2, 4, 4, 99⟩
theorem lim10_right : lim10.Right := ⟨by decide, by decide, by decide, by decide, by decide, by decide⟩
theorem limits10_ok (w : World) : Calls Try.prog 13 #[] w fun e w' => e = .returned (.agg (lmA lim10)) ∧ Fr none_ w w' := by
  obtain ⟨w0, hw0⟩ : ∃ z, z = w.alloc (.cells #[.int .i64 0, .int .i64 0, .int .i64 0, .int .i64 0, .int .i64 0, .int .i64 0] 28) := ⟨_, rfl⟩
  have f0 : Fr none_ w w0 := by rw [hw0]; exact (Fr.refl none_ w).alloc _
  have BZ : Hid (Blk w0 w.heap.size 28 #[.int .i64 0, .int .i64 0, .int .i64 0, .int .i64 0, .int .i64 0, .int .i64 0]) := hid_ (by rw [hw0]; exact Blk.new w _ _)
  have F0 := hid_ f0
  clear f0
  go_enter Try.func13, Try.ntmps13
  go_upto_region 1 with fail
  change Code.wp _ _ _ _ (w.alloc (.cells #[.int .i64 0, .int .i64 0, .int .i64 0, .int .i64 0, .int .i64 0, .int .i64 0] 28))
  rw [← hw0]
  clear hw0
  go_wp2_with (refine wpList_store_mid rfl 28 (.tmp 0) (.tmp 1) rfl w.heap.size 0 (lmA lim10) rfl rfl (BZ.out.there9 rfl) lim_size9 (by simp [Value.oneCell']) ?_; have ov := BZ.out.over9 (lmA lim10).toList rfl; obtain ⟨w9, hw9⟩ : ∃ z, z = w0.setCells w.heap.size 0 (lmA lim10).toList := ⟨_, rfl⟩; rw [← hw9] at ov; change wpList _ _ _ _ _ (w0.setCells w.heap.size 0 (lmA lim10).toList); rw [← hw9]; have OV := hid_ ov; clear hw9 ov)
  exact bodyPost_ret (results_cell7 _ _ rfl w.heap.size 0 (lmA lim10).toList _ rfl (Blk.range7 (l := (lmA lim10).toList) OV.out.1) Try.underlying28 rfl lim_size9) rfl ⟨rfl, F0.out.then_only OV.out.2 (.inr (Nat.le_refl _))⟩
theorem lt_nil10 (x : ByteArray) : ltS x nilS = false := by
  rcases ltS_total x nilS with h | h | h
  · exfalso
    have h2 : ltL x.data.toList [] = true := h
    cases hx : x.data.toList <;> rw [hx] at h2 <;> simp [ltL] at h2
  · rw [h]; exact ltS_irrefl _
  · exact ltS_asymm h
abbrev lvZ10 : Lw := ⟨nilS, nilS, true, 0, [], false⟩
theorem of_leaf10 : ofM [leafR] = some (true, lvZ10, Vw.zero) := by
  unfold ofM
  rw [if_pos (by rfl), foldL_one leafR rfl ⟨fun _ => rfl, ⟨(fun p hp => by cases hp), (fun i p q hp hq => by simp at hp)⟩, (fun p hp => by cases hp)⟩]
  rfl
theorem leafR_ok : RcOk leafR := ⟨SzOk.nil, SzOk.nil, SzOk.nil, SzOk.nil, ⟨Nat.zero_le _, fun p hp => by cases hp⟩⟩
/-- A new memory's parts. -/
abbrev ss10 (vr ve : Value) : List Sl := ⟨1, true, leafR, vr, ve⟩ :: List.replicate (lim10.s - 1) Sl.zero
abbrev ps10 : List Pg := (true, 1, 1) :: List.replicate (lim10.p - 1) (false, 0, 0)
theorem head10 {s g c : Int} (h : HeadR ps10 0 s g c) : s = 1 ∧ g = 1 ∧ c = 0 := by
  rcases h with ⟨i, hi, hp, hc⟩ | ⟨h, _⟩
  · obtain rfl : i = 0 := by omega
    simp at hp
    exact ⟨hp.1.symm, hp.2.symm, hc⟩
  · exact absurd (pgC_used (i := 0) (ps := ps10) (s := 1) (g := 1) rfl) h
theorem load10 {vr ve : Value} {R : Rc} {c : Int} (h : LoadR (ss10 vr ve) 1 1 R c) : R = leafR ∧ c = 0 := by
  rcases h with ⟨i, s, hi, hs, _, _, hc, hR⟩ | ⟨h, _⟩
  · obtain rfl : i = 0 := by omega
    have hs' : s = ⟨1, true, leafR, vr, ve⟩ := by simpa using hs.symm
    rw [hR, hs']
    exact ⟨rfl, hc⟩
  · exact absurd (show atC (ss10 vr ve) 1 1 = 0 by rfl) h
set_option maxHeartbeats 8000000 in
theorem awake10_ok (w : World) : Calls Try.prog 20 #[] w fun e w' => e = .returned (.bool true) ∧ Fr none_ w w' := by
  go_enter Try.func20, Try.ntmps20
  go_wp2_with fail
  refine (limits10_ok w).mono ?_
  rintro e w0 ⟨rfl, hf0⟩
  have F0 := hid_ hf0
  clear hf0
  go_wp2_with fail
  refine (memNew_ok lim10 _ lim10_right).mono ?_
  rintro e w1 ⟨m, a, G, vr, ve, T, H, C, M, rfl, hM, hf1, hm1, hC1, hM1, hG1, hH1⟩
  obtain ⟨x, hx⟩ : ∃ x : St, x = ⟨a, G, ss10 vr ve, T, H, ps10, C, M, 1, 0, .map []⟩ := ⟨_, rfl⟩
  have HX := hid_ hx
  have M1 : Hid (Mm w1 m 0 lim10 x) := hid_ (by rw [hx]; exact hM)
  have HN : Hid (∀ i, mall m x i → w.heap.size ≤ i) := hid_ (by
    have h0 := F0.out.size
    subst hx
    rintro i (e | e | e | e | e) <;> subst e <;> omega)
  have F1 := hid_ (F0.out.then_none hf1)
  clear hM hf1 hx hm1 hC1 hM1 hG1 hH1
  go_wp2_with fail
  refine (ldBegin_ok 0 w1).mono ?_
  rintro e w2 ⟨rfl, hL, hf2⟩
  have L2 := hid_ hL
  have M2 := hid_ (M1.out.keep hf2)
  have HB := hid_ M1.out.mall_lt
  have F2 := hid_ (F1.out.then_none hf2)
  have HW := hid_ F1.out.size
  clear hL hf2 M1
  have HPS : Hid (x.ps = ps10) := hid_ (by rw [HX.out])
  have HSS : Hid (x.ss = ss10 vr ve) := hid_ (by rw [HX.out])
  clear HX
  go_wp2_with fail
  refine (step_first L2.out M2.out HB.out (by omega) (by omega) rfl rfl).mono ?_
  rintro e w3 ⟨s0, g0, c0, v0, hhd, -, hm3, hf3, hcase⟩
  obtain ⟨rfl, rfl, rfl⟩ := head10 (by rw [← HPS.out]; exact hhd)
  obtain ⟨rfl, hL3⟩ : e = .returned (.bool false) ∧ Ldr w1.heap.size w3 w1.heap.size { LdS.new 0 with begun := true, hs := 1, hg := 1, ns := 1, ng := 1 } := by
    rcases hcase with ⟨h, _⟩ | ⟨_, h, _⟩ | ⟨_, _, h1, h2⟩
    · exact absurd rfl h
    · exact absurd h (by decide)
    · exact ⟨h1, h2⟩
  have L3 := hid_ hL3
  have M3 := hid_ hm3
  have F3 : Hid (Fr none_ w w3) := hid_ (F2.out.trans hf3 (fun _ _ => id) (fun i hi e => by
    rcases e with e | e
    · have := HN.out i e; omega
    · have := HW.out; omega))
  clear hhd hcase hL3 hm3 hf3 L2 M2
  go_wp2_with fail
  refine (step_next L3.out M3.out HB.out (by omega) (by omega) rfl rfl (Nat.zero_le _) (Nat.zero_le _)).mono ?_
  rintro e w4 ⟨R, A, c, B, d, kk, v1, hld, -, hm4, hf4, hcase⟩
  obtain ⟨rfl, rfl⟩ := load10 (vr := vr) (ve := ve) (by rw [← HSS.out]; exact hld)
  obtain ⟨A1, c1, B1, d1, rfl, hL4⟩ : ∃ (A1 : Option Addr) (c1 : Nat) (B1 : Option Addr) (d1 : Nat), e = .returned (.bool true) ∧ Ldr w1.heap.size w4 w1.heap.size ⟨0, true, true, 1, 1, 0, 0, A1, c1, [⟨leafR, A, c, B, d⟩], B1, d1, [(1, 1)], .nilIface⟩ := by
    rcases hcase with ⟨h, _⟩ | ⟨_, A1, c1, B1, d1, ov, ve1, h1, h2, h3⟩
    · exact absurd rfl h
    · rcases h3 with ⟨_, _, rfl, rfl⟩ | ⟨h, _⟩ | ⟨h, _⟩
      · exact ⟨A1, c1, B1, d1, h1, h2⟩
      · exact absurd ⟨rfl, rfl⟩ h
      · exact absurd ⟨rfl, rfl⟩ h
  have L4 := hid_ hL4
  have M4 := hid_ hm4
  have F4 : Hid (Fr none_ w w4) := hid_ (F3.out.trans hf4 (fun _ _ => id) (fun i hi e => by
    rcases e with e | e
    · have := HN.out i e; omega
    · have := HW.out; omega))
  clear hld hcase hL4 hm4 hf4 L3 M3
  go_wp2_with fail
  refine (ldPage_made L4.out rfl rfl (fun D hD => by
    obtain rfl : D = ⟨leafR, A, c, B, d⟩ := by simpa using hD
    exact leafR_ok) (show 1 ≤ 400 by omega) (fun D hD => by
    obtain rfl : D = toCh ⟨leafR, A, c, B, d⟩ := by simpa using hD
    exact ⟨SzOk.nil, ⟨Nat.zero_le _, fun p hp => by cases hp⟩, Nat.zero_le _⟩) (fun D hD => by
    obtain rfl : D = toCh ⟨leafR, A, c, B, d⟩ := by simpa using hD
    exact Nat.zero_le _) (show 1 ≤ 5000 by omega)).mono ?_
  rintro e w5 ⟨v, rfl, hmd⟩
  have F5 := hid_ (F4.out.then_none hmd.2)
  have M5 := hid_ (M4.out.keep hmd.2)
  obtain ⟨P, rfl, hpv, hpl, hpu, hll, hlh⟩ : ∃ P : Pz, v = .tuple #[.agg (pzA P), .nilIface] ∧ (pzA P).all (·.oneCell') = true ∧ P.leaf = true ∧ P.lv.unb = true ∧ P.lv.low = nilS ∧ P.lv.high = nilS := by
    rcases hmd.1 with ⟨leaf, lv, iv, A2, c2, B2, d2, C2, x2, D2, y2, h1, h2, h3⟩ | ⟨k, _, h1, _⟩
    · have h4 : some (true, lvZ10, Vw.zero) = some (leaf, lv, iv) := of_leaf10.symm.trans h1
      simp only [Option.some.injEq, Prod.mk.injEq] at h4
      obtain ⟨rfl, rfl, rfl⟩ := h4
      exact ⟨⟨0, 1, 1, C2, 1, x2, .slice D2 1 y2, true, lvZ10, A2, c2, Vw.zero, B2, d2⟩, h2, by simp [Value.oneCell'], rfl, rfl, rfl, rfl⟩
    · exact absurd (of_leaf10.symm.trans h1) (by simp)
  have HPL := hid_ hpl
  have HIN : Hid (SzOk P.low ∧ SzOk P.high ∧ inS P.low P.high P.unb ⟨#[97]⟩ = true) := hid_ (by
    have e1 : P.low = nilS := by unfold Pz.low; rw [hpl, hll]; rfl
    have e2 : P.high = nilS := by unfold Pz.high; rw [hpl, hlh]; rfl
    have e3 : P.unb = true := by unfold Pz.unb; rw [hpl, hpu]; rfl
    rw [e1, e2, e3]
    exact ⟨SzOk.nil, SzOk.nil, by simp [inS, lt_nil10]⟩)
  have HPU := hid_ hpu
  have HPV := hid_ hpv
  replace M5 : Hid (Mm w5 m 2 lim10 x) := hid_ M5.out
  clear hmd hpv hpl hpu hll hlh M4
  go_upto_region 5 with (refine wpList_store_mid rfl 45 (.tmp 6) (.tmp 23) rfl w5.heap.size 0 (pzA P) rfl rfl (new_there w5 _ pgZ) page_size HPV.out ?_; obtain ⟨w6, hw6⟩ : ∃ z, z = (w5.alloc (.cells pgZ 45)).setCells w5.heap.size 0 (pzA P).toList := ⟨_, rfl⟩; change wpList _ _ _ _ _ ((w5.alloc (.cells pgZ 45)).setCells w5.heap.size 0 (pzA P).toList); rw [← hw6]; have P6 : Hid (Blk w6 w5.heap.size 45 (pzA P) ∧ Fr none_ w5 w6) := hid_ (by rw [hw6]; exact new_copy w5 _ pgZ _ rfl); clear hw6)
  have M6 := hid_ (M5.out.keep P6.out.2)
  have F6 := hid_ (F5.out.then_none P6.out.2)
  have B6 := hid_ P6.out.1
  have p5 : w6.cell? ⟨w5.heap.size, 5, none⟩ = some (.bool true) := by rw [← HPL.out]; exact B6.out.cell' rfl
  have p8 : w6.cell? ⟨w5.heap.size, 8, none⟩ = some (.bool true) := by rw [← HPU.out]; exact B6.out.cell' rfl
  clear P6 M5 F5
  go_wp2_with (first | (refine wpList_load_mid rfl 45 (.tmp 6) rfl w5.heap.size 0 rfl (pzA P).toList _ (Blk.range7 (l := (pzA P).toList) B6.out) Try.underlying45 rfl page_size ?_) | (refine wpList_load_midG (by kernel_rfl) 45 (.tmp 6) rfl w5.heap.size 0 rfl (pzA P).toList _ (Blk.range7 (l := (pzA P).toList) B6.out) Try.underlying45 rfl page_size ?_))
  refine (phas_ok P ⟨#[97]⟩ w6 HIN.out.1 HIN.out.2.1 (by unfold SzOk; decide)).mono ?_
  rintro e w7 ⟨rfl, hf7⟩
  rw [HIN.out.2.2]
  have M7 := hid_ (M6.out.keep hf7)
  have F7 := hid_ (F6.out.then_none hf7)
  clear hf7 p5 p8
  go_wp2_with fail
  refine (memCount_ok w7 M7.out).mono ?_
  rintro e w8 ⟨rfl, rfl⟩
  go_wp2_with fail
  go_ret
  exact ⟨rfl, F7.out⟩
end Go.Proofs.Ytpjbncbmdfmlpaa
namespace Go.Proofs.Ytpjbncbmdfmlpaa
open Go.RowKit Go.Extern.Stop Go.Stop Go.Extern
set_option maxRecDepth 100000
set_option linter.unusedVariables false

theorem noIsF9 (v : Value) (xT : TypeId) (w : World) : (Instr.typeAssert (.iface 169 v) xT 197 true).run Try.prog w = .ok (.tuple #[.nilIface, .bool false]) w := run_typeAssert_lacksB Try.underlying197 (by kernel_rfl) (by kernel_rfl) v xT w
theorem unF9 (v : Value) (xT : TypeId) (w : World) : (Instr.typeAssert (.iface 169 v) xT 199 true).run Try.prog w = .ok (.tuple #[.iface 169 v, .bool true]) w := run_typeAssert_hasB Try.underlying199 (by kernel_rfl) v xT w
theorem meUF9 (v : Value) (w : World) : (Go.method 351 169 v "Unwrap").run Try.prog w = .ok (141, v) w := by kernel_rfl
set_option maxHeartbeats 4000000 in
theorem isF_at (p : ByteArray) (s k c : Int) (q : Nat) (w : World) (hq : Blk w q 171 #[.string p, .int .i64 s, errV k]) : Calls Try.prog 18 #[.iface 169 (.pointer (some ⟨q, 0, none⟩)), .int .i64 c] w fun e w' => e = .returned (.bool (k == c)) ∧ w = w' := by
  obtain ⟨i, hi, hcmp⟩ := Option.map_eq_some_iff.1 isComp
  have h8 := @run_callFunc_extern Try.prog 82 _ Extern.ReflectliteType.typeOf Try.func82 (by kernel_rfl) (by kernel_rfl) (by kernel_rfl) (by kernel_rfl)
  have h32 := @run_callFunc_extern Try.prog 145 _ cmpEntry Try.func145 (by kernel_rfl) (by kernel_rfl) (by kernel_rfl) (by kernel_rfl)
  have tT := isTypeOf
  have cT := isComparable
  have mR := isMethodComparable
  have nE := noIsE
  have uE := noUnwrapE
  have vE := noUnwrapsE
  have nF := noIsF9
  have uF := unF9
  have mF := meUF9
  have y1 := fun (u v : Value) (w : World) => run_eql_iface_types (P := Try.prog) 169 51 u v Try.underlying24 (by decide) w
  have c2 : w.cell? ⟨q, 2, none⟩ = some (errV k) := hq.cell' rfl
  have heq := fun w => run_eql_iface_int (P := Try.prog) w k c Try.underlying24 Try.underlying51 hi hcmp
  have Hi := hid_ (And.intro hi hcmp)
  clear hi hcmp hq
  by_cases hk : k = c
  · subst hk
    have hb : (k == k) = true := by simp
    rw [hb]
    simp only [hb] at heq
    clear hb
    go_enter Try.func18, Try.ntmps18
    go_wp2
    refine wp_loop_rounds 2 ?_
    rw [rounds_succ]
    go_wp2
    rw [rounds_succ]
    go_wp2
    go_ret
    exact ⟨rfl, rfl⟩
  · have hb : (k == c) = false := by simpa using hk
    rw [hb]
    simp only [hb] at heq
    clear hb hk
    go_enter Try.func18, Try.ntmps18
    go_wp2
    refine wp_loop_rounds 2 ?_
    rw [rounds_succ]
    go_wp2
    rw [rounds_succ]
    go_wp2
    go_ret
    exact ⟨rfl, rfl⟩
theorem isF_ev (c k : Int) (p : ByteArray) (s : Int) (v : Value) (w : World) (h : Ev w v p s k) (hk : k ≠ 0) : Calls Try.prog 18 #[v, .int .i64 c] w fun e w' => e = .returned (.bool (k == c)) ∧ w = w' := by
  rcases h with ⟨h, _⟩ | ⟨_, q, rfl, hq⟩
  · exact absurd h hk
  · exact isF_at p s k c q w hq
end Go.Proofs.Ytpjbncbmdfmlpaa
namespace Go.Proofs.Ytpjbncbmdfmlpaa
open Go.RowKit Go.BigFrame
set_option maxRecDepth 100000
set_option linter.unusedVariables false

theorem Mm.nfault {w : World} {m : Nat} {k : Int} {l : Lm} {x : St} {b : Nat} {cs : Array Value} (h : Mm w m k l x) (hb : Blk w b 171 cs) : ¬ mall m x b := by
  obtain ⟨cs, hG, _⟩ := h.ar.hG
  obtain ⟨cap, cur, hT0, hH, _⟩ := id h.tb
  rintro (e | e | e | e | e)
  · exact Blk.ne_ hb h.b (by decide) e
  · exact Blk.ne_ hb hG (by decide) e
  · exact Blk.ne_ hb hH (by decide) e
  · exact Blk.ne_ hb h.ck.hC (by decide) e
  · exact h.ck.mne hb e.symm
theorem Ev.keepM {w w' : World} {v : Value} {p : ByteArray} {s c : Int} {m : Nat} {k : Int} {l : Lm} {x : St} (h : Ev w v p s c) (hM : Mm w m k l x) (hf : Fr (mall m x) w w') : Ev w' v p s c := h.fr hf (fun _ _ hb => hM.nfault hb)
/-- An error that is older than a loader, behind the loader's step. -/
theorem Ev.far {w w1 w' : World} {v : Value} {p : ByteArray} {s c : Int} {m : Nat} {k : Int} {l : Lm} {x : St} (h : Ev w v p s c) (hM : Mm w1 m k l x) (hf1 : Fr none_ w w1) (hf : Fr (lall m x w.heap.size) w1 w') : Ev w' v p s c := by
  rcases h with h | ⟨hc, b, hv, hb⟩
  · exact .inl h
  · refine .inr ⟨hc, b, hv, (hb.fr hf1 id).fr hf (fun e => ?_)⟩
    rcases e with e | e
    · exact hM.nfault (hb.fr hf1 id) e
    · have := hb.lt; omega
theorem Ev.pos {w : World} {v : Value} {p : ByteArray} {s c : Int} (h : Ev w v p s c) (hc : c ≠ 0) : ∃ t u, v = .iface t u := by
  rcases h with ⟨h, _⟩ | ⟨_, q, h, _⟩
  · exact absurd h hc
  · exact ⟨_, _, h⟩
theorem head_out10 {n s g c : Int} (h : HeadR ps10 n s g c) (hn : n < 0 ∨ 4 ≤ n) : c = 1 := by
  rcases h with ⟨i, hi, hp, _⟩ | ⟨_, _, _, hc⟩
  · have := (List.getElem?_eq_some_iff.1 hp).1
    have h4 : ps10.length = 4 := rfl
    omega
  · rw [hc]
    unfold pgC
    rw [if_pos (by have h4 : ps10.length = 4 := rfl; omega)]
theorem head_free10 {n s g c : Int} (h : HeadR ps10 n s g c) (h0 : n ≠ 0) (h1 : 0 ≤ n) (h4 : n < 4) : c = 6 := by
  have hn : n = 1 ∨ n = 2 ∨ n = 3 := by omega
  rcases h with ⟨i, hi, hp, _⟩ | ⟨_, _, _, hc⟩
  · rcases hn with rfl | rfl | rfl
    · obtain rfl : i = 1 := by omega
      have hp' : some (false, (0 : Int), (0 : Int)) = some (true, s, g) := hp
      cases hp'
    · obtain rfl : i = 2 := by omega
      have hp' : some (false, (0 : Int), (0 : Int)) = some (true, s, g) := hp
      cases hp'
    · obtain rfl : i = 3 := by omega
      have hp' : some (false, (0 : Int), (0 : Int)) = some (true, s, g) := hp
      cases hp'
  · rw [hc]
    rcases hn with rfl | rfl | rfl <;> rfl
abbrev ps10b : List Pg := ps10.set 1 (true, 0, 0)
theorem take10 {n c : Int} {ps' : List Pg} (h : TakeR ps10 n c ps') : n = 1 ∧ ps' = ps10b := by
  rcases h with ⟨i, s, g, h1, h2, h3, _, h5⟩ | ⟨h, _⟩
  · have hi : i = 1 := by
      match i, h1, h2 with
      | 0, h1, _ =>
        have h1' : some (true, (1 : Int), (1 : Int)) = some (false, s, g) := h1
        cases h1'
      | 1, _, _ => rfl
      | k + 2, _, h2 =>
        have := h2 1 (false, 0, 0) (by omega) rfl
        cases this
    subst hi
    exact ⟨h3, h5⟩
  · have := h 1 (false, 0, 0) rfl
    cases this
theorem head_b10 {s g c : Int} (h : HeadR ps10b 1 s g c) : s = 0 ∧ g = 0 ∧ c = 0 := by
  rcases h with ⟨i, hi, hp, hc⟩ | ⟨h, _⟩
  · obtain rfl : i = 1 := by omega
    have hp' : (true, (0 : Int), (0 : Int)) = (true, s, g) := Option.some.inj hp
    simp only [Prod.mk.injEq] at hp'
    exact ⟨hp'.2.1.symm, hp'.2.2.symm, hc⟩
  · exact absurd (pgC_used (i := 1) (ps := ps10b) (s := 0) (g := 0) rfl) h
set_option maxHeartbeats 16000000 in
theorem errs10_law (n : Int) (w : World) : Calls Try.prog 3 #[.int .i64 n] w (RetQ (.bool true) w) := by
  go_enter Try.func3, Try.ntmps3
  go_wp2_with fail
  refine (limits10_ok w).mono ?_
  rintro e w0 ⟨rfl, hf0⟩
  have F0 := hid_ hf0
  clear hf0
  go_wp2_with fail
  refine (memNew_ok lim10 _ lim10_right).mono ?_
  rintro e w1 ⟨m, a, G, vr, ve, T, H, C, M, rfl, hM, hf1, hm1, hC1, hM1, hG1, hH1⟩
  obtain ⟨x, hx⟩ : ∃ x : St, x = ⟨a, G, ss10 vr ve, T, H, ps10, C, M, 1, 0, .map []⟩ := ⟨_, rfl⟩
  have HPS : Hid (x.ps = ps10) := hid_ (by rw [hx])
  have M1 : Hid (Mm w1 m 0 lim10 x) := hid_ (by rw [hx]; exact hM)
  have HN : Hid (∀ i, mall m x i → w.heap.size ≤ i) := hid_ (by
    have h0 := F0.out.size
    subst hx
    rintro i (e | e | e | e | e) <;> subst e <;> omega)
  have F1 := hid_ (F0.out.then_none hf1)
  clear hM hf1 hx hm1 hC1 hM1 hG1 hH1
  go_wp2_with fail
  refine (ldBegin_ok n w1).mono ?_
  rintro e w2 ⟨rfl, hL, hf2⟩
  have HB := hid_ M1.out.mall_lt
  have HW := hid_ F1.out.size
  replace M1 := hid_ (M1.out.keep hf2)
  replace F1 := hid_ (F1.out.then_none hf2)
  have L1 := hid_ hL
  clear hL hf2
  go_wp2_with fail
  refine (ldPage_nil w2).mono ?_
  rintro e w3 ⟨rfl, hf3⟩
  replace M1 := hid_ (M1.out.keep hf3)
  replace F1 := hid_ (F1.out.then_none hf3)
  replace L1 := hid_ (L1.out.keep hf3)
  clear hf3
  go_upto_region 5 with (refine wpList_store_mid rfl 45 (.tmp 7) (.tmp 28) rfl w3.heap.size 0 pgZ rfl rfl (new_there w3 _ pgZ) page_size (by simp [Value.oneCell']) ?_; obtain ⟨w4, hw4⟩ : ∃ z, z = (w3.alloc (.cells pgZ 45)).setCells w3.heap.size 0 pgZ.toList := ⟨_, rfl⟩; change wpList _ _ _ _ _ ((w3.alloc (.cells pgZ 45)).setCells w3.heap.size 0 pgZ.toList); rw [← hw4]; have K4 : Hid (Fr none_ w3 w4) := hid_ (by rw [hw4]; exact (new_copy w3 _ pgZ _ rfl).2); clear hw4)
  replace M1 := hid_ (M1.out.keep K4.out)
  replace F1 := hid_ (F1.out.then_none K4.out)
  replace L1 := hid_ (L1.out.keep K4.out)
  clear K4
  go_wp2_with fail
  refine (ldOver_nil w4).mono ?_
  rintro e w' ⟨rfl, rfl⟩
  go_wp2_with fail
  refine (step_nil _ w4).mono ?_
  rintro e w' ⟨rfl, rfl⟩
  go_wp2_with fail
  refine (isF 1 1 w4).mono ?_
  rintro e w' ⟨rfl, rfl⟩
  rw [show ((1 : Int) == 1) = true from rfl]
  go_wp2_with fail
  refine (memCount_ok w4 M1.out).mono ?_
  rintro e w' ⟨rfl, rfl⟩
  by_cases hn0 : n = 0
  · have d0 : (n == 0) = true := by simp [hn0]
    clear hn0
    go_wp2_with fail
    refine (awake10_ok w4).mono ?_
    rintro e w5 ⟨rfl, hf5⟩
    go_wp2_with fail
    go_ret
    exact ⟨rfl, F1.out.then_none hf5⟩
  have d0 : (n == 0) = false := by simp [hn0]
  have HN0 := hid_ hn0
  clear hn0
  go_wp2_with fail
  refine (step_first L1.out M1.out HB.out (by omega) (by omega) rfl rfl).mono ?_
  rintro e w5 ⟨s0, g0, c0, v0, hhd, hev, hm5, hf5, hcase⟩
  rw [HPS.out] at hhd
  replace hhd : HeadR ps10 n s0 g0 c0 := hhd
  replace hev : Ev w5 v0 sTable9 n c0 := hev
  have hc0 : c0 ≠ 0 := by
    by_cases h : n < 0 ∨ 4 ≤ n
    · rw [head_out10 hhd h]; decide
    · rw [head_free10 hhd HN0.out (by omega) (by omega)]; decide
  obtain ⟨t0, u0, rfl⟩ := hev.pos hc0
  obtain ⟨rfl, hL5⟩ : e = .returned (.bool true) ∧ Ldr w1.heap.size w5 w1.heap.size { LdS.new n with over := true, ve := .iface t0 u0 } := by
    rcases hcase with ⟨_, h1, h2⟩ | ⟨h, _⟩ | ⟨h, _⟩
    · exact ⟨h1, h2⟩
    · exact absurd h hc0
    · exact absurd h hc0
  have HHD := hid_ hhd
  have HC0 := hid_ hc0
  have EV := hid_ hev
  have L5 := hid_ hL5
  have M5 := hid_ hm5
  have F5 : Hid (Fr none_ w w5) := hid_ (F1.out.trans hf5 (fun _ _ => id) (fun i hi e => by
    rcases e with e | e
    · have := HN.out i e; omega
    · have := HW.out; omega))
  have hsz5 : w1.heap.size ≤ w5.heap.size := by have := L5.out.b.lt; omega
  clear hhd hev hcase hL5 hm5 hf5 L1 M1 F1 hc0
  go_wp2_with fail
  refine (ldPage_err t0 u0 L5.out rfl rfl).mono ?_
  rintro e w6 ⟨rfl, hf6⟩
  replace M5 := hid_ (M5.out.keep hf6)
  replace F5 := hid_ (F5.out.then_none hf6)
  replace EV := hid_ (EV.out.keep hf6)
  clear hf6 L5
  go_upto_region 11 with (refine wpList_store_mid rfl 45 (.tmp 10) (.tmp 58) rfl w6.heap.size 0 pgZ rfl rfl (new_there w6 _ pgZ) page_size (by simp [Value.oneCell']) ?_; obtain ⟨w7, hw7⟩ : ∃ z, z = (w6.alloc (.cells pgZ 45)).setCells w6.heap.size 0 pgZ.toList := ⟨_, rfl⟩; change wpList _ _ _ _ _ ((w6.alloc (.cells pgZ 45)).setCells w6.heap.size 0 pgZ.toList); rw [← hw7]; have K7 : Hid (Fr none_ w6 w7) := hid_ (by rw [hw7]; exact (new_copy w6 _ pgZ _ rfl).2); clear hw7)
  replace M5 := hid_ (M5.out.keep K7.out)
  replace F5 := hid_ (F5.out.then_none K7.out)
  replace EV := hid_ (EV.out.keep K7.out)
  clear K7
  (try go_frame)
  by_cases hout : n < 0 ∨ 4 ≤ n
  · obtain rfl := head_out10 HHD.out hout
    have hcond : n < 0 ∨ (¬ n < 0 ∧ 4 ≤ n) := by omega
    clear hout
    have EQ : Hid (Calls Try.prog 18 #[.iface t0 u0, .int .i64 1] w7 fun e w' => e = .returned (.bool true) ∧ w7 = w') := hid_ ((isF_ev 1 1 _ _ _ w7 EV.out (by decide)).mono fun e w' h => h)
    rcases hcond with hlt | ⟨hlt, hge⟩
    · have d1 : decide (n < 0) = true := decide_eq_true hlt
      clear hlt
      go_wp2_with fail
      refine EQ.out.mono ?_
      rintro e w' ⟨rfl, rfl⟩
      go_wp2_with fail
      refine (memCount_ok w7 M5.out).mono ?_
      rintro e w' ⟨rfl, rfl⟩
      go_wp2_with fail
      refine (awake10_ok w7).mono ?_
      rintro e w8 ⟨rfl, hf8⟩
      go_wp2_with fail
      go_ret
      exact ⟨rfl, F5.out.then_none hf8⟩
    · have d1 : decide (n < 0) = false := decide_eq_false hlt
      have d2 : decide (4 ≤ n) = true := decide_eq_true hge
      clear hlt hge
      go_wp2_with fail
      refine EQ.out.mono ?_
      rintro e w' ⟨rfl, rfl⟩
      go_wp2_with fail
      refine (memCount_ok w7 M5.out).mono ?_
      rintro e w' ⟨rfl, rfl⟩
      go_wp2_with fail
      refine (awake10_ok w7).mono ?_
      rintro e w8 ⟨rfl, hf8⟩
      go_wp2_with fail
      go_ret
      exact ⟨rfl, F5.out.then_none hf8⟩
  · have d1 : decide (n < 0) = false := decide_eq_false (by omega)
    have d2 : decide (4 ≤ n) = false := decide_eq_false (by omega)
    obtain rfl := head_free10 HHD.out HN0.out (by omega) (by omega)
    clear hout
    go_wp2_with fail
    refine (memTake_any m _ lim10 x w7 M5.out (by omega) (by omega)).mono ?_
    rintro e w8 ⟨k8, c8, ps8, v8, rfl, htk, -, hm8, hf8⟩
    rw [HPS.out] at htk
    obtain ⟨rfl, rfl⟩ := take10 htk
    have M8 := hid_ hm8
    have HB8 : Hid (∀ i, mall m { x with ps := ps10b } i → i < w8.heap.size) := hid_ hm8.mall_lt
    have HN8 : Hid (∀ i, mall m { x with ps := ps10b } i → w.heap.size ≤ i) := hid_ HN.out
    have F8 : Hid (Fr none_ w w8) := hid_ (F5.out.trans hf8 (fun _ _ => id) (fun i hi e => by have := HN.out i e; omega))
    replace EV := hid_ (EV.out.keepM M5.out hf8)
    clear htk hm8 hf8 M5 F5
    have HW8 := hid_ F8.out.size
    have EV8 := EV
    go_wp2_with fail
    refine (ldBegin_ok 1 w8).mono ?_
    rintro e w9 ⟨rfl, hL9, hf9⟩
    have EVK : Hid (∀ w', Fr (lall m { x with ps := ps10b } w8.heap.size) w9 w' → Ev w' (.iface t0 u0) sTable9 n 6) := hid_ (fun w' hf => EV8.out.far (M8.out.keep hf9) hf9 hf)
    replace M8 := hid_ (M8.out.keep hf9)
    replace F8 := hid_ (F8.out.then_none hf9)
    have L9 := hid_ hL9
    clear hL9 hf9
    go_wp2_with fail
    refine (step_first L9.out M8.out HB8.out (by omega) (by omega) rfl rfl).mono ?_
    rintro e w10 ⟨s1, g1, c1, v1, hhd1, -, hm10, hf10, hcase⟩
    obtain ⟨rfl, rfl, rfl⟩ := head_b10 hhd1
    obtain ⟨rfl, hL10⟩ : e = .returned (.bool true) ∧ Ldr w8.heap.size w10 w8.heap.size { LdS.new 1 with over := true, ve := errV 10 } := by
      rcases hcase with ⟨h, _⟩ | ⟨_, _, _, h1, h2⟩ | ⟨_, h, _⟩
      · exact absurd rfl h
      · exact ⟨h1, h2⟩
      · exact absurd ⟨rfl, rfl⟩ h
    have L10 := hid_ hL10
    have M10 := hid_ hm10
    have F10 : Hid (Fr none_ w w10) := hid_ (F8.out.trans hf10 (fun _ _ => id) (fun i hi e => by
      rcases e with e | e
      · have := HN8.out i e; omega
      · have := HW8.out; omega))
    replace EV : Hid (Ev w10 (.iface t0 u0) sTable9 n 6) := hid_ (EVK.out _ hf10)
    clear hhd1 hcase hL10 hm10 hf10 L9 M8 F8
    go_wp2_with fail
    refine (ldPage_err 51 (.int .i64 10) L10.out rfl rfl).mono ?_
    rintro e w11 ⟨rfl, hf11⟩
    replace M10 := hid_ (M10.out.keep hf11)
    replace F10 := hid_ (F10.out.then_none hf11)
    replace EV := hid_ (EV.out.keep hf11)
    clear hf11 L10
    go_upto_region 17 with (refine wpList_store_mid rfl 45 (.tmp 16) (.tmp 92) rfl w11.heap.size 0 pgZ rfl rfl (new_there w11 _ pgZ) page_size (by simp [Value.oneCell']) ?_; obtain ⟨w12, hw12⟩ : ∃ z, z = (w11.alloc (.cells pgZ 45)).setCells w11.heap.size 0 pgZ.toList := ⟨_, rfl⟩; change wpList _ _ _ _ _ ((w11.alloc (.cells pgZ 45)).setCells w11.heap.size 0 pgZ.toList); rw [← hw12]; have K12 : Hid (Fr none_ w11 w12) := hid_ (by rw [hw12]; exact (new_copy w11 _ pgZ _ rfl).2); clear hw12)
    replace M10 := hid_ (M10.out.keep K12.out)
    replace F10 := hid_ (F10.out.then_none K12.out)
    replace EV := hid_ (EV.out.keep K12.out)
    clear K12
    have EQ : Hid (Calls Try.prog 18 #[.iface t0 u0, .int .i64 6] w12 fun e w' => e = .returned (.bool true) ∧ w12 = w') := hid_ ((isF_ev 6 6 _ _ _ w12 EV.out (by decide)).mono fun e w' h => h)
    go_wp2_with fail
    refine EQ.out.mono ?_
    rintro e w' ⟨rfl, rfl⟩
    go_wp2_with fail
    refine (isF 10 10 w12).mono ?_
    rintro e w' ⟨rfl, rfl⟩
    rw [show ((10 : Int) == 10) = true from rfl]
    go_wp2_with fail
    refine (memCount_ok w12 M10.out).mono ?_
    rintro e w' ⟨rfl, rfl⟩
    go_wp2_with fail
    refine (awake10_ok w12).mono ?_
    rintro e w13 ⟨rfl, hf13⟩
    go_wp2_with fail
    go_ret
    exact ⟨rfl, F10.out.then_none hf13⟩
end Go.Proofs.Ytpjbncbmdfmlpaa
namespace Go.Proofs.Ytpjbncbmdfmlpaa
open Go.ChangeShapes Go.WideShapes Go.RowKit
set_option maxRecDepth 100000
set_option linter.unusedVariables false
namespace PPageErrors

theorem law {H : Type} (enc : TypeId × Value → H) : LawWalk enc Try.prog 3 Try.f3.params.toList (fun _ => True) := by
  intro W args ds ps base hA hval hlt hsz hX
  rw [Try.params3] at hA hval hsz
  obtain ⟨v0, vs0, d0, ds0, p0, q0, hargs, rfl, rfl, h0, r0⟩ := trodAll_cons hA
  obtain ⟨rfl, rfl, rfl⟩ := trodAll_nil r0
  obtain rfl : args = #[v0] := by cases args; simp_all
  have hw : ∀ y ∈ DataW.weightsEach Try.prog [3] [d0], y ≤ reachBytes := fun y hy => by simpa using List.all_eq_true.1 hsz y hy
  have w0 : ∀ y ∈ d0.weights Try.prog 3, y ≤ reachBytes := fun y hy => hw y (by simp [DataW.weightsEach, hy])
  have l0 : ∀ p ∈ p0, p.block < W.heap.size := fun p hp => hlt p (by simp [hp])
  obtain ⟨a0, rfl, rfl, rfl, wf0⟩ := open_int Try.underlying3 (hval 0 _ v0 rfl rfl) h0
  exact (errs10_law a0 W).mono fun e W' ⟨he, hf⟩ => ⟨he, hf.below0⟩

theorem lifted (os : Os) (started : os.Started) (H : Type) (enc : TypeId × Value → H) :
    ReturnsInHanded {} Try.checked os 3 .any (Rows.pageErrorsSpec.pre6 enc Try.prog Try.f3 Rows.pageErrorsRow.domain false) (Rows.pageErrorsSpec.post enc Try.prog Try.f3 false true false false) :=
  lift_plain (C := Try.checked) (by kernel_rfl) started (by kernel_rfl) Try.func3 (by kernel_rfl) (by kernel_rfl) rfl Try.underlying4 rfl
    (fun ds h => by
      match ds, h with
      | [d0], _ => rfl)
    (ChangeSpec.witness6 (enc := enc) (C := Try.checked) false ⟨#[], #[.int .i64 0], []⟩ 8 (by kernel_rfl) (by kernel_rfl) (by kernel_rfl) (by kernel_rfl))
    (law enc)

theorem row_holds : Rows.PageErrorsSaid :=
  OpenClaim.holds_of_wide 3 Try.f3 rfl rfl rfl rfl rfl rfl rfl ⟨rfl, rfl, rfl, rfl, rfl⟩ rfl rfl rfl rfl rfl (by kernel_rfl) Try.func3 (by kernel_rfl)
    (of_decide_eq_true (by kernel_rfl)) (by unfold Func.isWrapper; rw [if_neg (of_decide_eq_false (by kernel_rfl))]; exact ⟨rfl, rfl⟩)
    (fun os started H enc _ => lifted os started H enc)
#print axioms row_holds
end PPageErrors
end Go.Proofs.Ytpjbncbmdfmlpaa

/- Texts of one proof, merged: Fold, Law8, Rs8, Res7, CloneB, Own8, Pg7, Dec7, Upk7, Dcd7, Nm11. -/
import Derived.Deep.MidRow
import Derived.Test.YtpjbncbmdfmlpaaMkA
import Derived.Test.YtpjbncbmdfmlpaaMkE
namespace Go.Proofs.Ytpjbncbmdfmlpaa
open Go.RowKit Go.BigFrame
set_option maxRecDepth 100000
set_option linter.unusedVariables false

/-- The view in its box, behind the records from k on. -/
structure FoldSt (w : World) (L : List Ch) (X k : Nat) (V : Vw) (A : Option Addr) (c : Nat) (wr : World) : Prop where
  fo : foldU ((L.drop k).map (·.R)) = some V
  bx : Blk wr X 43 (vwA V (.slice A V.ents.length c))
  bo : Blk wr w.heap.size 43 (vwA Vw.zero (.slice none 0 0))
  vin : VwIn wr V A c
  held : HeldOk V
  len : V.ents.length + k ≤ 500 + L.length
  fr : Fr none_ w wr
def FoldCut (w : World) (L : List Ch) (X j : Nat) (bb : Bool) (wq : World) : Prop :=
  (bb = true ∧ ∃ (V : Vw) (A : Option Addr) (c : Nat), FoldSt w L X j V A c wq) ∨ (bb = false ∧ foldU ((L.drop j).map (·.R)) = none ∧ Blk wq w.heap.size 43 (vwA Vw.zero (.slice none 0 0)) ∧ Fr none_ w wq)
set_option maxHeartbeats 8000000 in
theorem fold_ok (A : Option Addr) (n cap : Nat) (L : List Ch) (w : World) (h : ChReads w A n L) (hn : n ≤ 400) (hs : ∀ C ∈ L, C.R.ents.length ≤ 500) :
    Calls Try.prog 60 #[.slice A n cap] w (FoldPost (L.map (·.R)) w) := by
  have hln := h.1
  obtain ⟨w0, hw0⟩ : ∃ w0, w0 = w.alloc (.cells (vwA Vw.zero (.slice none 0 0)) 43) := ⟨_, rfl⟩
  have f0 : Fr none_ w w0 := by rw [hw0]; exact (Fr.refl none_ w).alloc _
  have BO : Hid (Blk w0 w.heap.size 43 (vwA Vw.zero (.slice none 0 0))) := hid_ (by rw [hw0]; exact Blk.new w _ _)
  have F0 := hid_ f0
  have H := hid_ h
  have HS := hid_ hs
  have hsz0 : w.heap.size < w0.heap.size := BO.out.lt
  clear h f0 hs
  go_enter Try.func60, Try.ntmps60
  go_wp2_with fail
  change Code.wp _ _ _ _ (w.alloc (.cells (vwA Vw.zero (.slice none 0 0)) 43))
  rw [← hw0]
  clear hw0
  go_loopw [13] (fun i wr => ∃ k : Nat, k ≤ n ∧ i = .int .i64 k ∧ (∀ (j : Nat) C, j < k → L[j]? = some C → KindOk C.R) ∧ Fr none_ w0 wr) (fun i _ => n - (intOf i).toNat)
  case atStart => exact ⟨0, Nat.zero_le _, rfl, fun j C hj => by omega, Fr.refl _ _⟩
  case round =>
    obtain ⟨k, hk, rfl, hall, hF⟩ := hrel
    have HA := hid_ hall
    have F := hid_ hF
    clear hall hF
    have hi0 : (0 : Int) ≤ (k : Int) := Int.natCast_nonneg _
    by_cases hlt : k < n
    · obtain ⟨C, hC⟩ : ∃ C, L[k]? = some C := ⟨_, List.getElem?_eq_getElem (by omega)⟩
      obtain ⟨b, off, rfl, hb, hR, hO⟩ := (H.out.keep (F0.out.then_none F.out)).at_ hC
      have hi1 : (k : Int) < (n : Int) := by omega
      have HR := hid_ hR
      have HC := hid_ hC
      clear hR hO hC
      go_upto_region 4 with (first | (refine wpList_load_mid rfl 58 (.tmp 15) rfl b (off + k * 15) rfl (recL C) _ HR.out Try.underlying58 rfl rec_size8 ?_) | (refine wpList_store_mid rfl 58 (.tmp 5) (.tmp 16) rfl wr.heap.size 0 (recL C).toArray rfl rfl (new_there wr _ recZ8) rec_size8 (rec_one C) ?_; obtain ⟨w1, hw1⟩ : ∃ w1, w1 = (wr.alloc (.cells recZ8 58)).setCells wr.heap.size 0 (recL C) := ⟨_, rfl⟩; change wpList _ _ _ _ _ ((wr.alloc (.cells recZ8 58)).setCells wr.heap.size 0 (recL C)); rw [← hw1]; have P1 : Hid (Blk w1 wr.heap.size 58 (recL C).toArray ∧ Fr none_ wr w1) := hid_ (by rw [hw1]; exact new_copy wr _ recZ8 _ rfl); clear hw1))
      have BO1 := hid_ (BO.out.fr (F.out.then_none P1.out.2) id)
      have F1 := hid_ (F0.out.then_none (F.out.then_none P1.out.2))
      have c0 : w1.cell? ⟨wr.heap.size, 0, none⟩ = some (.int .i64 C.R.kind) := P1.out.1.cell' rfl
      have s0 : w1.cell? ⟨w.heap.size, 0, none⟩ = some (.string nilS) := BO1.out.cell' rfl
      have z0 := BO1.out.frozen 0
      have s1 : w1.cell? ⟨w.heap.size, 1, none⟩ = some (.string nilS) := BO1.out.cell' rfl
      have z1 := BO1.out.frozen 1
      have s2 : w1.cell? ⟨w.heap.size, 2, none⟩ = some (.bool false) := BO1.out.cell' rfl
      have z2 := BO1.out.frozen 2
      have s3 : w1.cell? ⟨w.heap.size, 3, none⟩ = some (.int .i64 0) := BO1.out.cell' rfl
      have z3 := BO1.out.frozen 3
      have s4 : w1.cell? ⟨w.heap.size, 4, none⟩ = some (.slice none 0 0) := BO1.out.cell' rfl
      have z4 := BO1.out.frozen 4
      have s5 : w1.cell? ⟨w.heap.size, 5, none⟩ = some (.bool false) := BO1.out.cell' rfl
      have z5 := BO1.out.frozen 5
      have s6 : w1.cell? ⟨w.heap.size, 6, none⟩ = some (.int .i64 0) := BO1.out.cell' rfl
      have z6 := BO1.out.frozen 6
      have s7 : w1.cell? ⟨w.heap.size, 7, none⟩ = some (.int .i64 0) := BO1.out.cell' rfl
      have z7 := BO1.out.frozen 7
      have s8 : w1.cell? ⟨w.heap.size, 8, none⟩ = some (.string nilS) := BO1.out.cell' rfl
      have z8 := BO1.out.frozen 8
      by_cases h7 : C.R.kind < 7
      · have hno : ¬ ∀ R ∈ L.map (·.R), KindOk R := fun hh => by
          have := (hh C.R (List.mem_map.2 ⟨C, List.mem_of_getElem? HC.out, rfl⟩)).1
          omega
        have HNO := hid_ hno
        clear hno
        go_wp2_with fail
        clear s0 z0 s1 z1 s2 z2 s3 z3 s4 z4 s5 z5 s6 z6 s7 z7 s8 z8
        obtain ⟨qb, qf⟩ := box9 BO1.out (.string nilS) (.string nilS) (.bool false) (.int .i64 0) (.slice none 0 0) (.bool false) (.int .i64 0) (.int .i64 0) (.string nilS)
        have q0 := qb.cell' (i := 0) rfl
        have q1 := qb.cell' (i := 1) rfl
        have q2 := qb.cell' (i := 2) rfl
        have q3 := qb.cell' (i := 3) rfl
        have q4 := qb.cell' (i := 4) rfl
        have q5 := qb.cell' (i := 5) rfl
        have q6 := qb.cell' (i := 6) rfl
        have q7 := qb.cell' (i := 7) rfl
        have q8 := qb.cell' (i := 8) rfl
        refine bodyPost_ret (v := .tuple #[vwV Vw.zero (.slice none 0 0), errV 9]) ?_ rfl (.inr ⟨9, .inl rfl, fun hh => absurd hh HNO.out, rfl, F1.out.then_only qf (.inr (Nat.le_refl _))⟩)
        simp [results, Try.results60, go_sem, Vw.zero, q0, q1, q2, q3, q4, q5, q6, q7, q8]
      by_cases h11 : 11 < C.R.kind
      · have hno : ¬ ∀ R ∈ L.map (·.R), KindOk R := fun hh => by
          have := (hh C.R (List.mem_map.2 ⟨C, List.mem_of_getElem? HC.out, rfl⟩)).2
          omega
        have HNO := hid_ hno
        clear hno
        go_wp2_with fail
        clear s0 z0 s1 z1 s2 z2 s3 z3 s4 z4 s5 z5 s6 z6 s7 z7 s8 z8
        obtain ⟨qb, qf⟩ := box9 BO1.out (.string nilS) (.string nilS) (.bool false) (.int .i64 0) (.slice none 0 0) (.bool false) (.int .i64 0) (.int .i64 0) (.string nilS)
        have q0 := qb.cell' (i := 0) rfl
        have q1 := qb.cell' (i := 1) rfl
        have q2 := qb.cell' (i := 2) rfl
        have q3 := qb.cell' (i := 3) rfl
        have q4 := qb.cell' (i := 4) rfl
        have q5 := qb.cell' (i := 5) rfl
        have q6 := qb.cell' (i := 6) rfl
        have q7 := qb.cell' (i := 7) rfl
        have q8 := qb.cell' (i := 8) rfl
        refine bodyPost_ret (v := .tuple #[vwV Vw.zero (.slice none 0 0), errV 9]) ?_ rfl (.inr ⟨9, .inl rfl, fun hh => absurd hh HNO.out, rfl, F1.out.then_only qf (.inr (Nat.le_refl _))⟩)
        simp [results, Try.results60, go_sem, Vw.zero, q0, q1, q2, q3, q4, q5, q6, q7, q8]
      · go_wp2_with fail
        go_roundw
        case rel => exact ⟨k + 1, by omega, by go_num, fun j C' hj hC' => by
          rcases Nat.lt_succ_iff_lt_or_eq.1 hj with hj | rfl
          · exact HA.out j C' hj hC'
          · rw [HC.out] at hC'; cases hC'; exact ⟨by omega, by omega⟩, F.out.then_none P1.out.2⟩
        case measure => simp [intOf]; omega
    · obtain rfl : k = n := by omega
      have HK : Hid (∀ R ∈ L.map (·.R), KindOk R) := hid_ (fun R hR => by
        obtain ⟨C, hC, rfl⟩ := List.mem_map.1 hR
        obtain ⟨j, hj, e⟩ := List.mem_iff_getElem.1 hC
        exact HA.out j C (by omega) (by rw [List.getElem?_eq_getElem hj, e]))
      have F1 := hid_ (F0.out.then_none F.out)
      have BO1 := hid_ (BO.out.fr F.out id)
      have hsz1 := F.out.size
      clear HA hlt hi0 BO F0
      by_cases hk0 : k = 0
      · have hno : foldU (L.map (·.R)) = none := by rw [List.eq_nil_of_length_eq_zero (by omega : L.length = 0)]; rfl
        have HNO := hid_ hno
        subst hk0
        clear hno
        have s0 : wr.cell? ⟨w.heap.size, 0, none⟩ = some (.string nilS) := BO1.out.cell' rfl
        have z0 := BO1.out.frozen 0
        have s1 : wr.cell? ⟨w.heap.size, 1, none⟩ = some (.string nilS) := BO1.out.cell' rfl
        have z1 := BO1.out.frozen 1
        have s2 : wr.cell? ⟨w.heap.size, 2, none⟩ = some (.bool false) := BO1.out.cell' rfl
        have z2 := BO1.out.frozen 2
        have s3 : wr.cell? ⟨w.heap.size, 3, none⟩ = some (.int .i64 0) := BO1.out.cell' rfl
        have z3 := BO1.out.frozen 3
        have s4 : wr.cell? ⟨w.heap.size, 4, none⟩ = some (.slice none 0 0) := BO1.out.cell' rfl
        have z4 := BO1.out.frozen 4
        have s5 : wr.cell? ⟨w.heap.size, 5, none⟩ = some (.bool false) := BO1.out.cell' rfl
        have z5 := BO1.out.frozen 5
        have s6 : wr.cell? ⟨w.heap.size, 6, none⟩ = some (.int .i64 0) := BO1.out.cell' rfl
        have z6 := BO1.out.frozen 6
        have s7 : wr.cell? ⟨w.heap.size, 7, none⟩ = some (.int .i64 0) := BO1.out.cell' rfl
        have z7 := BO1.out.frozen 7
        have s8 : wr.cell? ⟨w.heap.size, 8, none⟩ = some (.string nilS) := BO1.out.cell' rfl
        have z8 := BO1.out.frozen 8
        go_wp2_with fail
        clear s0 z0 s1 z1 s2 z2 s3 z3 s4 z4 s5 z5 s6 z6 s7 z7 s8 z8
        obtain ⟨qb, qf⟩ := box9 BO1.out (.string nilS) (.string nilS) (.bool false) (.int .i64 0) (.slice none 0 0) (.bool false) (.int .i64 0) (.int .i64 0) (.string nilS)
        have q0 := qb.cell' (i := 0) rfl
        have q1 := qb.cell' (i := 1) rfl
        have q2 := qb.cell' (i := 2) rfl
        have q3 := qb.cell' (i := 3) rfl
        have q4 := qb.cell' (i := 4) rfl
        have q5 := qb.cell' (i := 5) rfl
        have q6 := qb.cell' (i := 6) rfl
        have q7 := qb.cell' (i := 7) rfl
        have q8 := qb.cell' (i := 8) rfl
        refine bodyPost_ret (v := .tuple #[vwV Vw.zero (.slice none 0 0), errV 10]) ?_ rfl (.inr ⟨10, .inr rfl, fun _ => HNO.out, rfl, F1.out.then_only qf (.inr (Nat.le_refl _))⟩)
        simp [results, Try.results60, go_sem, Vw.zero, q0, q1, q2, q3, q4, q5, q6, q7, q8]
      obtain ⟨m, rfl⟩ : ∃ m, k = m + 1 := ⟨k - 1, by omega⟩
      obtain ⟨D, hD⟩ : ∃ D, L[m]? = some D := ⟨_, List.getElem?_eq_getElem (by omega)⟩
      obtain ⟨b, off, rfl, hb, hR, hO⟩ := (H.out.keep F1.out).at_ hD
      have HD := hid_ hD
      have HR := hid_ hR
      have HO := hid_ hO
      have hDs : D.R.ents.length ≤ 500 := HS.out D (List.mem_of_getElem? hD)
      have hDm : (L.map (·.R))[m]? = some D.R := by rw [List.getElem?_map, hD]; rfl
      have hLD : (L.map (·.R)).drop m = [D.R] := foldU_last (by rw [List.length_map]; omega) hDm
      have HLD := hid_ hLD
      have hi0 : (0 : Int) ≤ (m : Int) := Int.natCast_nonneg _
      have hi1 : (m : Int) < ((m + 1 : Nat) : Int) := by omega
      have hi2 : (m : Int) < (m : Int) + 1 := by omega
      have hw1 : IntKind.i64.wrap ((m : Int) + 1 - 1) = (m : Int) := by rw [show (m : Int) + 1 - 1 = (m : Int) by omega]; exact IntWalk.i64_in _ (by omega)
      have k0 : wr.cell? ⟨b, off + m * 15, none⟩ = some (.int .i64 D.R.kind) := HR.out 0 _ rfl
      clear hD hR hO hDm hLD hk0
      by_cases h7 : D.R.kind = 7
      case neg =>
        have hno : foldU (L.map (·.R)) = none := by
          have := foldU_none (l := L.map (·.R)) (j := m) (by rw [List.length_map]; omega) (by rw [HLD.out]; exact foldU_one_no _ (fun h => h7 h.1)) 0 (Nat.zero_le _)
          simpa using this
        have HNO := hid_ hno
        have h7' : (D.R.kind != 7) = true := by simpa using h7
        clear hno h7
        have s0 : wr.cell? ⟨w.heap.size, 0, none⟩ = some (.string nilS) := BO1.out.cell' rfl
        have z0 := BO1.out.frozen 0
        have s1 : wr.cell? ⟨w.heap.size, 1, none⟩ = some (.string nilS) := BO1.out.cell' rfl
        have z1 := BO1.out.frozen 1
        have s2 : wr.cell? ⟨w.heap.size, 2, none⟩ = some (.bool false) := BO1.out.cell' rfl
        have z2 := BO1.out.frozen 2
        have s3 : wr.cell? ⟨w.heap.size, 3, none⟩ = some (.int .i64 0) := BO1.out.cell' rfl
        have z3 := BO1.out.frozen 3
        have s4 : wr.cell? ⟨w.heap.size, 4, none⟩ = some (.slice none 0 0) := BO1.out.cell' rfl
        have z4 := BO1.out.frozen 4
        have s5 : wr.cell? ⟨w.heap.size, 5, none⟩ = some (.bool false) := BO1.out.cell' rfl
        have z5 := BO1.out.frozen 5
        have s6 : wr.cell? ⟨w.heap.size, 6, none⟩ = some (.int .i64 0) := BO1.out.cell' rfl
        have z6 := BO1.out.frozen 6
        have s7 : wr.cell? ⟨w.heap.size, 7, none⟩ = some (.int .i64 0) := BO1.out.cell' rfl
        have z7 := BO1.out.frozen 7
        have s8 : wr.cell? ⟨w.heap.size, 8, none⟩ = some (.string nilS) := BO1.out.cell' rfl
        have z8 := BO1.out.frozen 8
        go_wp2_with fail
        clear s0 z0 s1 z1 s2 z2 s3 z3 s4 z4 s5 z5 s6 z6 s7 z7 s8 z8
        obtain ⟨qb, qf⟩ := box9 BO1.out (.string nilS) (.string nilS) (.bool false) (.int .i64 0) (.slice none 0 0) (.bool false) (.int .i64 0) (.int .i64 0) (.string nilS)
        have q0 := qb.cell' (i := 0) rfl
        have q1 := qb.cell' (i := 1) rfl
        have q2 := qb.cell' (i := 2) rfl
        have q3 := qb.cell' (i := 3) rfl
        have q4 := qb.cell' (i := 4) rfl
        have q5 := qb.cell' (i := 5) rfl
        have q6 := qb.cell' (i := 6) rfl
        have q7 := qb.cell' (i := 7) rfl
        have q8 := qb.cell' (i := 8) rfl
        refine bodyPost_ret (v := .tuple #[vwV Vw.zero (.slice none 0 0), errV 10]) ?_ rfl (.inr ⟨10, .inr rfl, fun _ => HNO.out, rfl, F1.out.then_only qf (.inr (Nat.le_refl _))⟩)
        simp [results, Try.results60, go_sem, Vw.zero, q0, q1, q2, q3, q4, q5, q6, q7, q8]
      have h7' : (D.R.kind != 7) = false := by simpa using h7
      have H7 := hid_ h7
      clear h7
      go_upto_region 11 with (first | (refine wpList_load_mid rfl 58 (.tmp 45) rfl b (off + m * 15) rfl (recL D) _ HR.out Try.underlying58 rfl rec_size8 ?_) | (refine wpList_store_mid rfl 58 (.tmp 7) (.tmp 46) rfl wr.heap.size 0 (recL D).toArray rfl rfl (new_there wr _ recZ8) rec_size8 (rec_one D) ?_; obtain ⟨w1, hw1⟩ : ∃ w1, w1 = (wr.alloc (.cells recZ8 58)).setCells wr.heap.size 0 (recL D) := ⟨_, rfl⟩; change wpList _ _ _ _ _ ((wr.alloc (.cells recZ8 58)).setCells wr.heap.size 0 (recL D)); rw [← hw1]; have P1 : Hid (Blk w1 wr.heap.size 58 (recL D).toArray ∧ Fr none_ wr w1) := hid_ (by rw [hw1]; exact new_copy wr _ recZ8 _ rfl); clear hw1))
      go_frame
      have BO2 := hid_ (BO1.out.fr P1.out.2 id)
      have F2 := hid_ (F1.out.then_none P1.out.2)
      have HO2 := hid_ (HO.out.keep P1.out.2)
      have hsz2 := P1.out.2.size
      go_cut [8] (fun v wq => ∃ X A' c', v = .pointer (some ⟨X, 0, none⟩) ∧ w.heap.size < X ∧ Blk wq X 43 (vwA (baseV D.R) (.slice A' D.R.ents.length c')) ∧ VwIn wq (baseV D.R) A' c' ∧ Fr none_ w1 wq)
      case first =>
        have g1 : w1.cell? ⟨wr.heap.size, 1, none⟩ = some (.string D.R.low) := P1.out.1.cell' rfl
        have g2 : w1.cell? ⟨wr.heap.size, 2, none⟩ = some (.string D.R.high) := P1.out.1.cell' rfl
        have g3 : w1.cell? ⟨wr.heap.size, 3, none⟩ = some (.bool D.R.unb) := P1.out.1.cell' rfl
        have g4 : w1.cell? ⟨wr.heap.size, 4, none⟩ = some (.int .i64 D.R.right) := P1.out.1.cell' rfl
        have g6 : w1.cell? ⟨wr.heap.size, 6, none⟩ = some (.slice D.B D.R.ents.length D.d) := P1.out.1.cell' rfl
        have hS0 : (fun w' : World => Fr none_ w1 w') w1.drew := (Fr.refl none_ w1).drew
        refine wp_region_T (m := 14) (S := fun w' : World => Fr none_ w1 w') (by kernel_rfl) ?_
        refine wpAnyT_take2 (i := 0) (v := _) rfl (by kernel_rfl) (by kernel_rfl) (by kernel_rfl) (by kernel_rfl) (fun _ _ _ h => h) (.inl ⟨by simp [Region.wanted], fun w' hS => by have s_g1 := cellFr g1 hS; have s_g2 := cellFr g2 hS; have s_g3 := cellFr g3 hS; have s_g4 := cellFr g4 hS; have s_g6 := cellFr g6 hS; go_simp; rfl⟩) hS0 ?_
        refine wpAnyT_take2 (i := 1) (v := _) rfl (by kernel_rfl) (by kernel_rfl) (by kernel_rfl) (by kernel_rfl) (fun _ _ _ h => h) (.inl ⟨by simp [Region.wanted], fun w' hS => by have s_g1 := cellFr g1 hS; have s_g2 := cellFr g2 hS; have s_g3 := cellFr g3 hS; have s_g4 := cellFr g4 hS; have s_g6 := cellFr g6 hS; go_simp; rfl⟩) hS0 ?_
        refine wpAnyT_take2 (i := 2) (v := _) rfl (by kernel_rfl) (by kernel_rfl) (by kernel_rfl) (by kernel_rfl) (fun _ _ _ h => h) (.inl ⟨by simp [Region.wanted], fun w' hS => by have s_g1 := cellFr g1 hS; have s_g2 := cellFr g2 hS; have s_g3 := cellFr g3 hS; have s_g4 := cellFr g4 hS; have s_g6 := cellFr g6 hS; go_simp; rfl⟩) hS0 ?_
        refine wpAnyT_take2 (i := 3) (v := _) rfl (by kernel_rfl) (by kernel_rfl) (by kernel_rfl) (by kernel_rfl) (fun _ _ _ h => h) (.inl ⟨by simp [Region.wanted], fun w' hS => by have s_g1 := cellFr g1 hS; have s_g2 := cellFr g2 hS; have s_g3 := cellFr g3 hS; have s_g4 := cellFr g4 hS; have s_g6 := cellFr g6 hS; go_simp; rfl⟩) hS0 ?_
        refine wpAnyT_take2 (i := 4) (v := _) rfl (by kernel_rfl) (by kernel_rfl) (by kernel_rfl) (by kernel_rfl) (fun _ _ _ h => h) (.inl ⟨by simp [Region.wanted], fun w' hS => by have s_g1 := cellFr g1 hS; have s_g2 := cellFr g2 hS; have s_g3 := cellFr g3 hS; have s_g4 := cellFr g4 hS; have s_g6 := cellFr g6 hS; go_simp; rfl⟩) hS0 ?_
        refine wpAnyT_take2 (i := 5) (v := _) rfl (by kernel_rfl) (by kernel_rfl) (by kernel_rfl) (by kernel_rfl) (fun _ _ _ h => h) (.inl ⟨by simp [Region.wanted], fun w' hS => by have s_g1 := cellFr g1 hS; have s_g2 := cellFr g2 hS; have s_g3 := cellFr g3 hS; have s_g4 := cellFr g4 hS; have s_g6 := cellFr g6 hS; go_simp; rfl⟩) hS0 ?_
        refine wpAnyT_take2 (i := 6) (v := _) rfl (by kernel_rfl) (by kernel_rfl) (by kernel_rfl) (by kernel_rfl) (fun _ _ _ h => h) (.inl ⟨by simp [Region.wanted], fun w' hS => by have s_g1 := cellFr g1 hS; have s_g2 := cellFr g2 hS; have s_g3 := cellFr g3 hS; have s_g4 := cellFr g4 hS; have s_g6 := cellFr g6 hS; go_simp; rfl⟩) hS0 ?_
        refine wpAnyT_take2 (i := 7) (v := _) rfl (by kernel_rfl) (by kernel_rfl) (by kernel_rfl) (by kernel_rfl) (fun _ _ _ h => h) (.inl ⟨by simp [Region.wanted], fun w' hS => by have s_g1 := cellFr g1 hS; have s_g2 := cellFr g2 hS; have s_g3 := cellFr g3 hS; have s_g4 := cellFr g4 hS; have s_g6 := cellFr g6 hS; go_simp; rfl⟩) hS0 ?_
        refine wpAnyT_take2 (i := 8) (v := _) rfl (by kernel_rfl) (by kernel_rfl) (by kernel_rfl) (by kernel_rfl) (fun _ _ _ h => h) (.inl ⟨by simp [Region.wanted], fun w' hS => by have s_g1 := cellFr g1 hS; have s_g2 := cellFr g2 hS; have s_g3 := cellFr g3 hS; have s_g4 := cellFr g4 hS; have s_g6 := cellFr g6 hS; go_simp; rfl⟩) hS0 ?_
        refine wpAnyT_take2 (i := 9) (v := _) rfl (by kernel_rfl) (by kernel_rfl) (by kernel_rfl) (by kernel_rfl) (fun _ _ _ h => h) (.inl ⟨by simp [Region.wanted], fun w' hS => by have s_g1 := cellFr g1 hS; have s_g2 := cellFr g2 hS; have s_g3 := cellFr g3 hS; have s_g4 := cellFr g4 hS; have s_g6 := cellFr g6 hS; go_simp; rfl⟩) hS0 ?_
        refine wpAnyT_two (i := 10) (j := 13) rfl rfl rfl rfl (by kernel_rfl) ?_ ?_
        · go_simp
          refine ⟨(by repeat (first | exact Fr.refl none_ w1 | apply Fr.drew | apply Fr.alloc)), ?_⟩
          refine wpAnyT_two (i := 11) (j := 13) rfl rfl rfl rfl (by kernel_rfl) ?_ ?_
          · skip
            go_simp
            obtain ⟨w3, hw3⟩ : ∃ w3, w3 = (w1.alloc (.cells #[.slice D.B D.R.ents.length D.d] 39)).drew := ⟨_, rfl⟩
            have f3 : Fr none_ w1 w3 := by rw [hw3]; exact (by repeat (first | exact Fr.refl none_ w1 | apply Fr.drew | apply Fr.alloc))
            have B3 : Hid (Blk w3 (w1.heap.size) 39 #[.slice D.B D.R.ents.length D.d]) := hid_ (by rw [hw3]; exact (Blk.new w1 _ _).drew)
            have hws := f3.size
            have RD := hid_ (HO2.out.rd.e.none_fr f3)
            have F3 := hid_ f3
            rw [← hw3]
            clear hw3 f3
            refine (joined_ok (w1.heap.size) [(D.B, D.d, D.R.ents)] w3 ?_ ?_ ?_ ?_).mono ?_
            · intro i x hx
              match i, hx with
              | 0, hx => cases hx; rw [B3.out.cell]; rfl
              | k + 1, hx => simp at hx
            · intro x hx
              obtain rfl : x = (D.B, D.d, D.R.ents) := by simpa using hx
              exact RD.out
            · simp [ptL]; omega
            · simp
            rintro e w4 ⟨A', c', rfl, ho, hf4⟩
            rw [show ptL [(D.B, D.d, D.R.ents)] = D.R.ents by simp [ptL]] at ho ⊢
            have O4 := hid_ ho
            have F4 := hid_ (F3.out.then_none hf4)
            have hs4 := hf4.size
            clear ho hf4 B3 RD
            refine ⟨F4.out, ?_⟩
            refine wpAnyT_take2 (i := 12) (v := _) rfl (by kernel_rfl) (by kernel_rfl) (by kernel_rfl) (by kernel_rfl) (fun _ _ _ h => h) (.inl ⟨by simp [Region.wanted], fun w' hS => by skip; go_simp; rfl⟩) F4.out ?_
            refine wpAnyT_one (i := 13) rfl rfl (by kernel_rfl) ?_
            go_simp
            obtain ⟨w5, hw5⟩ : ∃ w5, w5 = w4.alloc (.cells #[.string ⟨#[]⟩, .string ⟨#[]⟩, .bool false, .int .i64 0, .slice none 0 0, .bool false, .int .i64 0, .int .i64 0, .string ⟨#[]⟩] 43) := ⟨_, rfl⟩
            have X5 : Hid (Blk w5 w4.heap.size 43 (vwA Vw.zero (.slice none 0 0))) := hid_ (by rw [hw5]; exact Blk.new w4 _ _)
            have F5 : Hid (Fr none_ w1 w5) := hid_ (by rw [hw5]; exact F4.out.alloc _)
            have O5 := hid_ (own_none O4.out (by rw [hw5]; exact (Fr.refl none_ w4).alloc (.cells #[.string ⟨#[]⟩, .string ⟨#[]⟩, .bool false, .int .i64 0, .slice none 0 0, .bool false, .int .i64 0, .int .i64 0, .string ⟨#[]⟩] 43) : Fr none_ w4 w5))
            rw [← hw5]
            clear hw5
            refine ⟨F5.out, ?_⟩
            have s0 : w5.cell? ⟨w4.heap.size, 0, none⟩ = some (.string nilS) := X5.out.cell' rfl
            have z0 := X5.out.frozen 0
            have s1 : w5.cell? ⟨w4.heap.size, 1, none⟩ = some (.string nilS) := X5.out.cell' rfl
            have z1 := X5.out.frozen 1
            have s2 : w5.cell? ⟨w4.heap.size, 2, none⟩ = some (.bool false) := X5.out.cell' rfl
            have z2 := X5.out.frozen 2
            have s3 : w5.cell? ⟨w4.heap.size, 3, none⟩ = some (.int .i64 0) := X5.out.cell' rfl
            have z3 := X5.out.frozen 3
            have s4 : w5.cell? ⟨w4.heap.size, 4, none⟩ = some (.slice none 0 0) := X5.out.cell' rfl
            have z4 := X5.out.frozen 4
            have s5 : w5.cell? ⟨w4.heap.size, 5, none⟩ = some (.bool false) := X5.out.cell' rfl
            have z5 := X5.out.frozen 5
            have s6 : w5.cell? ⟨w4.heap.size, 6, none⟩ = some (.int .i64 0) := X5.out.cell' rfl
            have z6 := X5.out.frozen 6
            have s7 : w5.cell? ⟨w4.heap.size, 7, none⟩ = some (.int .i64 0) := X5.out.cell' rfl
            have z7 := X5.out.frozen 7
            have s8 : w5.cell? ⟨w4.heap.size, 8, none⟩ = some (.string nilS) := X5.out.cell' rfl
            have z8 := X5.out.frozen 8
            refine wpAnyT_one (i := 14) rfl rfl (by kernel_rfl) ?_
            go_simp
            refine wpAnyT_done (by kernel_rfl) ?_ _
            clear s0 z0 s1 z1 s2 z2 s3 z3 s4 z4 s5 z5 s6 z6 s7 z7 s8 z8
            obtain ⟨qb, qf⟩ := box9 X5.out (.string D.R.low) (.string D.R.high) (.bool D.R.unb) (.int .i64 D.R.right) (.slice A' D.R.ents.length c') (.bool false) (.int .i64 0) (.int .i64 0) (.string nilS)
            have hvin := vin_of_own (V := baseV D.R) (own_fr O5.out qf (fun k hk e => own_blk_ne O5.out X5.out (by decide) (by rw [hk, show k = w4.heap.size from e]))) rfl ⟨HO.out.low, HO.out.high, SzOk.nil, HO.out.ents⟩
            have hfr := F5.out.then_only qf (.inr (by omega))
            have HREL := hid_ (And.intro hvin (And.intro qb hfr))
            clear hvin qb qf hfr
            go_wp2
            go_meet
            case rel => exact ⟨_, A', c', rfl, by omega, HREL.out.2.1, HREL.out.1, HREL.out.2.2⟩
          · go_simp
            refine ⟨(by repeat (first | exact Fr.refl none_ w1 | apply Fr.drew | apply Fr.alloc)), ?_⟩
            refine wpAnyT_one (i := 11) rfl rfl (by kernel_rfl) ?_
            go_simp
            obtain ⟨w3, hw3⟩ : ∃ w3, w3 = ((w1.alloc (.cells #[.slice D.B D.R.ents.length D.d] 39)).alloc (.cells #[.string ⟨#[]⟩, .string ⟨#[]⟩, .bool false, .int .i64 0, .slice none 0 0, .bool false, .int .i64 0, .int .i64 0, .string ⟨#[]⟩] 43)).drew := ⟨_, rfl⟩
            have f3 : Fr none_ w1 w3 := by rw [hw3]; exact (by repeat (first | exact Fr.refl none_ w1 | apply Fr.drew | apply Fr.alloc))
            have B3 : Hid (Blk w3 (w1.heap.size) 39 #[.slice D.B D.R.ents.length D.d]) := hid_ (by rw [hw3]; exact ((Blk.new w1 _ _).alloc _).drew)
            have X3 : Hid (Blk w3 (w1.heap.size + 1) 43 (vwA Vw.zero (.slice none 0 0))) := hid_ (by rw [hw3]; exact (by have := Blk.new (w1.alloc (.cells #[.slice D.B D.R.ents.length D.d] 39)) 43 (vwA Vw.zero (.slice none 0 0)); rw [World.size_alloc] at this; exact this.drew))
            have hws := f3.size
            have RD := hid_ (HO2.out.rd.e.none_fr f3)
            have F3 := hid_ f3
            rw [← hw3]
            clear hw3 f3
            refine (joined_ok (w1.heap.size) [(D.B, D.d, D.R.ents)] w3 ?_ ?_ ?_ ?_).mono ?_
            · intro i x hx
              match i, hx with
              | 0, hx => cases hx; rw [B3.out.cell]; rfl
              | k + 1, hx => simp at hx
            · intro x hx
              obtain rfl : x = (D.B, D.d, D.R.ents) := by simpa using hx
              exact RD.out
            · simp [ptL]; omega
            · simp
            rintro e w4 ⟨A', c', rfl, ho, hf4⟩
            rw [show ptL [(D.B, D.d, D.R.ents)] = D.R.ents by simp [ptL]] at ho ⊢
            have O4 := hid_ ho
            have F4 := hid_ (F3.out.then_none hf4)
            have X4 := hid_ (X3.out.fr hf4 id)
            have hs4 := hf4.size
            clear ho hf4 B3 RD
            refine ⟨F4.out, ?_⟩
            refine wpAnyT_take2 (i := 12) (v := _) rfl (by kernel_rfl) (by kernel_rfl) (by kernel_rfl) (by kernel_rfl) (fun _ _ _ h => h) (.inl ⟨by simp [Region.wanted], fun w' hS => by skip; go_simp; rfl⟩) F4.out ?_
            have s0 : w4.cell? ⟨w1.heap.size + 1, 0, none⟩ = some (.string nilS) := X4.out.cell' rfl
            have z0 := X4.out.frozen 0
            have s1 : w4.cell? ⟨w1.heap.size + 1, 1, none⟩ = some (.string nilS) := X4.out.cell' rfl
            have z1 := X4.out.frozen 1
            have s2 : w4.cell? ⟨w1.heap.size + 1, 2, none⟩ = some (.bool false) := X4.out.cell' rfl
            have z2 := X4.out.frozen 2
            have s3 : w4.cell? ⟨w1.heap.size + 1, 3, none⟩ = some (.int .i64 0) := X4.out.cell' rfl
            have z3 := X4.out.frozen 3
            have s4 : w4.cell? ⟨w1.heap.size + 1, 4, none⟩ = some (.slice none 0 0) := X4.out.cell' rfl
            have z4 := X4.out.frozen 4
            have s5 : w4.cell? ⟨w1.heap.size + 1, 5, none⟩ = some (.bool false) := X4.out.cell' rfl
            have z5 := X4.out.frozen 5
            have s6 : w4.cell? ⟨w1.heap.size + 1, 6, none⟩ = some (.int .i64 0) := X4.out.cell' rfl
            have z6 := X4.out.frozen 6
            have s7 : w4.cell? ⟨w1.heap.size + 1, 7, none⟩ = some (.int .i64 0) := X4.out.cell' rfl
            have z7 := X4.out.frozen 7
            have s8 : w4.cell? ⟨w1.heap.size + 1, 8, none⟩ = some (.string nilS) := X4.out.cell' rfl
            have z8 := X4.out.frozen 8
            refine wpAnyT_one (i := 14) rfl rfl (by kernel_rfl) ?_
            go_simp
            refine wpAnyT_done (by kernel_rfl) ?_ _
            clear s0 z0 s1 z1 s2 z2 s3 z3 s4 z4 s5 z5 s6 z6 s7 z7 s8 z8
            obtain ⟨qb, qf⟩ := box9 X4.out (.string D.R.low) (.string D.R.high) (.bool D.R.unb) (.int .i64 D.R.right) (.slice A' D.R.ents.length c') (.bool false) (.int .i64 0) (.int .i64 0) (.string nilS)
            have hvin := vin_of_own (V := baseV D.R) (own_fr O4.out qf (fun k hk e => own_blk_ne O4.out X4.out (by decide) (by rw [hk, show k = w1.heap.size + 1 from e]))) rfl ⟨HO.out.low, HO.out.high, SzOk.nil, HO.out.ents⟩
            have hfr := F4.out.then_only qf (.inr (by omega))
            have HREL := hid_ (And.intro hvin (And.intro qb hfr))
            clear hvin qb qf hfr
            go_wp2
            go_meet
            case rel => exact ⟨_, A', c', rfl, by omega, HREL.out.2.1, HREL.out.1, HREL.out.2.2⟩
        · go_simp
          refine ⟨(by repeat (first | exact Fr.refl none_ w1 | apply Fr.drew | apply Fr.alloc)), ?_⟩
          refine wpAnyT_one (i := 10) rfl rfl (by kernel_rfl) ?_
          go_simp
          refine ⟨(by repeat (first | exact Fr.refl none_ w1 | apply Fr.drew | apply Fr.alloc)), ?_⟩
          refine wpAnyT_one (i := 11) rfl rfl (by kernel_rfl) ?_
          go_simp
          obtain ⟨w3, hw3⟩ : ∃ w3, w3 = ((w1.alloc (.cells #[.string ⟨#[]⟩, .string ⟨#[]⟩, .bool false, .int .i64 0, .slice none 0 0, .bool false, .int .i64 0, .int .i64 0, .string ⟨#[]⟩] 43)).alloc (.cells #[.slice D.B D.R.ents.length D.d] 39)).drew := ⟨_, rfl⟩
          have f3 : Fr none_ w1 w3 := by rw [hw3]; exact (by repeat (first | exact Fr.refl none_ w1 | apply Fr.drew | apply Fr.alloc))
          have B3 : Hid (Blk w3 (w1.heap.size + 1) 39 #[.slice D.B D.R.ents.length D.d]) := hid_ (by rw [hw3]; exact (by have := Blk.new (w1.alloc (.cells #[.string ⟨#[]⟩, .string ⟨#[]⟩, .bool false, .int .i64 0, .slice none 0 0, .bool false, .int .i64 0, .int .i64 0, .string ⟨#[]⟩] 43)) 39 #[.slice D.B D.R.ents.length D.d]; rw [World.size_alloc] at this; exact this.drew))
          have X3 : Hid (Blk w3 (w1.heap.size) 43 (vwA Vw.zero (.slice none 0 0))) := hid_ (by rw [hw3]; exact ((Blk.new w1 _ _).alloc _).drew)
          have hws := f3.size
          have RD := hid_ (HO2.out.rd.e.none_fr f3)
          have F3 := hid_ f3
          rw [← hw3]
          clear hw3 f3
          refine (joined_ok (w1.heap.size + 1) [(D.B, D.d, D.R.ents)] w3 ?_ ?_ ?_ ?_).mono ?_
          · intro i x hx
            match i, hx with
            | 0, hx => cases hx; rw [B3.out.cell]; rfl
            | k + 1, hx => simp at hx
          · intro x hx
            obtain rfl : x = (D.B, D.d, D.R.ents) := by simpa using hx
            exact RD.out
          · simp [ptL]; omega
          · simp
          rintro e w4 ⟨A', c', rfl, ho, hf4⟩
          rw [show ptL [(D.B, D.d, D.R.ents)] = D.R.ents by simp [ptL]] at ho ⊢
          have O4 := hid_ ho
          have F4 := hid_ (F3.out.then_none hf4)
          have X4 := hid_ (X3.out.fr hf4 id)
          have hs4 := hf4.size
          clear ho hf4 B3 RD
          refine ⟨F4.out, ?_⟩
          refine wpAnyT_take2 (i := 12) (v := _) rfl (by kernel_rfl) (by kernel_rfl) (by kernel_rfl) (by kernel_rfl) (fun _ _ _ h => h) (.inl ⟨by simp [Region.wanted], fun w' hS => by skip; go_simp; rfl⟩) F4.out ?_
          have s0 : w4.cell? ⟨w1.heap.size, 0, none⟩ = some (.string nilS) := X4.out.cell' rfl
          have z0 := X4.out.frozen 0
          have s1 : w4.cell? ⟨w1.heap.size, 1, none⟩ = some (.string nilS) := X4.out.cell' rfl
          have z1 := X4.out.frozen 1
          have s2 : w4.cell? ⟨w1.heap.size, 2, none⟩ = some (.bool false) := X4.out.cell' rfl
          have z2 := X4.out.frozen 2
          have s3 : w4.cell? ⟨w1.heap.size, 3, none⟩ = some (.int .i64 0) := X4.out.cell' rfl
          have z3 := X4.out.frozen 3
          have s4 : w4.cell? ⟨w1.heap.size, 4, none⟩ = some (.slice none 0 0) := X4.out.cell' rfl
          have z4 := X4.out.frozen 4
          have s5 : w4.cell? ⟨w1.heap.size, 5, none⟩ = some (.bool false) := X4.out.cell' rfl
          have z5 := X4.out.frozen 5
          have s6 : w4.cell? ⟨w1.heap.size, 6, none⟩ = some (.int .i64 0) := X4.out.cell' rfl
          have z6 := X4.out.frozen 6
          have s7 : w4.cell? ⟨w1.heap.size, 7, none⟩ = some (.int .i64 0) := X4.out.cell' rfl
          have z7 := X4.out.frozen 7
          have s8 : w4.cell? ⟨w1.heap.size, 8, none⟩ = some (.string nilS) := X4.out.cell' rfl
          have z8 := X4.out.frozen 8
          refine wpAnyT_one (i := 14) rfl rfl (by kernel_rfl) ?_
          go_simp
          refine wpAnyT_done (by kernel_rfl) ?_ _
          clear s0 z0 s1 z1 s2 z2 s3 z3 s4 z4 s5 z5 s6 z6 s7 z7 s8 z8
          obtain ⟨qb, qf⟩ := box9 X4.out (.string D.R.low) (.string D.R.high) (.bool D.R.unb) (.int .i64 D.R.right) (.slice A' D.R.ents.length c') (.bool false) (.int .i64 0) (.int .i64 0) (.string nilS)
          have hvin := vin_of_own (V := baseV D.R) (own_fr O4.out qf (fun k hk e => own_blk_ne O4.out X4.out (by decide) (by rw [hk, show k = w1.heap.size from e]))) rfl ⟨HO.out.low, HO.out.high, SzOk.nil, HO.out.ents⟩
          have hfr := F4.out.then_only qf (.inr (by omega))
          have HREL := hid_ (And.intro hvin (And.intro qb hfr))
          clear hvin qb qf hfr
          go_wp2
          go_meet
          case rel => exact ⟨_, A', c', rfl, by omega, HREL.out.2.1, HREL.out.1, HREL.out.2.2⟩
      case rest =>
      obtain ⟨X, A', c', rfl, hX, hb8, hvin, hf8⟩ := hcut
      have BX := hid_ hb8
      have VI := hid_ hvin
      have F8 := hid_ (F2.out.then_none hf8)
      have BO8 := hid_ (BO2.out.fr hf8 id)
      clear hb8 hvin hf8 BO2 HO2 BO1 F1 F2
      have v0 : wc.cell? ⟨X, 0, none⟩ = some (.string (baseV D.R).low) := BX.out.cell' rfl
      have v1 : wc.cell? ⟨X, 1, none⟩ = some (.string (baseV D.R).high) := BX.out.cell' rfl
      have v2 : wc.cell? ⟨X, 2, none⟩ = some (.bool (baseV D.R).unb) := BX.out.cell' rfl
      have v3 : wc.cell? ⟨X, 3, none⟩ = some (.int .i64 (baseV D.R).right) := BX.out.cell' rfl
      have v4 : wc.cell? ⟨X, 4, none⟩ = some (.slice A' D.R.ents.length c') := BX.out.cell' rfl
      have v5 : wc.cell? ⟨X, 5, none⟩ = some (.bool (baseV D.R).held) := BX.out.cell' rfl
      have v6 : wc.cell? ⟨X, 6, none⟩ = some (.int .i64 (baseV D.R).hp) := BX.out.cell' rfl
      have v7 : wc.cell? ⟨X, 7, none⟩ = some (.int .i64 (baseV D.R).hl) := BX.out.cell' rfl
      have v8 : wc.cell? ⟨X, 8, none⟩ = some (.string (baseV D.R).hk) := BX.out.cell' rfl
      go_wp2_with fail
      refine (sound_ok (baseV D.R) A' c' _ VI.out).mono ?_
      rintro e w2 ⟨bb, rfl, hbb, hf2⟩
      have HB := hid_ hbb
      have BX2 := hid_ (BX.out.fr hf2 id)
      have VI2 := hid_ (VI.out.keep hf2)
      have F9 := hid_ (F8.out.then_none hf2)
      have BO9 := hid_ (BO8.out.fr hf2 id)
      clear hbb hf2 BX VI F8 BO8 v0 v1 v2 v3 v4 v5 v6 v7 v8
      cases bb with
      | false =>
        have hno : foldU (L.map (·.R)) = none := by
          have := foldU_none (l := L.map (·.R)) (j := m) (by rw [List.length_map]; omega) (by rw [HLD.out]; exact foldU_one_no _ (fun h => by have := HB.out.2 h.2; cases this)) 0 (Nat.zero_le _)
          simpa using this
        have HNO := hid_ hno
        clear hno
        have s0 : w2.cell? ⟨w.heap.size, 0, none⟩ = some (.string nilS) := BO9.out.cell' rfl
        have z0 := BO9.out.frozen 0
        have s1 : w2.cell? ⟨w.heap.size, 1, none⟩ = some (.string nilS) := BO9.out.cell' rfl
        have z1 := BO9.out.frozen 1
        have s2 : w2.cell? ⟨w.heap.size, 2, none⟩ = some (.bool false) := BO9.out.cell' rfl
        have z2 := BO9.out.frozen 2
        have s3 : w2.cell? ⟨w.heap.size, 3, none⟩ = some (.int .i64 0) := BO9.out.cell' rfl
        have z3 := BO9.out.frozen 3
        have s4 : w2.cell? ⟨w.heap.size, 4, none⟩ = some (.slice none 0 0) := BO9.out.cell' rfl
        have z4 := BO9.out.frozen 4
        have s5 : w2.cell? ⟨w.heap.size, 5, none⟩ = some (.bool false) := BO9.out.cell' rfl
        have z5 := BO9.out.frozen 5
        have s6 : w2.cell? ⟨w.heap.size, 6, none⟩ = some (.int .i64 0) := BO9.out.cell' rfl
        have z6 := BO9.out.frozen 6
        have s7 : w2.cell? ⟨w.heap.size, 7, none⟩ = some (.int .i64 0) := BO9.out.cell' rfl
        have z7 := BO9.out.frozen 7
        have s8 : w2.cell? ⟨w.heap.size, 8, none⟩ = some (.string nilS) := BO9.out.cell' rfl
        have z8 := BO9.out.frozen 8
        go_wp2_with fail
        clear s0 z0 s1 z1 s2 z2 s3 z3 s4 z4 s5 z5 s6 z6 s7 z7 s8 z8
        obtain ⟨qb, qf⟩ := box9 BO9.out (.string nilS) (.string nilS) (.bool false) (.int .i64 0) (.slice none 0 0) (.bool false) (.int .i64 0) (.int .i64 0) (.string nilS)
        have q0 := qb.cell' (i := 0) rfl
        have q1 := qb.cell' (i := 1) rfl
        have q2 := qb.cell' (i := 2) rfl
        have q3 := qb.cell' (i := 3) rfl
        have q4 := qb.cell' (i := 4) rfl
        have q5 := qb.cell' (i := 5) rfl
        have q6 := qb.cell' (i := 6) rfl
        have q7 := qb.cell' (i := 7) rfl
        have q8 := qb.cell' (i := 8) rfl
        refine bodyPost_ret (v := .tuple #[vwV Vw.zero (.slice none 0 0), errV 10]) ?_ rfl (.inr ⟨10, .inr rfl, fun _ => HNO.out, rfl, F9.out.then_only qf (.inr (Nat.le_refl _))⟩)
        simp [results, Try.results60, go_sem, Vw.zero, q0, q1, q2, q3, q4, q5, q6, q7, q8]
      | true =>
        have hst : FoldSt w L X m (baseV D.R) A' c' w2 := ⟨by rw [List.map_drop, HLD.out]; exact foldU_one D.R H7.out (HB.out.1 rfl), BX2.out, BO9.out, VI2.out, base_held _, by show D.R.ents.length + m ≤ _; omega, F9.out⟩
        have ST := hid_ hst
        clear hst
        go_wp2_with fail
        go_loopw [9] (fun i wr => ∃ (k : Nat) (V : Vw) (A : Option Addr) (c : Nat), k ≤ m ∧ i = .int .i64 ((k : Int) - 1) ∧ FoldSt w L X k V A c wr) (fun i _ => (intOf i + 1).toNat)
        case atStart => exact ⟨m, _, _, _, Nat.le_refl _, rfl, ST.out⟩
        case round =>
          obtain ⟨k, V, A2, c2, hk, rfl, hst⟩ := hrel
          have S2 := hid_ hst
          clear hst
          by_cases hk0 : k = 0
          · have hfo : foldU (L.map (·.R)) = some V := by have := S2.out.fo; rw [hk0] at this; exact this
            have HFO := hid_ hfo
            subst hk0
            clear hfo
            have v0 : wr.cell? ⟨X, 0, none⟩ = some (.string V.low) := S2.out.bx.cell' rfl
            have v1 : wr.cell? ⟨X, 1, none⟩ = some (.string V.high) := S2.out.bx.cell' rfl
            have v2 : wr.cell? ⟨X, 2, none⟩ = some (.bool V.unb) := S2.out.bx.cell' rfl
            have v3 : wr.cell? ⟨X, 3, none⟩ = some (.int .i64 V.right) := S2.out.bx.cell' rfl
            have v4 : wr.cell? ⟨X, 4, none⟩ = some (.slice A2 V.ents.length c2) := S2.out.bx.cell' rfl
            have v5 : wr.cell? ⟨X, 5, none⟩ = some (.bool V.held) := S2.out.bx.cell' rfl
            have v6 : wr.cell? ⟨X, 6, none⟩ = some (.int .i64 V.hp) := S2.out.bx.cell' rfl
            have v7 : wr.cell? ⟨X, 7, none⟩ = some (.int .i64 V.hl) := S2.out.bx.cell' rfl
            have v8 : wr.cell? ⟨X, 8, none⟩ = some (.string V.hk) := S2.out.bx.cell' rfl
            have s0 : wr.cell? ⟨w.heap.size, 0, none⟩ = some (.string nilS) := S2.out.bo.cell' rfl
            have z0 := S2.out.bo.frozen 0
            have s1 : wr.cell? ⟨w.heap.size, 1, none⟩ = some (.string nilS) := S2.out.bo.cell' rfl
            have z1 := S2.out.bo.frozen 1
            have s2 : wr.cell? ⟨w.heap.size, 2, none⟩ = some (.bool false) := S2.out.bo.cell' rfl
            have z2 := S2.out.bo.frozen 2
            have s3 : wr.cell? ⟨w.heap.size, 3, none⟩ = some (.int .i64 0) := S2.out.bo.cell' rfl
            have z3 := S2.out.bo.frozen 3
            have s4 : wr.cell? ⟨w.heap.size, 4, none⟩ = some (.slice none 0 0) := S2.out.bo.cell' rfl
            have z4 := S2.out.bo.frozen 4
            have s5 : wr.cell? ⟨w.heap.size, 5, none⟩ = some (.bool false) := S2.out.bo.cell' rfl
            have z5 := S2.out.bo.frozen 5
            have s6 : wr.cell? ⟨w.heap.size, 6, none⟩ = some (.int .i64 0) := S2.out.bo.cell' rfl
            have z6 := S2.out.bo.frozen 6
            have s7 : wr.cell? ⟨w.heap.size, 7, none⟩ = some (.int .i64 0) := S2.out.bo.cell' rfl
            have z7 := S2.out.bo.frozen 7
            have s8 : wr.cell? ⟨w.heap.size, 8, none⟩ = some (.string nilS) := S2.out.bo.cell' rfl
            have z8 := S2.out.bo.frozen 8
            go_wp2_with fail
            clear s0 z0 s1 z1 s2 z2 s3 z3 s4 z4 s5 z5 s6 z6 s7 z7 s8 z8 v0 v1 v2 v3 v4 v5 v6 v7 v8
            obtain ⟨qb, qf⟩ := box9 S2.out.bo (.string V.low) (.string V.high) (.bool V.unb) (.int .i64 V.right) (.slice A2 V.ents.length c2) (.bool V.held) (.int .i64 V.hp) (.int .i64 V.hl) (.string V.hk)
            have q0 := qb.cell' (i := 0) rfl
            have q1 := qb.cell' (i := 1) rfl
            have q2 := qb.cell' (i := 2) rfl
            have q3 := qb.cell' (i := 3) rfl
            have q4 := qb.cell' (i := 4) rfl
            have q5 := qb.cell' (i := 5) rfl
            have q6 := qb.cell' (i := 6) rfl
            have q7 := qb.cell' (i := 7) rfl
            have q8 := qb.cell' (i := 8) rfl
            refine bodyPost_ret (v := .tuple #[vwV V (.slice A2 V.ents.length c2), .nilIface]) ?_ rfl (.inl ⟨V, A2, c2, HK.out, HFO.out, rfl, S2.out.vin.far S2.out.bo qf, S2.out.held, S2.out.fr.then_only qf (.inr (Nat.le_refl _))⟩)
            simp [results, Try.results60, go_sem, q0, q1, q2, q3, q4, q5, q6, q7, q8]
          · obtain ⟨j, rfl⟩ : ∃ j, k = j + 1 := ⟨k - 1, by omega⟩
            have hjm : j < m := by omega
            obtain ⟨C, hC⟩ : ∃ C, L[j]? = some C := ⟨_, List.getElem?_eq_getElem (by omega)⟩
            obtain ⟨b2, off2, hA, hb2, hR2, hO2⟩ := (H.out.keep S2.out.fr).at_ hC
            obtain ⟨rfl, rfl⟩ : b = b2 ∧ off = off2 := by injection hA with hA; injection hA with e1 e2; exact ⟨e1, e2⟩
            have HR2 := hid_ hR2
            have HO2 := hid_ hO2
            have HC := hid_ hC
            have hdr : (L.map (·.R)).drop j = C.R :: (L.map (·.R)).drop (j + 1) := by
              rw [List.drop_eq_getElem_cons (by rw [List.length_map]; omega)]
              congr 1
              rw [List.getElem_map]
              have := (List.getElem?_eq_some_iff.1 hC).2
              rw [this]
            have hfo : foldU ((L.map (·.R)).drop j) = upM V C.R := by
              rw [hdr, foldU_cons _ (fun e => by have := congrArg List.length e; rw [List.length_drop, List.length_map, List.length_nil] at this; omega), ← List.map_drop, S2.out.fo]
              rfl
            have HFO := hid_ hfo
            have hi0' : (0 : Int) ≤ (j : Int) := Int.natCast_nonneg _
            have hi1' : (j : Int) < ((m + 1 : Nat) : Int) := by omega
            have hi2' : (j : Int) < (m : Int) + 1 := by omega
            have hji : ((j + 1 : Nat) : Int) - 1 = (j : Int) := by omega
            have hwj : IntKind.i64.wrap ((j : Int) - 1) = (j : Int) - 1 := IntWalk.i64_in _ (by omega)
            have hge : decide ((0 : Int) ≤ (j : Int)) = true := by simp
            rw [hji]
            clear hA hR2 hO2 hC hdr hfo hji hk0
            go_upto_region 18 with fail
            go_cut [10] (fun v wq => ∃ bb : Bool, v = .bool bb ∧ FoldCut w L X j bb wq)
            case rest =>
              obtain ⟨bb, rfl, hbb⟩ := hcut
              have HBB := hid_ hbb
              clear hbb
              cases bb with
              | false =>
                obtain ⟨-, hno, hbo, hfw⟩ := HBB.out.resolve_left (fun h => by cases h.1)
                have hno' : foldU (L.map (·.R)) = none := by
                  have := foldU_none (l := L.map (·.R)) (j := j) (by rw [List.length_map]; omega) (by rw [← List.map_drop]; exact hno) 0 (Nat.zero_le _)
                  simpa using this
                have HNO := hid_ hno'
                have BO5 := hid_ hbo
                have F5 := hid_ hfw
                clear hno hno' hbo hfw
                have s0 : wc.cell? ⟨w.heap.size, 0, none⟩ = some (.string nilS) := BO5.out.cell' rfl
                have z0 := BO5.out.frozen 0
                have s1 : wc.cell? ⟨w.heap.size, 1, none⟩ = some (.string nilS) := BO5.out.cell' rfl
                have z1 := BO5.out.frozen 1
                have s2 : wc.cell? ⟨w.heap.size, 2, none⟩ = some (.bool false) := BO5.out.cell' rfl
                have z2 := BO5.out.frozen 2
                have s3 : wc.cell? ⟨w.heap.size, 3, none⟩ = some (.int .i64 0) := BO5.out.cell' rfl
                have z3 := BO5.out.frozen 3
                have s4 : wc.cell? ⟨w.heap.size, 4, none⟩ = some (.slice none 0 0) := BO5.out.cell' rfl
                have z4 := BO5.out.frozen 4
                have s5 : wc.cell? ⟨w.heap.size, 5, none⟩ = some (.bool false) := BO5.out.cell' rfl
                have z5 := BO5.out.frozen 5
                have s6 : wc.cell? ⟨w.heap.size, 6, none⟩ = some (.int .i64 0) := BO5.out.cell' rfl
                have z6 := BO5.out.frozen 6
                have s7 : wc.cell? ⟨w.heap.size, 7, none⟩ = some (.int .i64 0) := BO5.out.cell' rfl
                have z7 := BO5.out.frozen 7
                have s8 : wc.cell? ⟨w.heap.size, 8, none⟩ = some (.string nilS) := BO5.out.cell' rfl
                have z8 := BO5.out.frozen 8
                go_wp2_with fail
                clear s0 z0 s1 z1 s2 z2 s3 z3 s4 z4 s5 z5 s6 z6 s7 z7 s8 z8
                obtain ⟨qb, qf⟩ := box9 BO5.out (.string nilS) (.string nilS) (.bool false) (.int .i64 0) (.slice none 0 0) (.bool false) (.int .i64 0) (.int .i64 0) (.string nilS)
                have q0 := qb.cell' (i := 0) rfl
                have q1 := qb.cell' (i := 1) rfl
                have q2 := qb.cell' (i := 2) rfl
                have q3 := qb.cell' (i := 3) rfl
                have q4 := qb.cell' (i := 4) rfl
                have q5 := qb.cell' (i := 5) rfl
                have q6 := qb.cell' (i := 6) rfl
                have q7 := qb.cell' (i := 7) rfl
                have q8 := qb.cell' (i := 8) rfl
                refine bodyPost_ret (v := .tuple #[vwV Vw.zero (.slice none 0 0), errV 10]) ?_ rfl (.inr ⟨10, .inr rfl, fun _ => HNO.out, rfl, F5.out.then_only qf (.inr (Nat.le_refl _))⟩)
                simp [results, Try.results60, go_sem, Vw.zero, q0, q1, q2, q3, q4, q5, q6, q7, q8]
              | true =>
                obtain ⟨-, V', A4, c4, hst'⟩ := HBB.out.resolve_right (fun h => by cases h.1)
                have ST' := hid_ hst'
                clear hst'
                go_wp2_with fail
                go_roundw
                case rel => exact ⟨j, V', A4, c4, by omega, rfl, ST'.out⟩
                case measure => simp [intOf]
            case first =>
            have v0 : wr.cell? ⟨X, 0, none⟩ = some (.string V.low) := S2.out.bx.cell' rfl
            have v1 : wr.cell? ⟨X, 1, none⟩ = some (.string V.high) := S2.out.bx.cell' rfl
            have v2 : wr.cell? ⟨X, 2, none⟩ = some (.bool V.unb) := S2.out.bx.cell' rfl
            have v3 : wr.cell? ⟨X, 3, none⟩ = some (.int .i64 V.right) := S2.out.bx.cell' rfl
            have v4 : wr.cell? ⟨X, 4, none⟩ = some (.slice A2 V.ents.length c2) := S2.out.bx.cell' rfl
            have v5 : wr.cell? ⟨X, 5, none⟩ = some (.bool V.held) := S2.out.bx.cell' rfl
            have v6 : wr.cell? ⟨X, 6, none⟩ = some (.int .i64 V.hp) := S2.out.bx.cell' rfl
            have v7 : wr.cell? ⟨X, 7, none⟩ = some (.int .i64 V.hl) := S2.out.bx.cell' rfl
            have v8 : wr.cell? ⟨X, 8, none⟩ = some (.string V.hk) := S2.out.bx.cell' rfl
            have hS0 : (fun w' : World => Fr none_ wr w') wr.drew := (Fr.refl none_ wr).drew
            refine wp_region_U (m := 7) (S := fun w' : World => Fr none_ wr w') (by kernel_rfl) ?_
            refine wpAnyU_take2 (i := 0) (v := _) rfl (by kernel_rfl) (by kernel_rfl) (by kernel_rfl) (by kernel_rfl) (fun _ _ _ h => h) (.inl ⟨by simp [Region.wanted], fun w' hS => by have s_v0 := cellFr v0 hS; have s_v1 := cellFr v1 hS; have s_v2 := cellFr v2 hS; have s_v3 := cellFr v3 hS; have s_v4 := cellFr v4 hS; have s_v5 := cellFr v5 hS; have s_v6 := cellFr v6 hS; have s_v7 := cellFr v7 hS; have s_v8 := cellFr v8 hS; go_simp; rfl⟩) hS0 ?_
            refine wpAnyU_take2 (i := 1) (v := _) rfl (by kernel_rfl) (by kernel_rfl) (by kernel_rfl) (by kernel_rfl) (fun _ _ _ h => h) (.inl ⟨by simp [Region.wanted], fun w' hS => by have s_v0 := cellFr v0 hS; have s_v1 := cellFr v1 hS; have s_v2 := cellFr v2 hS; have s_v3 := cellFr v3 hS; have s_v4 := cellFr v4 hS; have s_v5 := cellFr v5 hS; have s_v6 := cellFr v6 hS; have s_v7 := cellFr v7 hS; have s_v8 := cellFr v8 hS; go_simp; rfl⟩) hS0 ?_
            refine wpAnyU_take2 (i := 2) (v := _) rfl (by kernel_rfl) (by kernel_rfl) (by kernel_rfl) (by kernel_rfl) (fun _ _ _ h => h) (.inl ⟨by simp [Region.wanted], fun w' hS => by have s_v0 := cellFr v0 hS; have s_v1 := cellFr v1 hS; have s_v2 := cellFr v2 hS; have s_v3 := cellFr v3 hS; have s_v4 := cellFr v4 hS; have s_v5 := cellFr v5 hS; have s_v6 := cellFr v6 hS; have s_v7 := cellFr v7 hS; have s_v8 := cellFr v8 hS; go_simp; rfl⟩) hS0 ?_
            refine wpAnyU_take2 (i := 3) (v := _) rfl (by kernel_rfl) (by kernel_rfl) (by kernel_rfl) (by kernel_rfl) (fun _ _ _ h => h) (.inl ⟨by simp [Region.wanted], fun w' hS => by have s_v0 := cellFr v0 hS; have s_v1 := cellFr v1 hS; have s_v2 := cellFr v2 hS; have s_v3 := cellFr v3 hS; have s_v4 := cellFr v4 hS; have s_v5 := cellFr v5 hS; have s_v6 := cellFr v6 hS; have s_v7 := cellFr v7 hS; have s_v8 := cellFr v8 hS; go_simp; rfl⟩) hS0 ?_
            refine wpAnyU_take2 (i := 4) (v := _) rfl (by kernel_rfl) (by kernel_rfl) (by kernel_rfl) (by kernel_rfl) (fun _ _ _ h => h) (yieldsIf_load_mid (by simp [Region.wanted]) 58 (.tmp 75) rfl b (off + j * 15) rfl (recL C) _ (fun w' hS i v hv => cellFr (HR2.out i v hv) hS) Try.underlying58 rfl rec_size8) hS0 ?_
            clear v0 v1 v2 v3 v4 v5 v6 v7 v8
            refine wpAnyU_one (i := 5) rfl rfl (by kernel_rfl) ?_
            go_simp
            refine (up_ok V C.R A2 c2 _ _ _ (S2.out.vin.keep (Fr.refl none_ wr).drew) (by have := S2.out.len; omega) ⟨HO2.out.key, HO2.out.hkey⟩ S2.out.held).mono ?_
            rintro e w4 (⟨V', A4, c4, hup, rfl, hvin, hf4⟩ | ⟨hup, rfl, hf4⟩)
            · have FW := hid_ (((Fr.refl none_ wr).drew : Fr none_ wr wr.drew).then_none hf4)
              have BX4 := hid_ (S2.out.bx.fr FW.out id)
              have BO4 := hid_ (S2.out.bo.fr FW.out id)
              have F4 := hid_ (S2.out.fr.then_none FW.out)
              have VI4 := hid_ hvin
              have HUP := hid_ hup
              clear hvin hup hf4
              refine ⟨FW.out, ?_⟩
              refine wpAnyU_take2 (i := 6) (v := _) rfl (by kernel_rfl) (by kernel_rfl) (by kernel_rfl) (by kernel_rfl) (fun _ _ _ h => h) (.inl ⟨by simp [Region.wanted], fun w' hS => by skip; go_simp; rfl⟩) FW.out ?_
              have hst' : ∀ w6, Blk w6 X 43 (vwA V' (.slice A4 V'.ents.length c4)) ∧ Fr (only X) w4 w6 → FoldSt w L X j V' A4 c4 w6 := fun w6 h6 => ⟨by rw [List.map_drop, HFO.out, HUP.out], h6.1, BO4.out.fr h6.2 (only_ne (by omega)), VI4.out.far BX4.out h6.2, up_held HUP.out S2.out.held, by have := up_len HUP.out; have := S2.out.len; omega, F4.out.then_only h6.2 (.inr (by omega))⟩
              have HST := hid_ hst'
              clear hst'
              refine wpAnyU_two (i := 7) (j := 8) rfl rfl rfl rfl (by kernel_rfl) ?_ ?_
              · go_simp
                refine wpAnyU_two (i := 8) (j := 9) rfl rfl rfl rfl (by kernel_rfl) ?_ ?_
                · go_simp
                  have s0 : w4.cell? ⟨X, 0, none⟩ = some (.string V.low) := BX4.out.cell' rfl
                  have z0 := BX4.out.frozen 0
                  have s1 : w4.cell? ⟨X, 1, none⟩ = some (.string V.high) := BX4.out.cell' rfl
                  have z1 := BX4.out.frozen 1
                  have s2 : w4.cell? ⟨X, 2, none⟩ = some (.bool V.unb) := BX4.out.cell' rfl
                  have z2 := BX4.out.frozen 2
                  have s3 : w4.cell? ⟨X, 3, none⟩ = some (.int .i64 V.right) := BX4.out.cell' rfl
                  have z3 := BX4.out.frozen 3
                  have s4 : w4.cell? ⟨X, 4, none⟩ = some (.slice A2 V.ents.length c2) := BX4.out.cell' rfl
                  have z4 := BX4.out.frozen 4
                  have s5 : w4.cell? ⟨X, 5, none⟩ = some (.bool V.held) := BX4.out.cell' rfl
                  have z5 := BX4.out.frozen 5
                  have s6 : w4.cell? ⟨X, 6, none⟩ = some (.int .i64 V.hp) := BX4.out.cell' rfl
                  have z6 := BX4.out.frozen 6
                  have s7 : w4.cell? ⟨X, 7, none⟩ = some (.int .i64 V.hl) := BX4.out.cell' rfl
                  have z7 := BX4.out.frozen 7
                  have s8 : w4.cell? ⟨X, 8, none⟩ = some (.string V.hk) := BX4.out.cell' rfl
                  have z8 := BX4.out.frozen 8
                  refine wpAnyU_one (i := 9) rfl rfl (by kernel_rfl) ?_
                  go_simp
                  clear s0 z0 s1 z1 s2 z2 s3 z3 s4 z4 s5 z5 s6 z6 s7 z7 s8 z8
                  have h6 := hid_ (HST.out _ (box9 BX4.out (.string V'.low) (.string V'.high) (.bool V'.unb) (.int .i64 V'.right) (.slice A4 V'.ents.length c4) (.bool V'.held) (.int .i64 V'.hp) (.int .i64 V'.hl) (.string V'.hk)))
                  refine wpAnyU_one (i := 10) rfl rfl (by kernel_rfl) ?_
                  go_simp
                  refine wpAnyU_done (by kernel_rfl) ?_ _
                  go_wp2
                  go_meet
                  case rel => exact ⟨true, rfl, .inl ⟨rfl, V', A4, c4, h6.out⟩⟩
                · skip
                  have s0 : w4.cell? ⟨X, 0, none⟩ = some (.string V.low) := BX4.out.cell' rfl
                  have z0 := BX4.out.frozen 0
                  have s1 : w4.cell? ⟨X, 1, none⟩ = some (.string V.high) := BX4.out.cell' rfl
                  have z1 := BX4.out.frozen 1
                  have s2 : w4.cell? ⟨X, 2, none⟩ = some (.bool V.unb) := BX4.out.cell' rfl
                  have z2 := BX4.out.frozen 2
                  have s3 : w4.cell? ⟨X, 3, none⟩ = some (.int .i64 V.right) := BX4.out.cell' rfl
                  have z3 := BX4.out.frozen 3
                  have s4 : w4.cell? ⟨X, 4, none⟩ = some (.slice A2 V.ents.length c2) := BX4.out.cell' rfl
                  have z4 := BX4.out.frozen 4
                  have s5 : w4.cell? ⟨X, 5, none⟩ = some (.bool V.held) := BX4.out.cell' rfl
                  have z5 := BX4.out.frozen 5
                  have s6 : w4.cell? ⟨X, 6, none⟩ = some (.int .i64 V.hp) := BX4.out.cell' rfl
                  have z6 := BX4.out.frozen 6
                  have s7 : w4.cell? ⟨X, 7, none⟩ = some (.int .i64 V.hl) := BX4.out.cell' rfl
                  have z7 := BX4.out.frozen 7
                  have s8 : w4.cell? ⟨X, 8, none⟩ = some (.string V.hk) := BX4.out.cell' rfl
                  have z8 := BX4.out.frozen 8
                  go_simp
                  clear s0 z0 s1 z1 s2 z2 s3 z3 s4 z4 s5 z5 s6 z6 s7 z7 s8 z8
                  have h6 := hid_ (HST.out _ (box9 BX4.out (.string V'.low) (.string V'.high) (.bool V'.unb) (.int .i64 V'.right) (.slice A4 V'.ents.length c4) (.bool V'.held) (.int .i64 V'.hp) (.int .i64 V'.hl) (.string V'.hk)))
                  refine wpAnyU_one (i := 8) rfl rfl (by kernel_rfl) ?_
                  go_simp
                  refine wpAnyU_one (i := 10) rfl rfl (by kernel_rfl) ?_
                  go_simp
                  refine wpAnyU_done (by kernel_rfl) ?_ _
                  go_wp2
                  go_meet
                  case rel => exact ⟨true, rfl, .inl ⟨rfl, V', A4, c4, h6.out⟩⟩
              · go_simp
                refine wpAnyU_one (i := 7) rfl rfl (by kernel_rfl) ?_
                go_simp
                have s0 : w4.cell? ⟨X, 0, none⟩ = some (.string V.low) := BX4.out.cell' rfl
                have z0 := BX4.out.frozen 0
                have s1 : w4.cell? ⟨X, 1, none⟩ = some (.string V.high) := BX4.out.cell' rfl
                have z1 := BX4.out.frozen 1
                have s2 : w4.cell? ⟨X, 2, none⟩ = some (.bool V.unb) := BX4.out.cell' rfl
                have z2 := BX4.out.frozen 2
                have s3 : w4.cell? ⟨X, 3, none⟩ = some (.int .i64 V.right) := BX4.out.cell' rfl
                have z3 := BX4.out.frozen 3
                have s4 : w4.cell? ⟨X, 4, none⟩ = some (.slice A2 V.ents.length c2) := BX4.out.cell' rfl
                have z4 := BX4.out.frozen 4
                have s5 : w4.cell? ⟨X, 5, none⟩ = some (.bool V.held) := BX4.out.cell' rfl
                have z5 := BX4.out.frozen 5
                have s6 : w4.cell? ⟨X, 6, none⟩ = some (.int .i64 V.hp) := BX4.out.cell' rfl
                have z6 := BX4.out.frozen 6
                have s7 : w4.cell? ⟨X, 7, none⟩ = some (.int .i64 V.hl) := BX4.out.cell' rfl
                have z7 := BX4.out.frozen 7
                have s8 : w4.cell? ⟨X, 8, none⟩ = some (.string V.hk) := BX4.out.cell' rfl
                have z8 := BX4.out.frozen 8
                refine wpAnyU_one (i := 9) rfl rfl (by kernel_rfl) ?_
                go_simp
                clear s0 z0 s1 z1 s2 z2 s3 z3 s4 z4 s5 z5 s6 z6 s7 z7 s8 z8
                have h6 := hid_ (HST.out _ (box9 BX4.out (.string V'.low) (.string V'.high) (.bool V'.unb) (.int .i64 V'.right) (.slice A4 V'.ents.length c4) (.bool V'.held) (.int .i64 V'.hp) (.int .i64 V'.hl) (.string V'.hk)))
                refine wpAnyU_one (i := 10) rfl rfl (by kernel_rfl) ?_
                go_simp
                refine wpAnyU_done (by kernel_rfl) ?_ _
                go_wp2
                go_meet
                case rel => exact ⟨true, rfl, .inl ⟨rfl, V', A4, c4, h6.out⟩⟩
            · have FW := hid_ (((Fr.refl none_ wr).drew : Fr none_ wr wr.drew).then_none hf4)
              have BX4 := hid_ (S2.out.bx.fr FW.out id)
              have BO4 := hid_ (S2.out.bo.fr FW.out id)
              have F4 := hid_ (S2.out.fr.then_none FW.out)
              have HUP := hid_ hup
              clear hup hf4
              refine ⟨FW.out, ?_⟩
              refine wpAnyU_take2 (i := 6) (v := _) rfl (by kernel_rfl) (by kernel_rfl) (by kernel_rfl) (by kernel_rfl) (fun _ _ _ h => h) (.inl ⟨by simp [Region.wanted], fun w' hS => by skip; go_simp; rfl⟩) FW.out ?_
              have hst' : ∀ w6, Blk w6 X 43 (vwA V (.slice A2 V.ents.length c2)) ∧ Fr (only X) w4 w6 → foldU ((L.drop j).map (·.R)) = none ∧ Blk w6 w.heap.size 43 (vwA Vw.zero (.slice none 0 0)) ∧ Fr none_ w w6 := fun w6 h6 => ⟨by rw [List.map_drop, HFO.out, HUP.out], BO4.out.fr h6.2 (only_ne (by omega)), F4.out.then_only h6.2 (.inr (by omega))⟩
              have HST := hid_ hst'
              clear hst'
              refine wpAnyU_two (i := 7) (j := 8) rfl rfl rfl rfl (by kernel_rfl) ?_ ?_
              · go_simp
                refine wpAnyU_two (i := 8) (j := 9) rfl rfl rfl rfl (by kernel_rfl) ?_ ?_
                · go_simp
                  have s0 : w4.cell? ⟨X, 0, none⟩ = some (.string V.low) := BX4.out.cell' rfl
                  have z0 := BX4.out.frozen 0
                  have s1 : w4.cell? ⟨X, 1, none⟩ = some (.string V.high) := BX4.out.cell' rfl
                  have z1 := BX4.out.frozen 1
                  have s2 : w4.cell? ⟨X, 2, none⟩ = some (.bool V.unb) := BX4.out.cell' rfl
                  have z2 := BX4.out.frozen 2
                  have s3 : w4.cell? ⟨X, 3, none⟩ = some (.int .i64 V.right) := BX4.out.cell' rfl
                  have z3 := BX4.out.frozen 3
                  have s4 : w4.cell? ⟨X, 4, none⟩ = some (.slice A2 V.ents.length c2) := BX4.out.cell' rfl
                  have z4 := BX4.out.frozen 4
                  have s5 : w4.cell? ⟨X, 5, none⟩ = some (.bool V.held) := BX4.out.cell' rfl
                  have z5 := BX4.out.frozen 5
                  have s6 : w4.cell? ⟨X, 6, none⟩ = some (.int .i64 V.hp) := BX4.out.cell' rfl
                  have z6 := BX4.out.frozen 6
                  have s7 : w4.cell? ⟨X, 7, none⟩ = some (.int .i64 V.hl) := BX4.out.cell' rfl
                  have z7 := BX4.out.frozen 7
                  have s8 : w4.cell? ⟨X, 8, none⟩ = some (.string V.hk) := BX4.out.cell' rfl
                  have z8 := BX4.out.frozen 8
                  refine wpAnyU_one (i := 9) rfl rfl (by kernel_rfl) ?_
                  go_simp
                  clear s0 z0 s1 z1 s2 z2 s3 z3 s4 z4 s5 z5 s6 z6 s7 z7 s8 z8
                  have h6 := hid_ (HST.out _ (box9 BX4.out (.string V.low) (.string V.high) (.bool V.unb) (.int .i64 V.right) (.slice A2 V.ents.length c2) (.bool V.held) (.int .i64 V.hp) (.int .i64 V.hl) (.string V.hk)))
                  refine wpAnyU_one (i := 10) rfl rfl (by kernel_rfl) ?_
                  go_simp
                  refine wpAnyU_done (by kernel_rfl) ?_ _
                  go_wp2
                  go_meet
                  case rel => exact ⟨false, rfl, .inr ⟨rfl, h6.out⟩⟩
                · skip
                  have s0 : w4.cell? ⟨X, 0, none⟩ = some (.string V.low) := BX4.out.cell' rfl
                  have z0 := BX4.out.frozen 0
                  have s1 : w4.cell? ⟨X, 1, none⟩ = some (.string V.high) := BX4.out.cell' rfl
                  have z1 := BX4.out.frozen 1
                  have s2 : w4.cell? ⟨X, 2, none⟩ = some (.bool V.unb) := BX4.out.cell' rfl
                  have z2 := BX4.out.frozen 2
                  have s3 : w4.cell? ⟨X, 3, none⟩ = some (.int .i64 V.right) := BX4.out.cell' rfl
                  have z3 := BX4.out.frozen 3
                  have s4 : w4.cell? ⟨X, 4, none⟩ = some (.slice A2 V.ents.length c2) := BX4.out.cell' rfl
                  have z4 := BX4.out.frozen 4
                  have s5 : w4.cell? ⟨X, 5, none⟩ = some (.bool V.held) := BX4.out.cell' rfl
                  have z5 := BX4.out.frozen 5
                  have s6 : w4.cell? ⟨X, 6, none⟩ = some (.int .i64 V.hp) := BX4.out.cell' rfl
                  have z6 := BX4.out.frozen 6
                  have s7 : w4.cell? ⟨X, 7, none⟩ = some (.int .i64 V.hl) := BX4.out.cell' rfl
                  have z7 := BX4.out.frozen 7
                  have s8 : w4.cell? ⟨X, 8, none⟩ = some (.string V.hk) := BX4.out.cell' rfl
                  have z8 := BX4.out.frozen 8
                  go_simp
                  clear s0 z0 s1 z1 s2 z2 s3 z3 s4 z4 s5 z5 s6 z6 s7 z7 s8 z8
                  have h6 := hid_ (HST.out _ (box9 BX4.out (.string V.low) (.string V.high) (.bool V.unb) (.int .i64 V.right) (.slice A2 V.ents.length c2) (.bool V.held) (.int .i64 V.hp) (.int .i64 V.hl) (.string V.hk)))
                  refine wpAnyU_one (i := 8) rfl rfl (by kernel_rfl) ?_
                  go_simp
                  refine wpAnyU_one (i := 10) rfl rfl (by kernel_rfl) ?_
                  go_simp
                  refine wpAnyU_done (by kernel_rfl) ?_ _
                  go_wp2
                  go_meet
                  case rel => exact ⟨false, rfl, .inr ⟨rfl, h6.out⟩⟩
              · go_simp
                refine wpAnyU_one (i := 7) rfl rfl (by kernel_rfl) ?_
                go_simp
                have s0 : w4.cell? ⟨X, 0, none⟩ = some (.string V.low) := BX4.out.cell' rfl
                have z0 := BX4.out.frozen 0
                have s1 : w4.cell? ⟨X, 1, none⟩ = some (.string V.high) := BX4.out.cell' rfl
                have z1 := BX4.out.frozen 1
                have s2 : w4.cell? ⟨X, 2, none⟩ = some (.bool V.unb) := BX4.out.cell' rfl
                have z2 := BX4.out.frozen 2
                have s3 : w4.cell? ⟨X, 3, none⟩ = some (.int .i64 V.right) := BX4.out.cell' rfl
                have z3 := BX4.out.frozen 3
                have s4 : w4.cell? ⟨X, 4, none⟩ = some (.slice A2 V.ents.length c2) := BX4.out.cell' rfl
                have z4 := BX4.out.frozen 4
                have s5 : w4.cell? ⟨X, 5, none⟩ = some (.bool V.held) := BX4.out.cell' rfl
                have z5 := BX4.out.frozen 5
                have s6 : w4.cell? ⟨X, 6, none⟩ = some (.int .i64 V.hp) := BX4.out.cell' rfl
                have z6 := BX4.out.frozen 6
                have s7 : w4.cell? ⟨X, 7, none⟩ = some (.int .i64 V.hl) := BX4.out.cell' rfl
                have z7 := BX4.out.frozen 7
                have s8 : w4.cell? ⟨X, 8, none⟩ = some (.string V.hk) := BX4.out.cell' rfl
                have z8 := BX4.out.frozen 8
                refine wpAnyU_one (i := 9) rfl rfl (by kernel_rfl) ?_
                go_simp
                clear s0 z0 s1 z1 s2 z2 s3 z3 s4 z4 s5 z5 s6 z6 s7 z7 s8 z8
                have h6 := hid_ (HST.out _ (box9 BX4.out (.string V.low) (.string V.high) (.bool V.unb) (.int .i64 V.right) (.slice A2 V.ents.length c2) (.bool V.held) (.int .i64 V.hp) (.int .i64 V.hl) (.string V.hk)))
                refine wpAnyU_one (i := 10) rfl rfl (by kernel_rfl) ?_
                go_simp
                refine wpAnyU_done (by kernel_rfl) ?_ _
                go_wp2
                go_meet
                case rel => exact ⟨false, rfl, .inr ⟨rfl, h6.out⟩⟩
end Go.Proofs.Ytpjbncbmdfmlpaa
namespace Go.Proofs.Ytpjbncbmdfmlpaa
open Go.RowKit
set_option linter.unusedVariables false

def Ris (L : List Et) : Prop := ∀ (i : Nat) (p q : Et), L[i]? = some p → L[i + 1]? = some q → ltS p.1 q.1 = true
theorem lt_of_some {α : Type} {L : List α} {i : Nat} {p : α} (h : L[i]? = some p) : i < L.length := (List.getElem?_eq_some_iff.1 h).1
theorem some_of_lt {α : Type} {L : List α} {i : Nat} (h : i < L.length) : ∃ p, L[i]? = some p := ⟨_, List.getElem?_eq_getElem h⟩
theorem Ris.lt {L : List Et} (h : Ris L) : ∀ {i j : Nat} {p q : Et}, i < j → L[i]? = some p → L[j]? = some q → ltS p.1 q.1 = true := by
  intro i j p q hij hp hq
  induction j generalizing q with
  | zero => omega
  | succ j ih =>
    obtain ⟨r, hr⟩ := some_of_lt (L := L) (i := j) (by have := lt_of_some hq; omega)
    have h2 := h j r q hr hq
    rcases Nat.lt_or_ge i j with h1 | h1
    · exact ltS_trans (ih h1 hr) h2
    · obtain rfl : i = j := by omega
      rw [hp] at hr
      cases hr
      exact h2
theorem plN_uniq {L : List Et} {key : ByteArray} {n : Nat} (h1 : ∀ (i : Nat) (p : Et), i < n → L[i]? = some p → ltS p.1 key = true) (h2 : n = L.length ∨ ∃ p, L[n]? = some p ∧ ltS p.1 key = false) : plN L key = n := by
  rcases Nat.lt_trichotomy (plN L key) n with h | h | h
  · obtain ⟨p, hp⟩ := some_of_lt (L := L) (i := plN L key) (by
      rcases h2 with e | ⟨p, hp, _⟩
      · omega
      · have := lt_of_some hp; omega)
    have a := h1 _ _ h hp
    rw [plN_at hp] at a
    cases a
  · exact h
  · rcases h2 with e | ⟨p, hp, hn⟩
    · have := plN_le L key; omega
    · have := plN_in h hp
      rw [hn] at this
      cases this
theorem atB_ex {L : List Et} {key : ByteArray} (h : atB L key = true) : ∃ p, L[plN L key]? = some p ∧ p.1 = key := by
  obtain ⟨p, hp⟩ := some_of_lt (atB_lt h)
  rw [atB_some hp] at h
  exact ⟨p, hp, sEq_iff.1 h⟩
theorem Ris.at {L : List Et} (h : Ris L) {i : Nat} {p : Et} (hp : L[i]? = some p) : plN L p.1 = i ∧ atB L p.1 = true := by
  have e : plN L p.1 = i := plN_uniq (fun j q hj hq => h.lt hj hq hp) (.inr ⟨p, hp, ltS_irrefl _⟩)
  exact ⟨e, by rw [atB_some (p := p) (by rw [e]; exact hp)]; exact sEq_self _⟩
/-- No entry of just that key: all from its place on are behind it. -/
theorem Ris.behind {L : List Et} (h : Ris L) {key : ByteArray} (hn : atB L key = false) {j : Nat} {q : Et} (hj : plN L key ≤ j) (hq : L[j]? = some q) : ltS key q.1 = true := by
  obtain ⟨p, hp⟩ := some_of_lt (L := L) (i := plN L key) (by have := lt_of_some hq; omega)
  have h1 := plN_at hp
  have h2 : p.1 ≠ key := fun e => by
    rw [atB_some hp, sEq_iff.2 e] at hn
    cases hn
  have h3 : ltS key p.1 = true := by
    rcases ltS_total p.1 key with h | h | h
    · rw [h1] at h; cases h
    · exact absurd h h2
    · exact h
  rcases Nat.lt_or_ge (plN L key) j with hl | hl
  · exact ltS_trans h3 (h.lt hl hp hq)
  · obtain rfl : plN L key = j := by omega
    rw [hp] at hq
    cases hq
    exact h3

theorem putL_get {L : List Et} {n : Nat} {p : Et} (hn : n ≤ L.length) (i : Nat) : (putL L n p)[i]? = if i < n then L[i]? else if i = n then some p else L[i - 1]? := by
  unfold putL
  by_cases h1 : i < n
  · rw [if_pos h1, List.append_assoc, List.getElem?_append_left (by simp; omega), List.getElem?_take, if_pos h1]
  · rw [if_neg h1]
    by_cases h2 : i = n
    · subst h2
      rw [if_pos rfl, List.append_assoc, List.getElem?_append_right (by simp; omega)]
      simp [Nat.min_eq_left hn]
    · rw [if_neg h2, List.getElem?_append_right (by simp; omega), List.getElem?_drop]
      congr 1
      simp
      omega
def cutL (L : List Et) (n : Nat) : List Et := L.take n ++ L.drop (n + 1)
theorem cutL_get {L : List Et} {n : Nat} (hn : n ≤ L.length) (i : Nat) : (cutL L n)[i]? = if i < n then L[i]? else L[i + 1]? := by
  unfold cutL
  by_cases h1 : i < n
  · rw [if_pos h1, List.getElem?_append_left (by simp; omega), List.getElem?_take, if_pos h1]
  · rw [if_neg h1, List.getElem?_append_right (by simp; omega), List.getElem?_drop]
    congr 1
    simp
    omega
theorem Ris.put {L : List Et} (h : Ris L) {key : ByteArray} {pg : Int} (hn : atB L key = false) : Ris (putL L (plN L key) (key, pg)) := by
  intro i p q hp hq
  have hle := plN_le L key
  rw [putL_get hle] at hp hq
  by_cases h1 : i + 1 < plN L key
  · rw [if_pos (by omega)] at hp
    rw [if_pos h1] at hq
    exact h i p q hp hq
  · rw [if_neg h1] at hq
    by_cases h2 : i + 1 = plN L key
    · rw [if_pos h2] at hq
      rw [if_pos (by omega)] at hp
      obtain rfl : (key, pg) = q := Option.some.inj hq
      have h4 : i < plN L key := by omega
      exact plN_in h4 hp
    · rw [if_neg h2] at hq
      rw [if_neg (by omega)] at hp
      have hle2 : plN L key ≤ i := by omega
      by_cases h3 : i = plN L key
      · rw [if_pos h3] at hp
        obtain rfl : (key, pg) = p := Option.some.inj hp
        exact h.behind hn (j := i + 1 - 1) (show plN L key ≤ i + 1 - 1 by rw [Nat.add_sub_cancel]; exact hle2) hq
      · rw [if_neg h3] at hp
        exact h (i - 1) p q hp (by rw [show i - 1 + 1 = i + 1 - 1 by omega]; exact hq)
theorem Ris.cut {L : List Et} (h : Ris L) {n : Nat} (hn : n ≤ L.length) : Ris (cutL L n) := by
  intro i p q hp hq
  rw [cutL_get hn] at hp hq
  by_cases h1 : i + 1 < n
  · rw [if_pos (by omega)] at hp
    rw [if_pos h1] at hq
    exact h i p q hp hq
  · rw [if_neg h1] at hq
    by_cases h2 : i < n
    · rw [if_pos h2] at hp
      exact h.lt (by omega) hp hq
    · rw [if_neg h2] at hp
      exact h (i + 1) p q hp hq
theorem Ris.take {L : List Et} (h : Ris L) (n : Nat) : Ris (L.take n) := by
  intro i p q hp hq
  rw [List.getElem?_take] at hp hq
  split at hp
  · split at hq
    · exact h i p q hp hq
    · cases hq
  · cases hp
theorem Ris.drop {L : List Et} (h : Ris L) (n : Nat) : Ris (L.drop n) := by
  intro i p q hp hq
  rw [List.getElem?_drop] at hp hq
  exact h (n + i) p q hp hq

theorem inS_iff {low high : ByteArray} {unb : Bool} {key : ByteArray} : inS low high unb key = true ↔ ltS key low = false ∧ (unb = true ∨ ltS key high = true) := by
  unfold inS
  cases ltS key low <;> cases unb <;> simp
theorem Sound.rise {V : Vw} (h : Sound V) : Ris V.ents := h.ris
structure Good (V : Vw) : Prop where
  s : Sound V
  h : V.held = true → atB V.ents V.hk = true ∧ plN V.ents V.hk ≠ 0
theorem pl_low {V : Vw} (h : Sound V) {key : ByteArray} (hi : inS V.low V.high V.unb key = true) (hn : atB V.ents key = false) : plN V.ents key ≠ 0 := by
  intro e
  obtain ⟨p, hp, hl⟩ := h.head
  have := h.rise.behind hn (j := 0) (by omega) hp
  rw [hl] at this
  rw [(inS_iff.1 hi).1] at this
  cases this
theorem sound_put {V : Vw} (h : Sound V) {key : ByteArray} {pg : Int} (hi : inS V.low V.high V.unb key = true) (hn : atB V.ents key = false) : Sound { V with ents := putL V.ents (plN V.ents key) (key, pg) } := by
  have h0 := pl_low h hi hn
  refine ⟨?_, h.high, fun p hp => ?_, h.rise.put hn⟩
  · obtain ⟨p, hp, hl⟩ := h.head
    exact ⟨p, by show (putL _ _ _)[0]? = _; rw [putL_get (plN_le _ _), if_pos (by omega)]; exact hp, hl⟩
  · simp only [putL, List.mem_append, List.mem_cons, List.not_mem_nil, or_false] at hp
    rcases hp with (hp | rfl) | hp
    · exact h.inn p (List.mem_of_mem_take hp)
    · exact hi
    · exact h.inn p (List.mem_of_mem_drop hp)
theorem sound_cut {V : Vw} (h : Sound V) {n : Nat} (h0 : n ≠ 0) (hn : n ≤ V.ents.length) : Sound { V with ents := cutL V.ents n } := by
  refine ⟨?_, h.high, fun p hp => ?_, h.rise.cut hn⟩
  · obtain ⟨p, hp, hl⟩ := h.head
    exact ⟨p, by show (cutL _ _)[0]? = _; rw [cutL_get hn, if_pos (by omega)]; exact hp, hl⟩
  · simp only [cutL, List.mem_append] at hp
    rcases hp with hp | hp
    · exact h.inn p (List.mem_of_mem_take hp)
    · exact h.inn p (List.mem_of_mem_drop hp)
/-- The left part of a view. -/
theorem sound_left {V : Vw} (h : Sound V) {n : Nat} {q : Et} (h0 : n ≠ 0) (hq : V.ents[n]? = some q) : Sound { V with ents := V.ents.take n, high := q.1, unb := false } := by
  refine ⟨?_, fun e => by (cases e), fun p hp => ?_, h.rise.take n⟩
  · obtain ⟨p, hp, hl⟩ := h.head
    exact ⟨p, by show (List.take _ _)[0]? = _; rw [List.getElem?_take, if_pos (by omega)]; exact hp, hl⟩
  · obtain ⟨i, hi⟩ := List.mem_iff_getElem?.1 hp
    rw [List.getElem?_take] at hi
    split at hi
    · have := h.inn p (List.mem_of_getElem? hi)
      exact inS_iff.2 ⟨(inS_iff.1 this).1, .inr (h.rise.lt (by omega) hi hq)⟩
    · cases hi
theorem up_good {V V' : Vw} {R : Rc} (h : upM V R = some V') (g : Good V) : Good V' := by
  unfold upM at h
  split at h
  · rename_i h8
    split at h
    · cases h
    · rename_i hn
      cases h
      have h1 : atB V.ents R.key = false := by
        cases e : atB V.ents R.key with
        | false => rfl
        | true => exact absurd (.inl e) hn
      have h2 : inS V.low V.high V.unb R.key = true := by
        cases e : inS V.low V.high V.unb R.key with
        | true => rfl
        | false => exact absurd (.inr e) hn
      exact ⟨sound_put g.s h2 h1, fun e => by
        have e : V.held = true := e
        rw [h8.2] at e
        cases e⟩
  · split at h
    · rename_i h9
      split at h
      · cases h
      · rename_i hn
        cases h
        have h1 : atB V.ents R.key = true := by
          cases e : atB V.ents R.key with
          | true => rfl
          | false => exact absurd (.inl e) hn
        have h2 : plN V.ents R.key ≠ 0 := fun e => hn (.inr e)
        obtain ⟨q, hq, e⟩ := atB_ex h1
        have := sound_left g.s h2 hq
        rw [e] at this
        exact ⟨⟨this.head, fun e => by (cases e), this.inn, this.ris⟩, fun e => by
          have e : V.held = true := e
          rw [h9.2] at e
          cases e⟩
    · split at h
      · split at h
        · cases h
        · rename_i hn
          cases h
          have h1 : atB V.ents R.hkey = true := by
            cases e : atB V.ents R.hkey with
            | true => rfl
            | false => exact absurd (.inl e) hn
          exact ⟨⟨g.s.head, g.s.high, g.s.inn, g.s.ris⟩, fun _ => ⟨h1, fun e => hn (.inr (.inl e))⟩⟩
      · split at h
        · rename_i h11
          cases h
          obtain ⟨h1, h2⟩ := g.h h11.2
          have := sound_cut g.s h2 (plN_le V.ents V.hk)
          exact ⟨⟨this.head, this.high, this.inn, this.ris⟩, fun e => by (cases e)⟩
        · cases h
theorem fold_good : ∀ {l : List Rc} {V : Vw}, foldU l = some V → Good V
  | [], V, h => by (cases h)
  | [b], V, h => by
    simp only [foldU] at h
    split at h
    · rename_i hs
      cases h
      exact ⟨hs.2, fun e => by (cases e)⟩
    · cases h
  | r :: s :: t, V, h => by
    rw [foldU_cons r (by simp)] at h
    obtain ⟨U, hU, hV⟩ := Option.bind_eq_some_iff.1 h
    exact up_good hV (fold_good hU)

def ChildAt (L : List Et) (key : ByteArray) (i : Nat) (p : Et) : Prop := L[i]? = some p ∧ ltS key p.1 = false ∧ ∀ q, L[i + 1]? = some q → ltS key q.1 = true
theorem Ris.child {L : List Et} (h : Ris L) {key : ByteArray} {i : Nat} {p : Et} (hn : ndN L key = i + 1) (hp : L[i]? = some p) : ChildAt L key i p := by
  unfold ndN at hn
  split at hn
  · rename_i ha
    obtain ⟨q, hq, e⟩ := atB_ex ha
    obtain rfl : plN L key = i := by omega
    rw [hq] at hp
    cases hp
    exact ⟨hq, by rw [e]; exact ltS_irrefl _, fun r hr => by rw [← e]; exact h _ _ _ hq hr⟩
  · rename_i ha
    have ha : atB L key = false := by simpa using ha
    exact ⟨hp, ltS_asymm (plN_in (by omega) hp), fun q hq => h.behind ha (by omega) hq⟩
theorem Sound.child {V : Vw} (h : Sound V) {key : ByteArray} (hi : inS V.low V.high V.unb key = true) : ∃ i p, ChildAt V.ents key i p ∧ childM V key = some p := by
  have h0 : ndN V.ents key ≠ 0 := by
    unfold ndN
    split
    · omega
    · rename_i ha
      have := pl_low h hi (by simpa using ha)
      omega
  obtain ⟨p, hp⟩ := some_of_lt (L := V.ents) (i := ndN V.ents key - 1) (by have := ndN_le V.ents key; omega)
  refine ⟨ndN V.ents key - 1, p, h.rise.child (by omega) hp, ?_⟩
  unfold childM
  rw [if_pos ⟨hi, h0⟩]
  exact hp
theorem Sound.child_none {V : Vw} (h : Sound V) {key : ByteArray} (hn : childM V key = none) : inS V.low V.high V.unb key = false := by
  cases e : inS V.low V.high V.unb key with
  | false => rfl
  | true =>
    obtain ⟨i, p, _, hp⟩ := h.child e
    rw [hn] at hp
    cases hp
theorem upM_split {V : Vw} {R : Rc} (h : R.kind = 9) (hh : V.held = false) (hn : ¬ (atB V.ents R.key = false ∨ plN V.ents R.key = 0)) : upM V R = some { V with ents := V.ents.take (plN V.ents R.key), high := R.key, unb := false, right := R.page } := by
  unfold upM
  rw [if_neg (fun e => by have := e.1; rw [h] at this; revert this; decide), if_pos ⟨h, hh⟩, if_neg hn]
theorem upM_drop {V : Vw} {R : Rc} (h : R.kind = 11) (hh : V.held = true) :
    upM V R = some { V with ents := V.ents.take (plN V.ents V.hk) ++ V.ents.drop (plN V.ents V.hk + 1), held := false, hp := 0, hl := 0, hk := nilS } := by
  unfold upM
  rw [if_neg (fun e => by have := e.1; rw [h] at this; revert this; decide), if_neg (fun e => by have := e.1; rw [h] at this; revert this; decide), if_neg (fun e => by have := e.1; rw [h] at this; revert this; decide), if_pos ⟨h, hh⟩]
end Go.Proofs.Ytpjbncbmdfmlpaa
namespace Go.Proofs.Ytpjbncbmdfmlpaa
open Go.RowKit Go.BigFrame
set_option maxRecDepth 100000
set_option linter.unusedVariables false

set_option maxHeartbeats 4000000 in
theorem rsoundV_ok (V : Vw) (A : Option Addr) (c : Nat) (w : World) (h : VwIn w V A c) :
    Calls Try.prog 97 #[vwV V (.slice A V.ents.length c)] w (SoundPost V w) := by
  obtain ⟨w0, hw0⟩ : ∃ w0, w0 = w.alloc (.cells (vwA V (.slice A V.ents.length c)) 66) := ⟨_, rfl⟩
  have f0 : Fr none_ w w0 := by rw [hw0]; exact (Fr.refl none_ w).alloc _
  have F0 := hid_ f0
  have H0 := hid_ (h.keep f0)
  have B0 : Hid (Blk w0 w.heap.size 66 (vwA V (.slice A V.ents.length c))) := hid_ (by rw [hw0]; exact Blk.new w _ _)
  have h1000 := h.ok.ents.1
  have OK := hid_ h.ok
  have v0 : w0.cell? ⟨w.heap.size, 0, none⟩ = some (.string V.low) := B0.out.cell' rfl
  have v1 : w0.cell? ⟨w.heap.size, 1, none⟩ = some (.string V.high) := B0.out.cell' rfl
  have v2 : w0.cell? ⟨w.heap.size, 2, none⟩ = some (.bool V.unb) := B0.out.cell' rfl
  have v4 : w0.cell? ⟨w.heap.size, 4, none⟩ = some (.slice A V.ents.length c) := B0.out.cell' rfl
  clear h f0
  by_cases hl0 : V.ents.length = 0
  · have hne : ¬ Sound V := fun h => by
      obtain ⟨p, hp, _⟩ := h.head
      rw [List.getElem?_eq_none (by omega)] at hp
      cases hp
    have HNE := hid_ hne
    rw [hl0] at v4 hw0
    rw [hl0]
    clear hl0 hne
    go_enter Try.func97, Try.ntmps97
    go_wp2_with fail
    change Code.wp _ _ _ _ (w.alloc (.cells (vwA V (.slice A 0 c)) 66))
    rw [← hw0]
    clear hw0
    go_quiet (fail)
    go_wp2_with fail
    go_ret
    exact ⟨false, rfl, ⟨(fun h => by cases h), fun h => absurd h HNE.out⟩, F0.out.drewN _⟩
  obtain ⟨p0, hp0⟩ : ∃ p, V.ents[0]? = some p := ⟨_, List.getElem?_eq_getElem (by omega)⟩
  obtain ⟨b, off, rfl, hb, c0, c1⟩ := et_at H0.out.rd hp0
  have hd0 : decide ((0 : Int) < (V.ents.length : Int)) = true := by simp; omega
  have hd0' : ((V.ents.length : Int) == 0) = false := beq_eq_false_iff_ne.2 (by omega)
  have hi1 : (0 : Int) < (V.ents.length : Int) := by omega
  simp only [Nat.zero_mul, Nat.add_zero] at c0
  have HP0 := hid_ hp0
  have HL0 := hid_ hl0
  clear hp0 c1 hl0
  by_cases hlow : p0.1 = V.low
  case neg =>
    have hne : ¬ Sound V := fun h => by
      obtain ⟨p, hp, e⟩ := h.head
      rw [HP0.out] at hp
      cases hp
      exact hlow e
    have HNE := hid_ hne
    have hs1 := sEq_ne hlow
    unfold sEq at hs1
    have hs2 : (p0.1.toList != V.low.toList) = true := by simpa [bne] using hs1
    clear hne hlow
    go_enter Try.func97, Try.ntmps97
    go_wp2_with fail
    change Code.wp _ _ _ _ (w.alloc (.cells (vwA V (.slice (some ⟨b, off, none⟩) V.ents.length c)) 66))
    rw [← hw0]
    clear hw0
    go_quiet (fail)
    go_wp2_with fail
    go_ret
    exact ⟨false, rfl, ⟨(fun h => by cases h), fun h => absurd h HNE.out⟩, F0.out.drewN _⟩
  have hs1 : (p0.1.toList == V.low.toList) = true := sEq_iff.2 hlow
  have hs2 : (p0.1.toList != V.low.toList) = false := by simpa [bne] using hs1
  have HLOW := hid_ hlow
  clear hlow
  by_cases hhi : V.unb = true ∧ V.high ≠ nilS
  · have hne : ¬ Sound V := fun h => hhi.2 (h.high hhi.1)
    have HNE := hid_ hne
    rw [hhi.1] at v2
    have hh : V.high.toList.isEmpty = false := by
      cases e : V.high.toList.isEmpty with
      | false => rfl
      | true => exact absurd (ba_eq (by rw [← ba_toList, List.isEmpty_iff.1 e])) hhi.2
    have hh2 : (!V.high.toList.isEmpty) = true := by rw [hh]; rfl
    clear hne hhi
    go_enter Try.func97, Try.ntmps97
    go_wp2_with fail
    change Code.wp _ _ _ _ (w.alloc (.cells (vwA V (.slice (some ⟨b, off, none⟩) V.ents.length c)) 66))
    rw [← hw0]
    clear hw0
    go_quiet (fail)
    go_wp2_with fail
    go_ret
    exact ⟨false, rfl, ⟨(fun h => by cases h), fun h => absurd h HNE.out⟩, F0.out.drewN _⟩
  have HHI : Hid (V.unb = true → V.high = nilS) := hid_ (fun hu => Classical.byContradiction fun hn => hhi ⟨hu, hn⟩)
  clear hhi
  go_enter Try.func97, Try.ntmps97
  go_upto_region 1 with fail
  change Code.wp _ _ _ _ (w.alloc (.cells (vwA V (.slice (some ⟨b, off, none⟩) V.ents.length c)) 66))
  rw [← hw0]
  clear hw0
  go_cut [26] (fun v wq => v = .bool false ∧ Fr none_ w0 wq)
  case first =>
    cases hu : V.unb with
    | false =>
      rw [hu] at v2
      clear hu
      go_quiet (fail)
      go_wp2
      go_meet
      case rel => exact ⟨rfl, (Fr.refl none_ w0).drewN _⟩
    | true =>
      have hh := HHI.out hu
      rw [hu] at v2
      rw [hh] at v1
      clear hu hh
      go_quiet (fail)
      go_wp2
      go_meet
      case rel => exact ⟨rfl, (Fr.refl none_ w0).drewN _⟩
  case rest =>
  obtain ⟨rfl, hf⟩ := hcut
  have B1 := hid_ (B0.out.fr hf id)
  have F1 := hid_ (F0.out.then_none hf)
  have H1 := hid_ (H0.out.keep hf)
  clear hf v0 v1 v2 v4 c0 hs1 hs2 hd0 hd0'
  have v4 : wc.cell? ⟨w.heap.size, 4, none⟩ = some (.slice (some ⟨b, off, none⟩) V.ents.length c) := B1.out.cell' rfl
  go_wp2_with fail
  clear v4 F0 H0 B0
  go_loopw [3] (fun i wr => ∃ k : Nat, k ≤ V.ents.length ∧ i = .int .i64 k ∧ SoundTo V k ∧ Fr none_ wc wr) (fun i _ => V.ents.length - (intOf i).toNat)
  case atStart => exact ⟨0, Nat.zero_le _, rfl, ⟨fun j p hj => by omega, fun j p q hj => by omega⟩, Fr.refl _ _⟩
  case round =>
    obtain ⟨k, hk, rfl, hst, hF⟩ := hrel
    have ST := hid_ hst
    have B := hid_ (B1.out.fr hF id)
    have H := hid_ (H1.out.keep hF)
    have F := hid_ (F1.out.then_none hF)
    have FC := hid_ hF
    clear hst hF
    have hi0 : (0 : Int) ≤ (k : Int) := Int.natCast_nonneg _
    have vv4 : wr.cell? ⟨w.heap.size, 4, none⟩ = some (.slice (some ⟨b, off, none⟩) V.ents.length c) := B.out.cell' rfl
    by_cases hlt : k < V.ents.length
    · have hi1' : (k : Int) < (V.ents.length : Int) := by omega
      obtain ⟨p, hp⟩ : ∃ p, V.ents[k]? = some p := ⟨_, List.getElem?_eq_getElem hlt⟩
      obtain ⟨b2, off2, hA, hb2, c0, c1⟩ := et_at H.out.rd hp
      obtain ⟨rfl, rfl⟩ : b = b2 ∧ off = off2 := by injection hA with hA; injection hA with e1 e2; exact ⟨e1, e2⟩
      have HP := hid_ hp
      clear hp hA
      have B2 := B
      have H2 := H
      go_upto_region 6 with fail
      obtain ⟨w2, rfl⟩ : ∃ z : World, z = wr := ⟨_, rfl⟩
      have F2 := FC
      have hpk := OK.out.ents.2 p (List.mem_of_getElem? HP.out)
      have HPK := hid_ hpk
      clear hpk
      go_cut [63] (fun v wq => ∃ bb : Bool, v = .bool bb ∧ (bb = false ↔ (inS V.low V.high V.unb p.1 = true ∧ ∀ q, 0 < k → V.ents[k - 1]? = some q → ltS q.1 p.1 = true)) ∧ Fr none_ w2 wq)
      case first =>
        have v0 : w2.cell? ⟨w.heap.size, 0, none⟩ = some (.string V.low) := B2.out.cell' rfl
        have v1 : w2.cell? ⟨w.heap.size, 1, none⟩ = some (.string V.high) := B2.out.cell' rfl
        have v2 : w2.cell? ⟨w.heap.size, 2, none⟩ = some (.bool V.unb) := B2.out.cell' rfl
        have v3 : w2.cell? ⟨w.heap.size, 3, none⟩ = some (.int .i64 V.right) := B2.out.cell' rfl
        have v4 : w2.cell? ⟨w.heap.size, 4, none⟩ = some (.slice (some ⟨b, off, none⟩) V.ents.length c) := B2.out.cell' rfl
        have v5 : w2.cell? ⟨w.heap.size, 5, none⟩ = some (.bool V.held) := B2.out.cell' rfl
        have v6 : w2.cell? ⟨w.heap.size, 6, none⟩ = some (.int .i64 V.hp) := B2.out.cell' rfl
        have v7 : w2.cell? ⟨w.heap.size, 7, none⟩ = some (.int .i64 V.hl) := B2.out.cell' rfl
        have v8 : w2.cell? ⟨w.heap.size, 8, none⟩ = some (.string V.hk) := B2.out.cell' rfl
        have y0 : ∀ x : Wx w2, x.to.cell? ⟨w.heap.size, 0, none⟩ = some (.string V.low) := fun x => x.cell v0
        have y1 : ∀ x : Wx w2, x.to.cell? ⟨w.heap.size, 1, none⟩ = some (.string V.high) := fun x => x.cell v1
        have y2 : ∀ x : Wx w2, x.to.cell? ⟨w.heap.size, 2, none⟩ = some (.bool V.unb) := fun x => x.cell v2
        have y3 : ∀ x : Wx w2, x.to.cell? ⟨w.heap.size, 3, none⟩ = some (.int .i64 V.right) := fun x => x.cell v3
        have y4 : ∀ x : Wx w2, x.to.cell? ⟨w.heap.size, 4, none⟩ = some (.slice (some ⟨b, off, none⟩) V.ents.length c) := fun x => x.cell v4
        have y5 : ∀ x : Wx w2, x.to.cell? ⟨w.heap.size, 5, none⟩ = some (.bool V.held) := fun x => x.cell v5
        have y6 : ∀ x : Wx w2, x.to.cell? ⟨w.heap.size, 6, none⟩ = some (.int .i64 V.hp) := fun x => x.cell v6
        have y7 : ∀ x : Wx w2, x.to.cell? ⟨w.heap.size, 7, none⟩ = some (.int .i64 V.hl) := fun x => x.cell v7
        have y8 : ∀ x : Wx w2, x.to.cell? ⟨w.heap.size, 8, none⟩ = some (.string V.hk) := fun x => x.cell v8
        have z0 : ∀ x : Wx w2, x.to.cell? ⟨b, off + k * 2, none⟩ = some (.string p.1) := fun x => x.cell c0
        clear v0 v1 v2 v3 v4 v5 v6 v7 v8 c0 c1
        cases hin : inS V.low V.high V.unb p.1 with
        | false =>
          have HC : Hid (∀ x : Wx w2, Calls Try.prog 98 #[vwV V (.slice (some ⟨b, off, none⟩) V.ents.length c), .string p.1] x.to fun e w' => e = .returned (.bool false) ∧ Fr none_ x.to w') := hid_ (fun x => by
            have h := rvin_ok V (.slice (some ⟨b, off, none⟩) V.ents.length c) p.1 x.to OK.out.low OK.out.high HPK.out
            rwa [hin] at h)
          have HIN := hid_ hin
          clear hin
          refine wp_region_quiet_x (by kernel_rfl) (by kernel_rfl) ?_
          repeat (first | go_big_quiet_step ((go_at_call 98; exact Calls.quiet_x (HC.out _))) | quiet_step ((go_at_call 98; exact Calls.quiet_x (HC.out _))))
          refine wpQuiet_nil ?_
          intro _ hw'
          obtain ⟨xq, hw''⟩ := hw'
          subst hw''
          go_wp2
          go_meet
          case rel => exact ⟨true, rfl, ⟨(fun h => by cases h), fun h => by rw [HIN.out] at h; cases h.1⟩, xq.fr⟩
        | true =>
          have HC : Hid (∀ x : Wx w2, Calls Try.prog 98 #[vwV V (.slice (some ⟨b, off, none⟩) V.ents.length c), .string p.1] x.to fun e w' => e = .returned (.bool true) ∧ Fr none_ x.to w') := hid_ (fun x => by
            have h := rvin_ok V (.slice (some ⟨b, off, none⟩) V.ents.length c) p.1 x.to OK.out.low OK.out.high HPK.out
            rwa [hin] at h)
          have HIN := hid_ hin
          clear hin
          by_cases hk0 : 0 < k
          · obtain ⟨q, hq⟩ : ∃ q, V.ents[k - 1]? = some q := ⟨_, List.getElem?_eq_getElem (by omega)⟩
            obtain ⟨b3, off3, hA, hb3, d0, d1⟩ := et_at H2.out.rd hq
            obtain ⟨rfl, rfl⟩ : b = b3 ∧ off = off3 := by injection hA with hA; injection hA with e1 e2; exact ⟨e1, e2⟩
            have e0 : ∀ x : Wx w2, x.to.cell? ⟨b, off + (k - 1) * 2, none⟩ = some (.string q.1) := fun x => x.cell d0
            have hqk := OK.out.ents.2 q (List.mem_of_getElem? hq)
            have HQK := hid_ hqk
            have HQ := hid_ hq
            have HQ' : Hid ((∀ q', 0 < k → V.ents[k - 1]? = some q' → ltS q'.1 p.1 = true) ↔ ltS q.1 p.1 = true) := hid_ ⟨fun h => h q hk0 hq, fun h q' _ hq' => by rw [hq] at hq'; cases hq'; exact h⟩
            have HC2 : Hid (∀ x : Wx w2, Calls Try.prog 74 #[.string q.1, .string p.1] x.to fun e w' => e = .returned (.bool (ltS q.1 p.1)) ∧ Fr none_ x.to w') := hid_ (fun x => (before_ok q.1 p.1 x.to HQK.out.le HPK.out.le).mono (by rintro e w' ⟨rfl, n, rfl⟩; exact ⟨rfl, (Fr.refl none_ _).drewN n⟩))
            have hw1 : IntKind.i64.wrap ((k : Int) - 1) = ((k - 1 : Nat) : Int) := by rw [show (k : Int) - 1 = ((k - 1 : Nat) : Int) by omega]; exact IntWalk.i64_in _ (by omega)
            have hdk : decide (0 < k) = true := decide_eq_true hk0
            have hj0 : (0 : Int) ≤ ((k - 1 : Nat) : Int) := Int.natCast_nonneg _
            have hj1 : ((k - 1 : Nat) : Int) < (V.ents.length : Int) := by omega
            obtain ⟨j, hj⟩ : ∃ j, j = k - 1 := ⟨_, rfl⟩
            rw [← hj] at e0 hw1 hj0 hj1
            have HJ := hid_ hj
            clear hq hA d0 d1 hqk hj hk0
            refine wp_region_quiet_x (by kernel_rfl) (by kernel_rfl) ?_
            repeat (first | go_big_quiet_step ((first | (go_at_call 98; exact Calls.quiet_x (HC.out _)) | (go_at_call 74; exact Calls.quiet_x (HC2.out _)))) | quiet_step ((first | (go_at_call 98; exact Calls.quiet_x (HC.out _)) | (go_at_call 74; exact Calls.quiet_x (HC2.out _)))))
            refine wpQuiet_nil ?_
            intro _ hw'
            obtain ⟨xq, hw''⟩ := hw'
            subst hw''
            go_wp2
            go_meet
            case rel => exact ⟨_, rfl, by
              rw [HIN.out, HQ'.out]
              cases ltS q.1 p.1 <;> simp, xq.fr⟩
          · have hdk : decide (0 < k) = false := decide_eq_false hk0
            have hk0' : k = 0 := by omega
            have HK0 := hid_ hk0'
            clear hk0 hk0'
            refine wp_region_quiet_x (by kernel_rfl) (by kernel_rfl) ?_
            repeat (first | go_big_quiet_step ((go_at_call 98; exact Calls.quiet_x (HC.out _))) | quiet_step ((go_at_call 98; exact Calls.quiet_x (HC.out _))))
            refine wpQuiet_nil ?_
            intro _ hw'
            obtain ⟨xq, hw''⟩ := hw'
            subst hw''
            go_wp2
            go_meet
            case rel => exact ⟨false, rfl, ⟨fun _ => ⟨HIN.out, fun q h => by have := HK0.out; omega⟩, fun _ => rfl⟩, xq.fr⟩
      case rest =>
      obtain ⟨bb, rfl, hbb, hf⟩ := hcut
      have F3 := hid_ (F2.out.then_none hf)
      have HB := hid_ hbb
      clear hf hbb B2 H2 F2
      cases bb with
      | true =>
        have hns : ¬ Sound V := fun hS => by
          have h := HB.out.2 ⟨hS.inn p (List.mem_of_getElem? HP.out), fun q h0 hq => hS.ris (k - 1) q p hq (by rw [show k - 1 + 1 = k by omega]; exact HP.out)⟩
          cases h
        have HNS := hid_ hns
        clear hns
        go_wp2_with fail
        go_ret
        exact ⟨false, rfl, ⟨(fun h => by cases h), fun h => absurd h HNS.out⟩, F1.out.then_none F3.out⟩
      | false =>
        have hst : SoundTo V (k + 1) := by
          have h := HB.out.1 rfl
          refine ⟨fun j p' hj hp' => ?_, fun j p' q hj hp' hq => ?_⟩
          · rcases Nat.lt_succ_iff_lt_or_eq.1 hj with hj | rfl
            · exact ST.out.1 j p' hj hp'
            · rw [HP.out] at hp'; cases hp'; exact h.1
          · rcases Nat.lt_succ_iff_lt_or_eq.1 hj with hj | hj
            · exact ST.out.2 j p' q hj hp' hq
            · rw [hj, HP.out] at hq
              cases hq
              exact h.2 p' (by omega) (by rw [show k - 1 = j by omega]; exact hp')
        have HST := hid_ hst
        clear hst
        go_wp2_with fail
        go_roundw
        case rel => exact ⟨k + 1, by omega, by go_num, HST.out, F3.out⟩
        case measure => simp [intOf]; omega
    · obtain rfl : k = V.ents.length := by omega
      have hS : Sound V := ⟨⟨p0, HP0.out, HLOW.out⟩, HHI.out, fun p hp => by obtain ⟨j, hj, e⟩ := List.mem_iff_getElem.1 hp; exact ST.out.1 j p hj (by rw [List.getElem?_eq_getElem hj, e]), fun j p q hp hq => ST.out.2 j p q (List.getElem?_eq_some_iff.1 hq).1 hp hq⟩
      have HS := hid_ hS
      clear hS
      go_wp2_with fail
      go_ret
      exact ⟨true, rfl, ⟨fun _ => HS.out, fun _ => rfl⟩, F.out⟩
set_option maxHeartbeats 4000000 in
theorem rahead8_ok (V : Vw) (A : Option Addr) (c : Nat) (key : ByteArray) (w : World) (h : VwIn w V A c) (hk : SzOk key) :
    Calls Try.prog 99 #[vwV V (.slice A V.ents.length c), .string key] w fun e w' => e = .returned (.int .i64 (plN V.ents key : Nat)) ∧ Fr none_ w w' := by
  obtain ⟨w0, hw0⟩ : ∃ w0, w0 = w.alloc (.cells (vwA V (.slice A V.ents.length c)) 66) := ⟨_, rfl⟩
  have f0 : Fr none_ w w0 := by rw [hw0]; exact (Fr.refl none_ w).alloc _
  have F0 := hid_ f0
  have H0 := hid_ (h.keep f0)
  have B0 : Hid (Blk w0 w.heap.size 66 (vwA V (.slice A V.ents.length c))) := hid_ (by rw [hw0]; exact Blk.new w _ _)
  have hle := plN_le V.ents key
  have h1000 := h.ok.ents.1
  have HSZ := hid_ (And.intro h.ok.ents.2 hk)
  clear h f0 hk
  go_enter Try.func99, Try.ntmps99
  go_wp2_with fail
  change Code.wp _ _ _ _ (w.alloc (.cells (vwA V (.slice A V.ents.length c)) 66))
  rw [← hw0]
  clear hw0
  go_loopw [5] (fun i wr => ∃ k : Nat, k ≤ plN V.ents key ∧ i = .int .i64 k ∧ Fr none_ w0 wr) (fun i _ => plN V.ents key - (intOf i).toNat)
  case atStart => exact ⟨0, Nat.zero_le _, rfl, Fr.refl _ _⟩
  case round =>
    obtain ⟨k, hk, rfl, hF⟩ := hrel
    have B := hid_ (B0.out.fr hF id)
    have H := hid_ (H0.out.keep hF)
    have F := hid_ hF
    clear hF
    have v4 : wr.cell? ⟨w.heap.size, 4, none⟩ = some (.slice A V.ents.length c) := B.out.cell' rfl
    have hi0 : (0 : Int) ≤ (k : Int) := Int.natCast_nonneg _
    by_cases hlt : k < plN V.ents key
    · have hkl : k < V.ents.length := by omega
      have hi1 : (k : Int) < (V.ents.length : Int) := by omega
      have hd1 : decide ((k : Int) < (V.ents.length : Int)) = true := by simp; omega
      obtain ⟨p, hp⟩ : ∃ p, V.ents[k]? = some p := ⟨_, List.getElem?_eq_getElem hkl⟩
      obtain ⟨b, off, rfl, hb, c0, c1⟩ := et_at H.out.rd hp
      have hcmp : ltS p.1 key = true := plN_in hlt hp
      have hsz := HSZ.out.1 p (List.mem_of_getElem? hp)
      have HCMP := hid_ hcmp
      clear hp hcmp c1
      go_wp2_with fail
      refine (before_ok p.1 key _ hsz.le HSZ.out.2.le).mono ?_
      rintro e w1 ⟨rfl, q, rfl⟩
      rw [HCMP.out]
      have FQ := hid_ (F.out.drewN q)
      clear v4 c0
      go_wp2_with fail
      go_roundw
      case rel => exact ⟨k + 1, by omega, by go_num, FQ.out⟩
      case measure => simp [intOf]; omega
    · obtain rfl : k = plN V.ents key := by omega
      by_cases hl : plN V.ents key < V.ents.length
      · obtain ⟨p, hp⟩ : ∃ p, V.ents[plN V.ents key]? = some p := ⟨_, List.getElem?_eq_getElem hl⟩
        obtain ⟨b, off, rfl, hb, c0, c1⟩ := et_at H.out.rd hp
        have hcmp : ltS p.1 key = false := plN_at hp
        have hsz := HSZ.out.1 p (List.mem_of_getElem? hp)
        have hat := atB_some hp
        obtain ⟨n, hn⟩ : ∃ n, n = plN V.ents key := ⟨_, rfl⟩
        have hi1 : (n : Int) < (V.ents.length : Int) := by omega
        have hd1 : decide ((n : Int) < (V.ents.length : Int)) = true := by simp; omega
        have hd2 : decide (n < V.ents.length) = true := by simp; omega
        rw [← hn] at c0 c1 hi0
        rw [← hn]
        have HCMP := hid_ hcmp
        have HAT := hid_ hat
        have HN := hid_ hn
        clear hp hcmp c1 hl hlt hat hn hk hle
        go_wp2_with fail
        refine (before_ok p.1 key _ hsz.le HSZ.out.2.le).mono ?_
        rintro e w1 ⟨rfl, q, rfl⟩
        rw [HCMP.out]
        have FQ := hid_ (F.out.drewN q)
        go_wp2_with fail
        go_ret
        exact ⟨by rw [← HN.out]; rfl, F0.out.then_none (by repeat (first | exact FQ.out | apply Fr.drewN | apply Fr.drew))⟩
      · have he : plN V.ents key = V.ents.length := by omega
        have hat := atB_none he
        have HAT := hid_ hat
        have HE := hid_ he
        have hd1 : decide ((V.ents.length : Int) < (V.ents.length : Int)) = false := by simp
        rw [he]
        clear he hat hl hlt hk hle
        go_wp2_with fail
        go_ret
        exact ⟨by rw [HE.out]; rfl, F0.out.then_none (by repeat (first | exact F.out | apply Fr.drewN | apply Fr.drew))⟩

end Go.Proofs.Ytpjbncbmdfmlpaa
namespace Go.Proofs.Ytpjbncbmdfmlpaa
open Go.RowKit
set_option linter.unusedVariables false
section
variable {P : Program} {fn : Func} (tmps : Array Value) (w : World)
/-- A function's results that lie in boxes, read whole. -/
theorem results_cell7 {t : Tmp} {ty : TypeId} (h : fn.results = #[.cell t ty]) (b o : Nat) (cs : List Value) (d : TypeDesc) (ha : tmps.getD t undef = .pointer (some ⟨b, o, none⟩)) (hc : w.rangeAt b o cs)
    (hu : P.underlying ty = some d) (hd : d.isRow = true) (hi : (P.info? ty).map (·.size) = some cs.length) : (results fn tmps).run P w = .ok (.agg cs.toArray) w := by
  have hl := run_loadVar_mid (P := P) w b o ty cs d hc hu hd hi
  have ha' : tmps[t]?.getD undef = .pointer (some ⟨b, o, none⟩) := by simpa using ha
  simp [results, h, ha', asAddr, hl]
theorem results_cell_tmp7 {t s : Tmp} {ty : TypeId} (h : fn.results = #[.cell t ty, .tmp s]) (b o : Nat) (cs : List Value) (d : TypeDesc) (ha : tmps.getD t undef = .pointer (some ⟨b, o, none⟩)) (hc : w.rangeAt b o cs)
    (hu : P.underlying ty = some d) (hd : d.isRow = true) (hi : (P.info? ty).map (·.size) = some cs.length) : (results fn tmps).run P w = .ok (.tuple #[.agg cs.toArray, tmps.getD s undef]) w := by
  have hl := run_loadVar_mid (P := P) w b o ty cs d hc hu hd hi
  have ha' : tmps[t]?.getD undef = .pointer (some ⟨b, o, none⟩) := by simpa using ha
  simp [results, h, ha', asAddr, hl]
theorem results_cell_cell7 {t s : Tmp} {ty ty2 : TypeId} (h : fn.results = #[.cell t ty, .cell s ty2]) (b o : Nat) (cs : List Value) (d : TypeDesc) (ha : tmps.getD t undef = .pointer (some ⟨b, o, none⟩)) (hc : w.rangeAt b o cs)
    (hu : P.underlying ty = some d) (hd : d.isRow = true) (hi : (P.info? ty).map (·.size) = some cs.length)
    (b2 o2 : Nat) (cs2 : List Value) (d2 : TypeDesc) (ha2 : tmps.getD s undef = .pointer (some ⟨b2, o2, none⟩)) (hc2 : w.rangeAt b2 o2 cs2)
    (hu2 : P.underlying ty2 = some d2) (hd2 : d2.isRow = true) (hi2 : (P.info? ty2).map (·.size) = some cs2.length) : (results fn tmps).run P w = .ok (.tuple #[.agg cs.toArray, .agg cs2.toArray]) w := by
  have hl := run_loadVar_mid (P := P) w b o ty cs d hc hu hd hi
  have hl2 := run_loadVar_mid (P := P) w b2 o2 ty2 cs2 d2 hc2 hu2 hd2 hi2
  have ha' : tmps[t]?.getD undef = .pointer (some ⟨b, o, none⟩) := by simpa using ha
  have ha2' : tmps[s]?.getD undef = .pointer (some ⟨b2, o2, none⟩) := by simpa using ha2
  simp [results, h, ha', ha2', asAddr, hl, hl2]
theorem results_cell_cell_tmp7 {t s r : Tmp} {ty ty2 : TypeId} (h : fn.results = #[.cell t ty, .cell s ty2, .tmp r]) (b o : Nat) (cs : List Value) (d : TypeDesc) (ha : tmps.getD t undef = .pointer (some ⟨b, o, none⟩)) (hc : w.rangeAt b o cs)
    (hu : P.underlying ty = some d) (hd : d.isRow = true) (hi : (P.info? ty).map (·.size) = some cs.length)
    (b2 o2 : Nat) (cs2 : List Value) (d2 : TypeDesc) (ha2 : tmps.getD s undef = .pointer (some ⟨b2, o2, none⟩)) (hc2 : w.rangeAt b2 o2 cs2)
    (hu2 : P.underlying ty2 = some d2) (hd2 : d2.isRow = true) (hi2 : (P.info? ty2).map (·.size) = some cs2.length) : (results fn tmps).run P w = .ok (.tuple #[.agg cs.toArray, .agg cs2.toArray, tmps.getD r undef]) w := by
  have hl := run_loadVar_mid (P := P) w b o ty cs d hc hu hd hi
  have hl2 := run_loadVar_mid (P := P) w b2 o2 ty2 cs2 d2 hc2 hu2 hd2 hi2
  have ha' : tmps[t]?.getD undef = .pointer (some ⟨b, o, none⟩) := by simpa using ha
  have ha2' : tmps[s]?.getD undef = .pointer (some ⟨b2, o2, none⟩) := by simpa using ha2
  simp [results, h, ha', ha2', asAddr, hl, hl2]
end
end Go.Proofs.Ytpjbncbmdfmlpaa
namespace Go.Proofs.Ytpjbncbmdfmlpaa
open Go.RowKit
set_option maxRecDepth 100000
set_option linter.unusedVariables false

set_option maxHeartbeats 2000000 in
theorem clone_big (R : Rc) (A : Option Addr) (c : Nat) (B : Option Addr) (d : Nat) (w : World) (h : RecReads w R A B) (hr : R.rows.length ≤ 4398046511104) (he : R.ents.length ≤ 1000) :
    Calls Try.prog 23 #[recV R (.slice A R.rows.length c) (.slice B R.ents.length d)] w (ClonePost R w) := by
  obtain ⟨i0, hi0, hz0, hs0, hb0⟩ := info_parts row_info
  obtain ⟨j0, hj0, hy0, ht0, hc0⟩ := info_parts entry_info
  have Hi := hid_ (And.intro hi0 (And.intro hz0 (And.intro hs0 hb0)))
  have Hj := hid_ (And.intro hj0 (And.intro hy0 (And.intro ht0 hc0)))
  have H := hid_ h
  clear hi0 hz0 hs0 hb0 hj0 hy0 ht0 hc0 h
  go_enter Try.func23, Try.ntmps23
  go_wp2_with (first
    | (at_builtin; refine wpList_append_any _ rfl (.tmp 3) (.tmp 5) 36 rfl w.heap.size 62 i0 _ 2 32 Try.underlying36 Hi.out.1 Hi.out.2.1 Hi.out.2.2.1 Hi.out.2.2.2 rfl (by omega) (.slice (some ⟨w.heap.size + 1 + 1, 0, none⟩) 0 0) 0 [] rfl (own_empty_at _ _ _ _ _ (by simp; omega) (by simp)) A R.rows.length c (rwFlat R.rows) rfl (((H.out.r.alloc _).alloc _).alloc _) (rwFlat_one _) (by simp only [maxLen]; omega) (by omega) (by simp; omega) ?_; intro A1 c1 w3 hown3 hgr3; have hp := clone_packA (vr := .slice A R.rows.length c) (ve := .slice B R.ents.length d) H.out hown3 hgr3; have HP := hid_ hp; have e6 : w3.cell? ⟨w.heap.size, 6, none⟩ = some (.slice B R.ents.length d) := hp.k0.cell' rfl; have e5 : w3.cell? ⟨w.heap.size, 5, none⟩ = some (.slice A R.rows.length c) := hp.k0.cell' rfl; have f5 := hp.k0.frozen 5; have l3 := hp.k0.lt; clear hown3 hgr3 hp)
    | (at_builtin; refine wpList_append_any _ rfl (.tmp 8) (.tmp 10) 39 rfl w.heap.size 64 j0 _ 2 24 Try.underlying39 Hj.out.1 Hj.out.2.1 Hj.out.2.2.1 Hj.out.2.2.2 rfl (by omega) (.slice (some ⟨w3.heap.size, 0, none⟩) 0 0) 0 [] rfl (own_empty_at _ _ _ _ _ (by simp; omega) (by simp)) B R.ents.length d (etFlat R.ents) rfl (HP.out.rd5 H.out) (etFlat_one _) (by simp only [maxLen]; omega) (by omega) (by simp; omega) ?_; intro A2 c2 w5 hown5 hgr5; have hp := clone_packB HP.out hown5 hgr5; have HQ := hid_ hp; have r0 : w5.cell? ⟨w.heap.size, 0, none⟩ = some (.int .i64 R.kind) := hp.k0.cell' rfl; have r1 : w5.cell? ⟨w.heap.size, 1, none⟩ = some (.string R.low) := hp.k0.cell' rfl; have r2 : w5.cell? ⟨w.heap.size, 2, none⟩ = some (.string R.high) := hp.k0.cell' rfl; have r3 : w5.cell? ⟨w.heap.size, 3, none⟩ = some (.bool R.unb) := hp.k0.cell' rfl; have r4 : w5.cell? ⟨w.heap.size, 4, none⟩ = some (.int .i64 R.right) := hp.k0.cell' rfl; have r5 : w5.cell? ⟨w.heap.size, 5, none⟩ = some (.slice A1 R.rows.length c1) := hp.k0.cell' rfl; have r6 : w5.cell? ⟨w.heap.size, 6, none⟩ = some (.slice B R.ents.length d) := hp.k0.cell' rfl; have r7 : w5.cell? ⟨w.heap.size, 7, none⟩ = some (.string R.key) := hp.k0.cell' rfl; have r8 : w5.cell? ⟨w.heap.size, 8, none⟩ = some (.string R.val) := hp.k0.cell' rfl; have r9 : w5.cell? ⟨w.heap.size, 9, none⟩ = some (.int .i64 R.page) := hp.k0.cell' rfl; have r10 : w5.cell? ⟨w.heap.size, 10, none⟩ = some (.int .i64 R.hpage) := hp.k0.cell' rfl; have r11 : w5.cell? ⟨w.heap.size, 11, none⟩ = some (.int .i64 R.hleft) := hp.k0.cell' rfl; have r12 : w5.cell? ⟨w.heap.size, 12, none⟩ = some (.string R.hkey) := hp.k0.cell' rfl; have r13 : w5.cell? ⟨w.heap.size, 13, none⟩ = some (.int .i64 R.nslot) := hp.k0.cell' rfl; have r14 : w5.cell? ⟨w.heap.size, 14, none⟩ = some (.int .i64 R.ngen) := hp.k0.cell' rfl; have fr6 := hp.k0.frozen 6; have s0 : w5.cell? ⟨w.heap.size + 1, 0, none⟩ = some (.int .i64 0) := hp.k1.cell' rfl; have s1 : w5.cell? ⟨w.heap.size + 1, 1, none⟩ = some (.string nilS) := hp.k1.cell' rfl; have s2 : w5.cell? ⟨w.heap.size + 1, 2, none⟩ = some (.string nilS) := hp.k1.cell' rfl; have s3 : w5.cell? ⟨w.heap.size + 1, 3, none⟩ = some (.bool false) := hp.k1.cell' rfl; have s4 : w5.cell? ⟨w.heap.size + 1, 4, none⟩ = some (.int .i64 0) := hp.k1.cell' rfl; have s5 : w5.cell? ⟨w.heap.size + 1, 5, none⟩ = some (.slice none 0 0) := hp.k1.cell' rfl; have s6 : w5.cell? ⟨w.heap.size + 1, 6, none⟩ = some (.slice none 0 0) := hp.k1.cell' rfl; have s7 : w5.cell? ⟨w.heap.size + 1, 7, none⟩ = some (.string nilS) := hp.k1.cell' rfl; have s8 : w5.cell? ⟨w.heap.size + 1, 8, none⟩ = some (.string nilS) := hp.k1.cell' rfl; have s9 : w5.cell? ⟨w.heap.size + 1, 9, none⟩ = some (.int .i64 0) := hp.k1.cell' rfl; have s10 : w5.cell? ⟨w.heap.size + 1, 10, none⟩ = some (.int .i64 0) := hp.k1.cell' rfl; have s11 : w5.cell? ⟨w.heap.size + 1, 11, none⟩ = some (.int .i64 0) := hp.k1.cell' rfl; have s12 : w5.cell? ⟨w.heap.size + 1, 12, none⟩ = some (.string nilS) := hp.k1.cell' rfl; have s13 : w5.cell? ⟨w.heap.size + 1, 13, none⟩ = some (.int .i64 0) := hp.k1.cell' rfl; have s14 : w5.cell? ⟨w.heap.size + 1, 14, none⟩ = some (.int .i64 0) := hp.k1.cell' rfl; have z0 := hp.k1.frozen 0; have z1 := hp.k1.frozen 1; have z2 := hp.k1.frozen 2; have z3 := hp.k1.frozen 3; have z4 := hp.k1.frozen 4; have z5 := hp.k1.frozen 5; have z6 := hp.k1.frozen 6; have z7 := hp.k1.frozen 7; have z8 := hp.k1.frozen 8; have z9 := hp.k1.frozen 9; have z10 := hp.k1.frozen 10; have z11 := hp.k1.frozen 11; have z12 := hp.k1.frozen 12; have z13 := hp.k1.frozen 13; have z14 := hp.k1.frozen 14; clear hown5 hgr5 hp))
  clear r0 s0 z0 r1 s1 z1 r2 s2 z2 r3 s3 z3 r4 s4 z4 r5 s5 z5 r6 s6 z6 r7 s7 z7 r8 s8 z8 r9 s9 z9 r10 s10 z10 r11 s11 z11 r12 s12 z12 r13 s13 z13 r14 s14 z14 fr6 e5 e6 f5
  have F6 := Fr.only1 w5 ⟨w.heap.size, 6, none⟩ (.slice A2 R.ents.length c2)
  have K1 := HQ.out.k1.fr F6 (only_ne (by simp))
  obtain ⟨qb, qf⟩ := box15 K1 (.int .i64 R.kind) (.string R.low) (.string R.high) (.bool R.unb) (.int .i64 R.right) (.slice A1 R.rows.length c1) (.slice A2 R.ents.length c2) (.string R.key) (.string R.val) (.int .i64 R.page) (.int .i64 R.hpage) (.int .i64 R.hleft) (.string R.hkey) (.int .i64 R.nslot) (.int .i64 R.ngen)
  have q0 := qb.cell' (i := 0) rfl
  have q1 := qb.cell' (i := 1) rfl
  have q2 := qb.cell' (i := 2) rfl
  have q3 := qb.cell' (i := 3) rfl
  have q4 := qb.cell' (i := 4) rfl
  have q5 := qb.cell' (i := 5) rfl
  have q6 := qb.cell' (i := 6) rfl
  have q7 := qb.cell' (i := 7) rfl
  have q8 := qb.cell' (i := 8) rfl
  have q9 := qb.cell' (i := 9) rfl
  have q10 := qb.cell' (i := 10) rfl
  have q11 := qb.cell' (i := 11) rfl
  have q12 := qb.cell' (i := 12) rfl
  have q13 := qb.cell' (i := 13) rfl
  have q14 := qb.cell' (i := 14) rfl
  have O1 := own_fr (own_fr HQ.out.o1 F6 (fun k hk e => own_blk_ne HQ.out.o1 HQ.out.k0 (by decide) (by rw [hk, show k = w.heap.size from e]))) qf (fun k hk e => own_blk_ne HQ.out.o1 HQ.out.k1 (by decide) (by rw [hk, show k = w.heap.size + 1 from e]))
  have O2 := own_fr (own_fr HQ.out.o2 F6 (fun k hk e => own_blk_ne HQ.out.o2 HQ.out.k0 (by decide) (by rw [hk, show k = w.heap.size from e]))) qf (fun k hk e => own_blk_ne HQ.out.o2 HQ.out.k1 (by decide) (by rw [hk, show k = w.heap.size + 1 from e]))
  have G := (HQ.out.f5.then_only F6 (.inr (Nat.le_refl _))).then_only qf (.inr (by omega))
  clear K1 F6 qb qf
  refine bodyPost_ret (v := recV R (.slice A1 R.rows.length c1) (.slice A2 R.ents.length c2)) ?_ rfl ⟨A1, c1, A2, c2, rfl, ⟨O1, O2⟩, G⟩
  simp [results, Try.results23, go_sem, q0, q1, q2, q3, q4, q5, q6, q7, q8, q9, q10, q11, q12, q13, q14]
end Go.Proofs.Ytpjbncbmdfmlpaa
namespace Go.Proofs.Ytpjbncbmdfmlpaa
open Go.RowKit Go.BigFrame
set_option maxRecDepth 100000
set_option linter.unusedVariables false

def recFlat (L : List Ch) : List Value := (L.map recL).flatten
theorem recFlat_app (L M : List Ch) : recFlat (L ++ M) = recFlat L ++ recFlat M := by simp [recFlat]
theorem record_info : (Try.prog.info? 58).map (fun i => (i.zero, i.size, i.bytes)) = some (some (.agg recZ8), 15, 192) := by kernel_rfl
/-- A record of the call's own. -/
structure ChOwn (w : World) (C : Ch) : Prop where
  own : RecOwn w 0 C.R (.slice C.A C.R.rows.length C.c) (.slice C.B C.R.ents.length C.d)
  low : SzOk C.R.low
  high : SzOk C.R.high
  key : SzOk C.R.key
  hkey : SzOk C.R.hkey
  ents : EtsOk C.R.ents
theorem ChOwn.ok {w : World} {C : Ch} (h : ChOwn w C) : ChOk w C := by
  obtain ⟨A', c', e, h1, h2, _⟩ := own_parts h.own.e
  have e1 : C.B = A' ∧ C.d = c' := by injection e with e1 e2 e3; exact ⟨e1, e3⟩
  exact ⟨h.own.reads, h.low, h.high, h.key, h.hkey, h.ents, by rw [e1.2]; exact h1, by rw [e1.2]; exact h2⟩
theorem ChOwn.keep {w w' : World} {C : Ch} (h : ChOwn w C) (hf : Fr none_ w w') : ChOwn w' C := ⟨h.own.keep hf, h.low, h.high, h.key, h.hkey, h.ents⟩
theorem ChOwn.beside {w w' : World} {C : Ch} (h : ChOwn w C) {base n : Nat} {v : Value} {xs : List Value} (ho : w.ownsRow base 58 15 v n xs) (hg : w.grownBy w' v.ownBlock) : ChOwn w' C := by
  refine ⟨?_, h.low, h.high, h.key, h.hkey, h.ents⟩
  have hf : Fr (fun k => v.ownBlock = some k) w w' := (Fr.refl _ w).grown hg (fun k hk => .inl hk)
  exact h.own.fr hf (fun k hk e => own_own_ne h.own.r ho (by decide) k hk e) (fun k hk e => own_own_ne h.own.e ho (by decide) k hk e)
end Go.Proofs.Ytpjbncbmdfmlpaa
namespace Go.Proofs.Ytpjbncbmdfmlpaa
open Go.RowKit Go.BigFrame
set_option maxRecDepth 100000
set_option linter.unusedVariables false

abbrev pgA (n hs hg : Int) (vc vr : Value) (leaf : Bool) (lv : Lw) (sl : Value) (iv : Vw) (si : Value) : Array Value := #[.int .i64 n, .int .i64 hs, .int .i64 hg, vc, vr, .bool leaf, .string lv.low, .string lv.high, .bool lv.unb, .int .i64 lv.right, sl, .bool lv.gone, .string iv.low, .string iv.high, .bool iv.unb, .int .i64 iv.right, si, .bool iv.held, .int .i64 iv.hp, .int .i64 iv.hl, .string iv.hk]
abbrev pgZ : Array Value := #[.int .i64 0, .int .i64 0, .int .i64 0, .slice none 0 0, .slice none 0 0, .bool false, .string ⟨#[]⟩, .string ⟨#[]⟩, .bool false, .int .i64 0, .slice none 0 0, .bool false, .string ⟨#[]⟩, .string ⟨#[]⟩, .bool false, .int .i64 0, .slice none 0 0, .bool false, .int .i64 0, .int .i64 0, .string ⟨#[]⟩]
theorem page_size : (Try.prog.info? 45).map (·.size) = some 21 := by kernel_rfl
theorem pref_info : (Try.prog.info? 33).map (fun i => (i.zero, i.size, i.bytes)) = some (some (.agg #[.int .i64 0, .int .i64 0]), 2, 16) := by kernel_rfl
/-- A row of refs, flat. -/
def rpFlat (L : List (Int × Int)) : List Value := (L.map fun p => [.int .i64 p.1, .int .i64 p.2]).flatten
theorem rpFlat_one (L : List (Int × Int)) : ∀ u ∈ rpFlat L, u.oneCell' = true := by
  intro u hu
  simp only [rpFlat, List.mem_flatten, List.mem_map] at hu
  obtain ⟨l, ⟨p, _, rfl⟩, hu⟩ := hu
  simp only [List.mem_cons, List.not_mem_nil, or_false] at hu
  rcases hu with rfl | rfl <;> rfl
theorem upM_kind {V V' : Vw} {R : Rc} (h : upM V R = some V') : KindOk R := by
  unfold upM at h
  unfold KindOk
  split at h
  · omega
  split at h
  · omega
  split at h
  · omega
  split at h
  · omega
  · cases h
theorem foldU_kind : ∀ {l : List Rc} {V : Vw}, foldU l = some V → ∀ R ∈ l, KindOk R
  | [], V, h, R, hR => by cases hR
  | [b], V, h, R, hR => by
    obtain rfl : R = b := by simpa using hR
    unfold foldU at h
    split at h
    · rename_i hb; unfold KindOk; omega
    · cases h
  | r :: s :: t, V, h, R, hR => by
    rw [foldU_cons _ (by simp)] at h
    cases hf : foldU (s :: t) with
    | none => rw [hf] at h; cases h
    | some V0 =>
      rw [hf] at h
      rcases List.mem_cons.1 hR with rfl | hR
      · exact upM_kind h
      · exact foldU_kind hf R hR
theorem foldU_no {l : List Rc} (h : (∀ R ∈ l, KindOk R) → foldU l = none) : foldU l = none := by
  cases hf : foldU l with
  | none => rfl
  | some V => rw [h (foldU_kind hf)] at hf; cases hf
theorem upL_kind {V V' : Lw} {R : Rc} (h : upL V R = some V') : KindL R := by
  unfold upL at h
  unfold KindL
  split at h
  · cases h
  split at h
  · omega
  split at h
  · omega
  split at h
  · omega
  split at h
  · omega
  split at h
  · omega
  · cases h
theorem foldL_kind : ∀ {l : List Rc} {V : Lw}, foldL l = some V → ∀ R ∈ l, KindL R
  | [], V, h, R, hR => by cases hR
  | [b], V, h, R, hR => by
    obtain rfl : R = b := by simpa using hR
    unfold foldL at h
    split at h
    · rename_i hb; unfold KindL; omega
    · cases h
  | r :: s :: t, V, h, R, hR => by
    rw [foldL_cons _ (by simp)] at h
    cases hf : foldL (s :: t) with
    | none => rw [hf] at h; cases h
    | some V0 =>
      rw [hf] at h
      rcases List.mem_cons.1 hR with rfl | hR
      · exact upL_kind h
      · exact foldL_kind hf R hR
theorem foldL_bad {l : List Rc} (h : ∃ R ∈ l, ¬ KindL R) : foldL l = none := by
  obtain ⟨R, hR, hn⟩ := h
  cases hf : foldL l with
  | none => rfl
  | some V => exact absurd (foldL_kind hf R hR) hn
theorem LwIn.base {b0 b : Nat} {w : World} {V : Lw} {A : Option Addr} {c : Nat} (h : LwIn b w V A c) (hb : b0 ≤ b) : LwIn b0 w V A c := ⟨own_base h.own hb, h.ok⟩
def leafB (l : List Rc) : Bool := match l[l.length - 1]? with
  | some R => decide (R.kind = 1)
  | none => false
/-- What a chain's page is: is it a leaf, and its views. -/
noncomputable def ofM (l : List Rc) : Option (Bool × Lw × Vw) :=
  if leafB l then (foldL l).map fun v => (true, v, Vw.zero) else (foldU l).map fun v => (false, Lw.zero, v)
/-- A page that Of told. -/
structure PgIn (b0 : Nat) (w : World) (L : List Rc) (refs : List (Int × Int)) (lv : Lw) (iv : Vw) (A : Option Addr) (c : Nat) (B : Option Addr) (d : Nat) (C : Option Addr) (x : Nat) (D : Option Addr) (y : Nat) : Prop where
  lv : LwIn b0 w lv A c
  iv : VwIn w iv B d
  ch : ∃ Cs : List Ch, Cs.map (·.R) = L ∧ w.ownsRow b0 58 15 (.slice C L.length x) L.length (recFlat Cs) ∧ ∀ E ∈ Cs, ChOwn w E
  rf : w.ownsRow b0 33 2 (.slice D refs.length y) refs.length (rpFlat refs)
def OfPost (n hs hg : Int) (L : List Rc) (refs : List (Int × Int)) (w : World) (e : Ending) (w' : World) : Prop :=
  (∃ leaf lv iv A c B d C x D y, ofM L = some (leaf, lv, iv) ∧ e = .returned (.tuple #[.agg (pgA n hs hg (.slice C L.length x) (.slice D refs.length y) leaf lv (.slice A lv.rows.length c) iv (.slice B iv.ents.length d)), .nilIface]) ∧ PgIn w.heap.size w' L refs lv iv A c B d C x D y ∧ Fr none_ w w') ∨
  (∃ k : Int, (k = 9 ∨ k = 10) ∧ ofM L = none ∧ e = .returned (.tuple #[.agg pgZ, errV k]) ∧ Fr none_ w w')
theorem ChOwn.only {w w' : World} {C : Ch} {g : Nat} {t : TypeId} {cs : Array Value} (h : ChOwn w C) (hf : Fr (only g) w w') (hg : Blk w g t cs) (h1 : 62 ≠ t) (h2 : 64 ≠ t) : ChOwn w' C := ⟨h.own.only hf hg h1 h2, h.low, h.high, h.key, h.hkey, h.ents⟩
/-- A page's box is none of its entries' rows: no text stands ahead of a number in it. -/
theorem VwIn.farP {w w' : World} {V : Vw} {A : Option Addr} {c X : Nat} {n hs hg : Int} {vc vr sl si : Value} {leaf : Bool} {lv : Lw} {iv : Vw} (h : VwIn w V A c) (hX : Blk w X 45 (pgA n hs hg vc vr leaf lv sl iv si)) (hsl : ∃ A n c, sl = .slice A n c) (hsi : ∃ A n c, si = .slice A n c) (hvr : ∃ A n c, vr = .slice A n c) (hf : Fr (only X) w w') : VwIn w' V A c := by
  refine ⟨?_, h.cap, h.capm, h.ok⟩
  rcases Nat.eq_zero_or_pos V.ents.length with h0 | h0
  · exact ⟨h.rd.1, fun hn => absurd hn (by omega)⟩
  · obtain ⟨p, hp⟩ : ∃ p, V.ents[0]? = some p := ⟨_, List.getElem?_eq_getElem h0⟩
    obtain ⟨b, off, rfl, hb, c0, c1⟩ := et_at h.rd hp
    refine h.rd.fr hf (fun ad e => ?_)
    cases e
    intro e
    have e' : b = X := e
    subst e'
    rw [hX.cell] at c0 c1
    simp only [Nat.zero_mul, Nat.add_zero] at c0 c1
    obtain ⟨_, _, _, rfl⟩ := hsl
    obtain ⟨_, _, _, rfl⟩ := hsi
    obtain ⟨_, _, _, rfl⟩ := hvr
    match off, c0, c1 with
    | 0, c0, c1 => simp at c0
    | 1, c0, c1 => simp at c0
    | 2, c0, c1 => simp at c0
    | 3, c0, c1 => simp at c1
    | 4, c0, c1 => simp at c0
    | 5, c0, c1 => simp at c0
    | 6, c0, c1 => simp at c1
    | 7, c0, c1 => simp at c1
    | 8, c0, c1 => simp at c0
    | 9, c0, c1 => simp at c0
    | 10, c0, c1 => simp at c0
    | 11, c0, c1 => simp at c0
    | 12, c0, c1 => simp at c1
    | 13, c0, c1 => simp at c1
    | 14, c0, c1 => simp at c0
    | 15, c0, c1 => simp at c0
    | 16, c0, c1 => simp at c0
    | 17, c0, c1 => simp at c0
    | 18, c0, c1 => simp at c0
    | 19, c0, c1 => simp at c0
    | 20, c0, c1 => simp at c1
    | k + 21, c0, c1 => simp at c0
/-- .. kept where a page's box was turned. -/
theorem PgIn.far {b0 : Nat} {w w' : World} {L : List Rc} {refs : List (Int × Int)} {lv : Lw} {iv : Vw} {A : Option Addr} {c : Nat} {B : Option Addr} {d : Nat} {C : Option Addr} {x : Nat} {D : Option Addr} {y X : Nat} {n hs hg : Int} {vc vr sl si : Value} {leaf : Bool} {lv' : Lw} {iv' : Vw} (h : PgIn b0 w L refs lv iv A c B d C x D y) (hX : Blk w X 45 (pgA n hs hg vc vr leaf lv' sl iv' si)) (hsl : ∃ A n c, sl = .slice A n c) (hsi : ∃ A n c, si = .slice A n c) (hvr : ∃ A n c, vr = .slice A n c) (hf : Fr (only X) w w') : PgIn b0 w' L refs lv iv A c B d C x D y := by
  obtain ⟨Cs, h1, h2, h3⟩ := h.ch
  refine ⟨h.lv.far hX (by decide) hf, h.iv.farP hX hsl hsi hvr hf, ⟨Cs, h1, own_fr h2 hf (fun k hk e => own_blk_ne h2 hX (by decide) (by rw [hk, show k = X from e])), fun E hE => (h3 E hE).only hf hX (by decide) (by decide)⟩, own_fr h.rf hf (fun k hk e => own_blk_ne h.rf hX (by decide) (by rw [hk, show k = X from e]))⟩
def OfCut (n hs hg : Int) (L : List Rc) (refs : List (Int × Int)) (w : World) (X : Nat) (u : Value) (wq : World) : Prop :=
  (∃ leaf lv iv A c B d C x D y, ofM L = some (leaf, lv, iv) ∧ u = .nilIface ∧ Blk wq X 45 (pgA n hs hg (.slice C L.length x) (.slice D refs.length y) leaf lv (.slice A lv.rows.length c) iv (.slice B iv.ents.length d)) ∧ PgIn w.heap.size wq L refs lv iv A c B d C x D y ∧ Blk wq (w.heap.size + 1) 45 pgZ ∧ Fr none_ w wq) ∨
  (∃ k : Int, (k = 9 ∨ k = 10) ∧ ofM L = none ∧ u = errV k ∧ Blk wq (w.heap.size + 1) 45 pgZ ∧ Fr none_ w wq)
theorem LwIn.zero (b0 : Nat) (w : World) : LwIn b0 w Lw.zero none 0 := ⟨World.ownsRow_nil _ _ _ _, ⟨SzOk.nil, SzOk.nil, by show (0:Nat) ≤ 300000; omega, fun p hp => by simp [Lw.zero] at hp⟩⟩
theorem VwIn.zero (w : World) : VwIn w Vw.zero none 0 := ⟨Reads.nil_, Nat.le_refl _, by simp, ⟨SzOk.nil, SzOk.nil, SzOk.nil, ⟨by show (0:Nat) ≤ 1000; omega, fun p hp => by simp [Vw.zero] at hp⟩⟩⟩
/-- The page in its box, with the chain up to k. -/
structure OfSt (n hs hg : Int) (L : List Ch) (refs : List (Int × Int)) (w : World) (X k : Nat) (wr : World) : Prop where
  st : ∃ (vc vr : Value) (Cs : List Ch), Cs.length = k ∧ Cs.map (·.R) = (L.take k).map (·.R) ∧ Blk wr X 45 (pgA n hs hg vc vr false Lw.zero (.slice none 0 0) Vw.zero (.slice none 0 0)) ∧ wr.ownsRow w.heap.size 58 15 vc k (recFlat Cs) ∧ (∀ C ∈ Cs, ChOwn wr C) ∧ wr.ownsRow w.heap.size 33 2 vr refs.length (rpFlat refs)
  bo : Blk wr (w.heap.size + 1) 45 pgZ
  fr : Fr none_ w wr
theorem OfSt.keep {n hs hg : Int} {L : List Ch} {refs : List (Int × Int)} {w w1 w2 : World} {X k : Nat} (h : OfSt n hs hg L refs w X k w1) (hf : Fr none_ w1 w2) : OfSt n hs hg L refs w X k w2 := by
  obtain ⟨vc, vr, Cs, h1, h2, h3, h4, h5, h6⟩ := h.st
  exact ⟨⟨vc, vr, Cs, h1, h2, h3.fr hf id, own_none h4 hf, fun C hC => (h5 C hC).keep hf, own_none h6 hf⟩, h.bo.fr hf id, h.fr.then_none hf⟩
set_option maxHeartbeats 8000000 in
theorem of_ok (n hs hg : Int) (A : Option Addr) (m cap : Nat) (L : List Ch) (refs : List (Int × Int)) (RA : Option Addr) (rc : Nat) (w : World) (h : ChReads w A m L) (hn : m ≤ 400) (hs7 : RwOkL L) (he : ∀ C ∈ L, C.R.ents.length ≤ 500) (hr : Reads w 2 RA refs.length (rpFlat refs)) (hrl : refs.length ≤ 5000) :
    Calls Try.prog 24 #[.int .i64 n, .agg #[.int .i64 hs, .int .i64 hg], .slice A m cap, .slice RA refs.length rc] w (OfPost n hs hg (L.map (·.R)) refs w) := by
  obtain ⟨i0, hi0, hz0, hs0, hb0⟩ := info_parts pref_info
  have Hi := hid_ (And.intro hi0 (And.intro hz0 (And.intro hs0 hb0)))
  obtain ⟨j0, hj0, hy0, ht0, hc0⟩ := info_parts record_info
  have Hj := hid_ (And.intro hj0 (And.intro hy0 (And.intro ht0 hc0)))
  have hln := h.1
  obtain ⟨w0, hw0⟩ : ∃ z, z = (w.alloc (.cells #[.int .i64 hs, .int .i64 hg] 33)).alloc (.cells pgZ 45) := ⟨_, rfl⟩
  have f0 : Fr none_ w w0 := by rw [hw0]; exact ((Fr.refl none_ w).alloc _).alloc _
  have BH : Hid (Blk w0 w.heap.size 33 #[.int .i64 hs, .int .i64 hg]) := hid_ (by rw [hw0]; exact (Blk.new w _ _).alloc _)
  have BO : Hid (Blk w0 (w.heap.size + 1) 45 pgZ) := hid_ (by rw [hw0]; exact Blk.new7 _ _ (by simp))
  have F0 := hid_ f0
  have H := hid_ h
  have HS := hid_ hs7
  have HE := hid_ he
  have HR := hid_ (hr.none_fr f0)
  have hsz0 := BO.out.lt
  clear h f0 hs7 he hr hi0 hz0 hs0 hb0 hj0 hy0 ht0 hc0
  go_enter Try.func24, Try.ntmps24
  go_upto_region 1 with fail
  change Code.wp _ _ _ _ ((w.alloc (.cells #[.int .i64 hs, .int .i64 hg] 33)).alloc (.cells pgZ 45))
  rw [← hw0]
  clear hw0
  go_cut [10] (fun v wq => ∃ X, v = .pointer (some ⟨X, 0, none⟩) ∧ w.heap.size + 1 < X ∧ OfSt n hs hg L refs w X 0 wq)
  case first =>
    have g0 : w0.cell? ⟨w.heap.size, 0, none⟩ = some (.int .i64 hs) := BH.out.cell' rfl
    have g1 : w0.cell? ⟨w.heap.size, 1, none⟩ = some (.int .i64 hg) := BH.out.cell' rfl
    have hS0 : (fun w' : World => Fr none_ w0 w') w0.drew := (Fr.refl none_ w0).drew
    refine wp_region_U (m := 7) (S := fun w' : World => Fr none_ w0 w') (by kernel_rfl) ?_
    refine wpAnyU_take2 (i := 0) (v := _) rfl (by kernel_rfl) (by kernel_rfl) (by kernel_rfl) (by kernel_rfl) (fun _ _ _ h => h) (.inl ⟨by kernel_rfl, fun w' hS => by have s_g0 := cellFr g0 hS; have s_g1 := cellFr g1 hS; go_simp; rfl⟩) hS0 ?_
    refine wpAnyU_take2 (i := 1) (v := _) rfl (by kernel_rfl) (by kernel_rfl) (by kernel_rfl) (by kernel_rfl) (fun _ _ _ h => h) (.inl ⟨by kernel_rfl, fun w' hS => by have s_g0 := cellFr g0 hS; have s_g1 := cellFr g1 hS; go_simp; rfl⟩) hS0 ?_
    refine wpAnyU_take2 (i := 3) (v := _) rfl (by kernel_rfl) (by kernel_rfl) (by kernel_rfl) (by kernel_rfl) (fun _ _ _ h => h) (.inl ⟨by kernel_rfl, fun w' hS => by have s_g0 := cellFr g0 hS; have s_g1 := cellFr g1 hS; go_simp; rfl⟩) hS0 ?_
    clear hS0 g0 g1
    refine wpAnyU_two7 (i := 2) (j := 6) rfl rfl (by kernel_rfl) (by kernel_rfl) (by kernel_rfl) ?_ ?_
    · go_simp
      refine ⟨(Fr.refl none_ w0).drew.alloc _, ?_⟩
      refine wpAnyU_two7 (i := 4) (j := 6) rfl rfl (by kernel_rfl) (by kernel_rfl) (by kernel_rfl) ?_ ?_
      · skip
        obtain ⟨w3, hw3⟩ : ∃ z, z = (w0.alloc (.cells #[] 33)).drew := ⟨_, rfl⟩
        have f3 : Fr none_ w0 w3 := by rw [hw3]; repeat (first | exact Fr.refl none_ w0 | apply Fr.drew | apply Fr.alloc)
        have O3 : w3.ownsRow w.heap.size 33 2 (.slice (some ⟨w0.heap.size, 0, none⟩) 0 0) 0 [] := by rw [hw3]; exact (own_empty_at w0 _ _ _ _ (by omega) rfl).drew
        have HB3 := hid_ (show w0.heap.size ≤ w0.heap.size by omega)
        change Oper.wp _ _ _ ((w0.alloc (.cells #[] 33)).drew) _ _
        rw [← hw3]
        refine wp_append_any _ (.tmp 17) (.tmp 18) 35 rfl w.heap.size 33 i0 _ 2 16 Try.underlying35 Hi.out.1 Hi.out.2.1 Hi.out.2.2.1 Hi.out.2.2.2 rfl (by omega) (.slice (some ⟨w0.heap.size, 0, none⟩) 0 0) 0 [] rfl O3 RA refs.length rc (rpFlat refs) rfl (HR.out.none_fr f3) (rpFlat_one _) (by simp only [maxLen]; omega) (by omega) (by have := f3.size; omega) ?_
        intro A' c' w4 hown hgr
        simp only [Nat.zero_add, List.nil_append] at hown ⊢
        have F4 : Fr none_ w0 w4 := f3.grown hgr (fun k hk => .inr (by simp [Value.ownBlock] at hk; have := HB3.out; omega))
        have hs4 := F4.size
        refine ⟨.inr F4, ?_⟩
        refine wpAnyU_take2 (i := 5) (v := _) rfl (by kernel_rfl) (by kernel_rfl) (by kernel_rfl) (by kernel_rfl) (fun _ _ _ h => h) (.inl ⟨by kernel_rfl, fun w' hS => by skip; go_simp; rfl⟩) F4 ?_
        refine wpAnyU_one7 (i := 6) rfl (by kernel_rfl) (by kernel_rfl) ?_
        go_simp
        obtain ⟨w5, hw5⟩ : ∃ z, z = w4.alloc (.cells pgZ 45) := ⟨_, rfl⟩
        have F5 : Fr none_ w0 w5 := by rw [hw5]; exact F4.alloc _
        have X5 : Blk w5 w4.heap.size 45 pgZ := by rw [hw5]; exact Blk.new w4 _ _
        have O5 := own_none hown (by rw [hw5]; exact (Fr.refl none_ w4).alloc (.cells pgZ 45) : Fr none_ w4 w5)
        rw [← hw5]
        refine ⟨F5, ?_⟩
        refine wpAnyU_one7 (i := 7) rfl (by kernel_rfl) (by kernel_rfl) ?_
        refine wp_store_mid 45 (.tmp 10) (.tmp 20) rfl (w4.heap.size) 0 (pgA n hs hg (.slice none 0 0) (.slice A' refs.length c') false Lw.zero (.slice none 0 0) Vw.zero (.slice none 0 0)) rfl rfl (X5.there7 rfl) page_size (by simp [Value.oneCell']) ?_
        refine ⟨.inl (by decide), ?_⟩
        refine wpAnyU_done (by kernel_rfl) ?_ _
        have ov := X5.over7 (pgA n hs hg (.slice none 0 0) (.slice A' refs.length c') false Lw.zero (.slice none 0 0) Vw.zero (.slice none 0 0)).toList rfl
        obtain ⟨w6, hw6⟩ : ∃ z, z = w5.setCells (w4.heap.size) 0 (pgA n hs hg (.slice none 0 0) (.slice A' refs.length c') false Lw.zero (.slice none 0 0) Vw.zero (.slice none 0 0)).toList := ⟨_, rfl⟩
        rw [← hw6] at ov
        rw [← hw6]
        have HST : Hid (OfSt n hs hg L refs w (w4.heap.size) 0 w6) := hid_ ⟨⟨_, _, [], rfl, rfl, ov.1, World.ownsRow_nil _ _ _ _, (fun C hC => by simp at hC), own_fr O5 ov.2 (fun k hk e => own_blk_ne O5 X5 (by decide) (by rw [hk, show k = w4.heap.size from e]))⟩, ((BO.out.fr F5 id).fr ov.2 (only_ne (by omega))), (F0.out.then_none F5).then_only ov.2 (.inr (by omega))⟩
        clear hw6 ov
        go_wp2
        go_meet
        case rel => exact ⟨_, rfl, by omega, HST.out⟩
      · go_simp
        refine ⟨((Fr.refl none_ w0).drew.alloc _).alloc _, ?_⟩
        refine wpAnyU_one7 (i := 4) rfl (by kernel_rfl) (by kernel_rfl) ?_
        obtain ⟨w3, hw3⟩ : ∃ z, z = ((w0.alloc (.cells #[] 33)).alloc (.cells pgZ 45)).drew := ⟨_, rfl⟩
        have f3 : Fr none_ w0 w3 := by rw [hw3]; repeat (first | exact Fr.refl none_ w0 | apply Fr.drew | apply Fr.alloc)
        have hb0 := f3.size
        have O3 : w3.ownsRow w.heap.size 33 2 (.slice (some ⟨w0.heap.size, 0, none⟩) 0 0) 0 [] := by
          rw [hw3]
          exact ((own_empty_at w0 _ _ _ _ (by omega) rfl).alloc _).drew
        have HB3 := hid_ (show w0.heap.size ≤ w0.heap.size by omega)
        have X3 : Blk w3 (w0.heap.size + 1) 45 pgZ := by
          rw [hw3]
          exact (Blk.new7 (w := w0.alloc (.cells #[] 33)) _ _ (by simp)).drew
        change Oper.wp _ _ _ (((w0.alloc (.cells #[] 33)).alloc (.cells pgZ 45)).drew) _ _
        rw [← hw3]
        refine wp_append_any _ (.tmp 17) (.tmp 18) 35 rfl w.heap.size 33 i0 _ 2 16 Try.underlying35 Hi.out.1 Hi.out.2.1 Hi.out.2.2.1 Hi.out.2.2.2 rfl (by omega) (.slice (some ⟨w0.heap.size, 0, none⟩) 0 0) 0 [] rfl O3 RA refs.length rc (rpFlat refs) rfl (HR.out.none_fr f3) (rpFlat_one _) (by simp only [maxLen]; omega) (by omega) (by have := f3.size; omega) ?_
        intro A' c' w4 hown hgr
        simp only [Nat.zero_add, List.nil_append] at hown ⊢
        have F4 : Fr none_ w0 w4 := f3.grown hgr (fun k hk => .inr (by simp [Value.ownBlock] at hk; have := HB3.out; omega))
        have hs4 := F4.size
        have X4 : Blk w4 (w0.heap.size + 1) 45 pgZ := X3.fr (Fr.grown (S := fun b => (Value.slice (some ⟨w0.heap.size, 0, none⟩) 0 0).ownBlock = some b) (Fr.refl _ _) hgr (fun k hk => .inl hk)) (fun hk => by simp [Value.ownBlock] at hk)
        refine ⟨.inr F4, ?_⟩
        refine wpAnyU_take2 (i := 5) (v := _) rfl (by kernel_rfl) (by kernel_rfl) (by kernel_rfl) (by kernel_rfl) (fun _ _ _ h => h) (.inl ⟨by kernel_rfl, fun w' hS => by skip; go_simp; rfl⟩) F4 ?_
        refine wpAnyU_one7 (i := 7) rfl (by kernel_rfl) (by kernel_rfl) ?_
        refine wp_store_mid 45 (.tmp 10) (.tmp 20) rfl (w0.heap.size + 1) 0 (pgA n hs hg (.slice none 0 0) (.slice A' refs.length c') false Lw.zero (.slice none 0 0) Vw.zero (.slice none 0 0)) rfl rfl (X4.there7 rfl) page_size (by simp [Value.oneCell']) ?_
        refine ⟨.inl (by decide), ?_⟩
        refine wpAnyU_done (by kernel_rfl) ?_ _
        have ov := X4.over7 (pgA n hs hg (.slice none 0 0) (.slice A' refs.length c') false Lw.zero (.slice none 0 0) Vw.zero (.slice none 0 0)).toList rfl
        obtain ⟨w6, hw6⟩ : ∃ z, z = w4.setCells (w0.heap.size + 1) 0 (pgA n hs hg (.slice none 0 0) (.slice A' refs.length c') false Lw.zero (.slice none 0 0) Vw.zero (.slice none 0 0)).toList := ⟨_, rfl⟩
        rw [← hw6] at ov
        rw [← hw6]
        have HST : Hid (OfSt n hs hg L refs w (w0.heap.size + 1) 0 w6) := hid_ ⟨⟨_, _, [], rfl, rfl, ov.1, World.ownsRow_nil _ _ _ _, (fun C hC => by simp at hC), own_fr hown ov.2 (fun k hk e => own_blk_ne hown X4 (by decide) (by rw [hk, show k = w0.heap.size + 1 from e]))⟩, ((BO.out.fr F4 id).fr ov.2 (only_ne (by omega))), (F0.out.then_none F4).then_only ov.2 (.inr (by omega))⟩
        clear hw6 ov
        go_wp2
        go_meet
        case rel => exact ⟨_, rfl, by omega, HST.out⟩
    · go_simp
      refine ⟨(Fr.refl none_ w0).drew.alloc _, ?_⟩
      refine wpAnyU_one7 (i := 2) rfl (by kernel_rfl) (by kernel_rfl) ?_
      go_simp
      refine ⟨((Fr.refl none_ w0).drew.alloc _).alloc _, ?_⟩
      refine wpAnyU_one7 (i := 4) rfl (by kernel_rfl) (by kernel_rfl) ?_
      obtain ⟨w3, hw3⟩ : ∃ z, z = ((w0.alloc (.cells pgZ 45)).alloc (.cells #[] 33)).drew := ⟨_, rfl⟩
      have f3 : Fr none_ w0 w3 := by rw [hw3]; repeat (first | exact Fr.refl none_ w0 | apply Fr.drew | apply Fr.alloc)
      have hb0 := f3.size
      have O3 : w3.ownsRow w.heap.size 33 2 (.slice (some ⟨w0.heap.size + 1, 0, none⟩) 0 0) 0 [] := by
        rw [hw3]
        exact (own_empty_at (w0.alloc (.cells pgZ 45)) _ _ _ _ (by simp; omega) (by simp)).drew
      have HB3 := hid_ (show w0.heap.size ≤ w0.heap.size + 1 by omega)
      have X3 : Blk w3 (w0.heap.size) 45 pgZ := by
        rw [hw3]
        exact ((Blk.new w0 _ _).alloc _).drew
      change Oper.wp _ _ _ (((w0.alloc (.cells pgZ 45)).alloc (.cells #[] 33)).drew) _ _
      rw [← hw3]
      refine wp_append_any _ (.tmp 17) (.tmp 18) 35 rfl w.heap.size 33 i0 _ 2 16 Try.underlying35 Hi.out.1 Hi.out.2.1 Hi.out.2.2.1 Hi.out.2.2.2 rfl (by omega) (.slice (some ⟨w0.heap.size + 1, 0, none⟩) 0 0) 0 [] rfl O3 RA refs.length rc (rpFlat refs) rfl (HR.out.none_fr f3) (rpFlat_one _) (by simp only [maxLen]; omega) (by omega) (by have := f3.size; omega) ?_
      intro A' c' w4 hown hgr
      simp only [Nat.zero_add, List.nil_append] at hown ⊢
      have F4 : Fr none_ w0 w4 := f3.grown hgr (fun k hk => .inr (by simp [Value.ownBlock] at hk; have := HB3.out; omega))
      have hs4 := F4.size
      have X4 : Blk w4 (w0.heap.size) 45 pgZ := X3.fr (Fr.grown (S := fun b => (Value.slice (some ⟨w0.heap.size + 1, 0, none⟩) 0 0).ownBlock = some b) (Fr.refl _ _) hgr (fun k hk => .inl hk)) (fun hk => by simp [Value.ownBlock] at hk)
      refine ⟨.inr F4, ?_⟩
      refine wpAnyU_take2 (i := 5) (v := _) rfl (by kernel_rfl) (by kernel_rfl) (by kernel_rfl) (by kernel_rfl) (fun _ _ _ h => h) (.inl ⟨by kernel_rfl, fun w' hS => by skip; go_simp; rfl⟩) F4 ?_
      refine wpAnyU_one7 (i := 7) rfl (by kernel_rfl) (by kernel_rfl) ?_
      refine wp_store_mid 45 (.tmp 10) (.tmp 20) rfl (w0.heap.size) 0 (pgA n hs hg (.slice none 0 0) (.slice A' refs.length c') false Lw.zero (.slice none 0 0) Vw.zero (.slice none 0 0)) rfl rfl (X4.there7 rfl) page_size (by simp [Value.oneCell']) ?_
      refine ⟨.inl (by decide), ?_⟩
      refine wpAnyU_done (by kernel_rfl) ?_ _
      have ov := X4.over7 (pgA n hs hg (.slice none 0 0) (.slice A' refs.length c') false Lw.zero (.slice none 0 0) Vw.zero (.slice none 0 0)).toList rfl
      obtain ⟨w6, hw6⟩ : ∃ z, z = w4.setCells (w0.heap.size) 0 (pgA n hs hg (.slice none 0 0) (.slice A' refs.length c') false Lw.zero (.slice none 0 0) Vw.zero (.slice none 0 0)).toList := ⟨_, rfl⟩
      rw [← hw6] at ov
      rw [← hw6]
      have HST : Hid (OfSt n hs hg L refs w (w0.heap.size) 0 w6) := hid_ ⟨⟨_, _, [], rfl, rfl, ov.1, World.ownsRow_nil _ _ _ _, (fun C hC => by simp at hC), own_fr hown ov.2 (fun k hk e => own_blk_ne hown X4 (by decide) (by rw [hk, show k = w0.heap.size from e]))⟩, ((BO.out.fr F4 id).fr ov.2 (only_ne (by omega))), (F0.out.then_none F4).then_only ov.2 (.inr (by omega))⟩
      clear hw6 ov
      go_wp2
      go_meet
      case rel => exact ⟨_, rfl, by omega, HST.out⟩
  case rest =>
    obtain ⟨X, rfl, hX, hst⟩ := hcut
    have ST := hid_ hst
    clear hst
    clear BH BO F0 HR hsz0
    go_wp2_with fail
    go_loopw [23] (fun i wr => ∃ k : Nat, k ≤ m ∧ i = .int .i64 k ∧ OfSt n hs hg L refs w X k wr) (fun i _ => m - (intOf i).toNat)
    case atStart => exact ⟨0, Nat.zero_le _, rfl, ST.out⟩
    case round =>
      obtain ⟨k, hk, rfl, hst⟩ := hrel
      have S2 := hid_ hst
      clear hst
      have hi0 : (0 : Int) ≤ (k : Int) := Int.natCast_nonneg _
      by_cases hlt : k < m
      · obtain ⟨E, hE⟩ : ∃ E, L[k]? = some E := ⟨_, List.getElem?_eq_getElem (by omega)⟩
        obtain ⟨b, off, rfl, hb, hR, hO⟩ := (H.out.keep S2.out.fr).at_ hE
        have hi1 : (k : Int) < (m : Int) := by omega
        have HR5 := hid_ hR
        have HO := hid_ hO
        have HEk := hid_ hE
        have hrow := (HS.out E (List.mem_of_getElem? hE)).2.2
        have hent := hO.ents.1
        clear hR hO hE
        go_upto_region 5 with (first | (refine wpList_load_mid rfl 58 (.tmp 25) rfl b (off + k * 15) rfl (recL E) _ HR5.out Try.underlying58 rfl rec_size8 ?_) | (refine wpList_store_mid rfl 58 (.tmp 12) (.tmp 26) rfl wr.heap.size 0 (recL E).toArray rfl rfl (new_there wr _ recZ8) rec_size8 (rec_one E) ?_; obtain ⟨w1, hw1⟩ : ∃ w1, w1 = (wr.alloc (.cells recZ8 58)).setCells wr.heap.size 0 (recL E) := ⟨_, rfl⟩; change wpList _ _ _ _ _ ((wr.alloc (.cells recZ8 58)).setCells wr.heap.size 0 (recL E)); rw [← hw1]; have P1 : Hid (Blk w1 wr.heap.size 58 (recL E).toArray ∧ Fr none_ wr w1) := hid_ (by rw [hw1]; exact new_copy wr _ recZ8 _ rfl); clear hw1))
        have S3 := hid_ (S2.out.keep P1.out.2)
        obtain ⟨vc, vr, Cs, hcl, hcm, hbx, hown, hcs, hrf⟩ := S3.out.st
        obtain ⟨oA, oc, rfl⟩ := hown.shape
        have HCL := hid_ hcl
        have HCM := hid_ hcm
        have BX := hid_ hbx
        have O := hid_ hown
        have HCS := hid_ hcs
        have RF := hid_ hrf
        have hsf := S3.out.fr.size
        have hxl := hbx.lt
        clear hcl hcm hown hcs hrf
        have x3 : w1.cell? ⟨X, 3, none⟩ = some (.slice oA k oc) := BX.out.cell' rfl
        clear hbx
        have hS0 : (fun w' : World => Fr none_ w1 w') w1.drew := (Fr.refl none_ w1).drew
        refine wp_region_U (m := 5) (S := fun w' : World => Fr none_ w1 w') (by kernel_rfl) ?_
        refine wpAnyU_take2 (i := 0) (v := _) rfl (by kernel_rfl) (by kernel_rfl) (by kernel_rfl) (by kernel_rfl) (fun _ _ _ h => h) (.inl ⟨by kernel_rfl, fun w' hS => by have s_x3 := cellFr x3 hS; go_simp; rfl⟩) hS0 ?_
        refine wpAnyU_take2 (i := 1) (v := _) rfl (by kernel_rfl) (by kernel_rfl) (by kernel_rfl) (by kernel_rfl) (fun _ _ _ h => h) (.inl ⟨by kernel_rfl, fun w' hS => by have s_x3 := cellFr x3 hS; go_simp; rfl⟩) hS0 ?_
        refine wpAnyU_take2 (i := 2) (v := _) rfl (by kernel_rfl) (by kernel_rfl) (by kernel_rfl) (by kernel_rfl) (fun _ _ _ h => h) (yieldsIf_load_mid (by kernel_rfl) 58 (.tmp 12) rfl wr.heap.size 0 rfl (recL E) _ (fun w' hS i v hv => cellFr (P1.out.1.range7 i v hv) hS) Try.underlying58 rfl rec_size8) hS0 ?_
        clear hS0 x3
        refine wpAnyU_one7 (i := 3) rfl (by kernel_rfl) (by kernel_rfl) ?_
        go_simp
        refine (clone_big E.R E.A E.c E.B E.d w1.drew ((HO.out.rd.keep P1.out.2).keep (Fr.refl none_ w1).drew) (by omega) hent).mono ?_
        rintro e w2 ⟨A1, c1, B1, d1, rfl, hro, hf2⟩
        have F2 : Hid (Fr none_ w1 w2) := hid_ ((Fr.refl none_ w1).drew.then_none hf2)
        have RO := hid_ (hro.base (Nat.zero_le _))
        have O2 := hid_ (own_none O.out F2.out)
        have hs2 := F2.out.size
        clear hro hf2
        refine ⟨F2.out, ?_⟩
        refine wpAnyU_one7 (i := 4) rfl (by kernel_rfl) (by kernel_rfl) ?_
        go_simp
        refine ⟨F2.out.alloc _, ?_⟩
        refine wpAnyU_one7 (i := 5) rfl (by kernel_rfl) (by kernel_rfl) ?_
        refine wp_append_any _ (.tmp 28) (.tmp 31) 34 rfl w.heap.size 58 j0 _ 15 192 Try.underlying34 Hj.out.1 Hj.out.2.1 Hj.out.2.2.1 Hj.out.2.2.2 rfl (by omega) (.slice oA k oc) k (recFlat Cs) rfl (O2.out.alloc _) (some ⟨w2.heap.size, 0, none⟩) 1 1 (recL ⟨E.R, A1, c1, B1, d1⟩) rfl (reads_new w2 _ (recL ⟨E.R, A1, c1, B1, d1⟩) _ rfl) (by simp [Value.oneCell']) (by simp only [maxLen]; omega) (by omega) (by simp; omega) ?_
        intro A3 c3 w3 hown3 hgr3
        refine ⟨.inl (by decide), ?_⟩
        have hf3 : Fr (fun q => (Value.slice oA k oc).ownBlock = some q) w2 w3 := ((Fr.refl _ w2).alloc (.cells (recL ⟨E.R, A1, c1, B1, d1⟩).toArray 58)).grown hgr3 (fun k hk => .inl hk)
        obtain ⟨E', hE'⟩ : ∃ E' : Ch, E' = ⟨E.R, A1, c1, B1, d1⟩ := ⟨_, rfl⟩
        have HE' := hid_ hE'
        have BX3 : Hid (Blk w3 X 45 (pgA n hs hg (.slice oA k oc) vr false Lw.zero (.slice none 0 0) Vw.zero (.slice none 0 0))) := hid_ ((BX.out.fr F2.out id).fr hf3 (own_blk_ne O2.out (BX.out.fr F2.out id) (by decide)))
        have BO3 : Hid (Blk w3 (w.heap.size + 1) 45 pgZ) := hid_ ((S3.out.bo.fr F2.out id).fr hf3 (own_blk_ne O2.out (S3.out.bo.fr F2.out id) (by decide)))
        have FF3 : Hid (Fr none_ w w3) := hid_ ((S3.out.fr.then_none F2.out).trans hf3 (fun _ _ => id) (fun q hq e => absurd (O2.out.lt q e).1 (by omega)))
        have RF3 : Hid (w3.ownsRow w.heap.size 33 2 vr refs.length (rpFlat refs)) := hid_ (own_fr (own_none RF.out F2.out) hf3 (fun q hq e => own_own_ne (own_none RF.out F2.out) O2.out (by decide) q hq e))
        have ho2 := O2.out.alloc (.cells (recL ⟨E.R, A1, c1, B1, d1⟩).toArray 58)
        have O3 : Hid (w3.ownsRow w.heap.size 58 15 (.slice A3 (k + 1) c3) (k + 1) (recFlat (Cs ++ [E']))) := hid_ (by
          rw [recFlat_app, hE', show recFlat [(⟨E.R, A1, c1, B1, d1⟩ : Ch)] = recL ⟨E.R, A1, c1, B1, d1⟩ by simp [recFlat]]
          exact hown3)
        have CS3 : Hid (∀ Z ∈ Cs ++ [E'], ChOwn w3 Z) := hid_ (fun Z hZ => by
          rcases List.mem_append.1 hZ with hZ | hZ
          · exact (((HCS.out Z hZ).keep F2.out).keep ((Fr.refl none_ w2).alloc _)).beside ho2 hgr3
          · obtain rfl : Z = E' := by simpa using hZ
            refine ChOwn.beside (ChOwn.keep ?_ ((Fr.refl none_ w2).alloc _)) ho2 hgr3
            rw [HE'.out]
            exact ⟨RO.out, HO.out.low, HO.out.high, HO.out.key, HO.out.hkey, HO.out.ents⟩)
        have CM3 : Hid ((Cs ++ [E']).map (·.R) = (L.take (k + 1)).map (·.R)) := hid_ (by rw [List.take_add_one, HEk.out, List.map_append, List.map_append, HCM.out, HE'.out]; rfl)
        have CL3 : Hid ((Cs ++ [E']).length = k + 1) := hid_ (by rw [List.length_append, HCL.out]; rfl)
        clear hown3 hgr3 hf3 hE' ho2
        have x3 : w3.cell? ⟨X, 3, none⟩ = some (.slice oA k oc) := BX3.out.cell' rfl
        have y3 := BX3.out.frozen 3
        refine wpAnyU_one7 (i := 6) rfl (by kernel_rfl) (by kernel_rfl) ?_
        go_simp
        refine wpAnyU_one7 (i := 7) rfl (by kernel_rfl) (by kernel_rfl) ?_
        go_simp
        refine wpAnyU_done (by kernel_rfl) ?_ _
        clear x3 y3
        obtain ⟨w4, hw4⟩ : ∃ z, z = w3.setCell ⟨X, 3, none⟩ (.slice A3 (k + 1) c3) := ⟨_, rfl⟩
        have f4 : Fr (only X) w3 w4 := by rw [hw4]; exact Fr.only1 w3 ⟨X, 3, none⟩ _
        have S4 : Hid (OfSt n hs hg L refs w X (k + 1) w4) := hid_ ⟨⟨_, vr, Cs ++ [E'], CL3.out, CM3.out, by rw [hw4]; exact BX3.out.set_ 3 _, own_fr O3.out f4 (fun q hq e => own_blk_ne O3.out BX3.out (by decide) (by rw [hq, show q = X from e])), fun Z hZ => (CS3.out Z hZ).only f4 BX3.out (by decide) (by decide), own_fr RF3.out f4 (fun q hq e => own_blk_ne RF3.out BX3.out (by decide) (by rw [hq, show q = X from e]))⟩, BO3.out.fr f4 (only_ne (by omega)), FF3.out.then_only f4 (.inr (by omega))⟩
        rw [← hw4]
        clear hw4 f4
        go_wp2_with fail
        go_roundw
        case rel => exact ⟨k + 1, by omega, by go_num, S4.out⟩
        case measure => simp [intOf]; omega
      · obtain rfl : k = m := by omega
        clear hlt hi0 ST
        have hmn : (L.map (·.R)).length = k := by rw [List.length_map]; exact hln
        go_upto_region 9 with fail
        go_cut [47] (fun u wq => u = .bool (leafB (L.map (·.R))) ∧ Fr none_ wr wq)
        case first =>
          by_cases hk0 : k = 0
          · subst hk0
            have hB : leafB (L.map (·.R)) = false := by rw [List.eq_nil_of_length_eq_zero hln]; rfl
            have HB := hid_ hB
            clear hB hmn
            go_wp2_with fail
            go_meet
            case rel => exact ⟨by rw [HB.out], Fr.refl _ _⟩
          · obtain ⟨j, rfl⟩ : ∃ j, k = j + 1 := ⟨k - 1, by omega⟩
            obtain ⟨E, hE⟩ : ∃ E, L[j]? = some E := ⟨_, List.getElem?_eq_getElem (by omega)⟩
            obtain ⟨b, off, rfl, hb, hR, hO⟩ := (H.out.keep S2.out.fr).at_ hE
            have k0 : wr.cell? ⟨b, off + j * 15, none⟩ = some (.int .i64 E.R.kind) := hR 0 _ rfl
            have hB : leafB (L.map (·.R)) = decide (E.R.kind = 1) := by
              unfold leafB
              rw [hmn, show j + 1 - 1 = j by omega, List.getElem?_map, hE]
              rfl
            have HB := hid_ hB
            have hi1 : (j : Int) < ((j + 1 : Nat) : Int) := by omega
            have hi2 : (j : Int) < (j : Int) + 1 := by omega
            have hi3 : (0 : Int) ≤ (j : Int) := Int.natCast_nonneg _
            have hp0 : decide ((0 : Int) < ((j + 1 : Nat) : Int)) = true := decide_eq_true (by omega)
            have hp1 : decide ((0 : Int) < (j : Int) + 1) = true := decide_eq_true (by omega)
            have hw1 : IntKind.i64.wrap ((j : Int) + 1 - 1) = (j : Int) := by rw [show (j : Int) + 1 - 1 = (j : Int) by omega]; exact IntWalk.i64_in _ (by omega)
            clear hB hmn hE hR hO hk0
            by_cases h1 : E.R.kind = 1
            · have e1 : (E.R.kind == 1) = true := by simpa using h1
              have H1 := hid_ h1
              clear h1
              go_wp2_with fail
              go_meet
              case rel => exact ⟨by rw [HB.out]; simp [H1.out], Fr.refl _ _⟩
            · have e1 : (E.R.kind == 1) = false := by simpa using h1
              have H1 := hid_ h1
              clear h1
              go_wp2_with fail
              go_meet
              case rel => exact ⟨by rw [HB.out]; simp [H1.out], Fr.refl _ _⟩
        case rest =>
          obtain ⟨rfl, hf⟩ := hcut
          have S3 := hid_ (S2.out.keep hf)
          clear hf S2
          go_upto_if 47 with fail
          go_cut [13] (fun u wq => OfCut n hs hg (L.map (·.R)) refs w X u wq)
          case rest =>
            have HC := hid_ hcut
            have HMN := hid_ hmn
            clear hcut S3 hmn
            rcases HC.out with ⟨leaf, lv, iv, A1, c1, B1, d1, C1, x1, D1, y1, hof, hu, hbx, hpg, hbo, hfr⟩ | ⟨q, hq, hof, hu, hbo, hfr⟩
            rotate_left
            · subst hu
              have BO5 := hid_ hbo
              have F5 := hid_ hfr
              have HQ := hid_ (And.intro hq hof)
              clear hbo hfr hof hq
              go_wp2_with (refine wpList_store_mid rfl 45 (.tmp 8) (.tmp 63) rfl (w.heap.size + 1) 0 (pgZ) rfl rfl (BO5.out.there7 rfl) page_size (by simp [Value.oneCell']) ?_; have ov := BO5.out.over7 (pgZ).toList rfl; obtain ⟨w6, hw6⟩ : ∃ z, z = wc.setCells (w.heap.size + 1) 0 (pgZ).toList := ⟨_, rfl⟩; rw [← hw6] at ov; change wpList _ _ _ _ _ (wc.setCells (w.heap.size + 1) 0 (pgZ).toList); rw [← hw6]; have OV := hid_ ov; clear hw6 ov)
              refine bodyPost_ret (results_cell_tmp7 _ _ rfl (w.heap.size + 1) 0 (pgZ).toList _ rfl (Blk.range7 (l := (pgZ).toList) OV.out.1) Try.underlying45 rfl page_size) rfl (.inr ⟨q, HQ.out.1, HQ.out.2, rfl, F5.out.then_only OV.out.2 (.inr (by omega))⟩)
            subst hu
            have BO5 := hid_ hbo
            have F5 := hid_ hfr
            have HQ := hid_ hof
            rw [HMN.out] at hbx
            have BX5 := hid_ hbx
            have PG := hid_ hpg
            clear hbo hfr hof hbx hpg
            go_wp2_with (first | (refine wpList_load_mid rfl 45 (.tmp 10) rfl X 0 rfl (pgA n hs hg (.slice C1 k x1) (.slice D1 refs.length y1) leaf lv (.slice A1 lv.rows.length c1) iv (.slice B1 iv.ents.length d1)).toList _ (Blk.range7 (l := (pgA n hs hg (.slice C1 k x1) (.slice D1 refs.length y1) leaf lv (.slice A1 lv.rows.length c1) iv (.slice B1 iv.ents.length d1)).toList) BX5.out) Try.underlying45 rfl page_size ?_) | (refine wpList_store_mid rfl 45 (.tmp 8) (.tmp 65) rfl (w.heap.size + 1) 0 (pgA n hs hg (.slice C1 k x1) (.slice D1 refs.length y1) leaf lv (.slice A1 lv.rows.length c1) iv (.slice B1 iv.ents.length d1)) rfl rfl (BO5.out.there7 rfl) page_size (by simp [Value.oneCell']) ?_; have ov := BO5.out.over7 (pgA n hs hg (.slice C1 k x1) (.slice D1 refs.length y1) leaf lv (.slice A1 lv.rows.length c1) iv (.slice B1 iv.ents.length d1)).toList rfl; obtain ⟨w6, hw6⟩ : ∃ z, z = wc.setCells (w.heap.size + 1) 0 (pgA n hs hg (.slice C1 k x1) (.slice D1 refs.length y1) leaf lv (.slice A1 lv.rows.length c1) iv (.slice B1 iv.ents.length d1)).toList := ⟨_, rfl⟩; rw [← hw6] at ov; change wpList _ _ _ _ _ (wc.setCells (w.heap.size + 1) 0 (pgA n hs hg (.slice C1 k x1) (.slice D1 refs.length y1) leaf lv (.slice A1 lv.rows.length c1) iv (.slice B1 iv.ents.length d1)).toList); rw [← hw6]; have OV := hid_ ov; clear hw6 ov))
            refine bodyPost_ret (results_cell_tmp7 _ _ rfl (w.heap.size + 1) 0 (pgA n hs hg (.slice C1 k x1) (.slice D1 refs.length y1) leaf lv (.slice A1 lv.rows.length c1) iv (.slice B1 iv.ents.length d1)).toList _ rfl (Blk.range7 (l := (pgA n hs hg (.slice C1 k x1) (.slice D1 refs.length y1) leaf lv (.slice A1 lv.rows.length c1) iv (.slice B1 iv.ents.length d1)).toList) OV.out.1) Try.underlying45 rfl page_size) rfl (.inl ⟨leaf, lv, iv, A1, c1, B1, d1, C1, x1, D1, y1, HQ.out, by rw [HMN.out]; rfl, PG.out.far (n := 0) (hs := 0) (hg := 0) (vc := .slice none 0 0) (vr := .slice none 0 0) (leaf := false) (lv' := Lw.zero) (sl := .slice none 0 0) (iv' := Vw.zero) (si := .slice none 0 0) BO5.out ⟨_, _, _, rfl⟩ ⟨_, _, _, rfl⟩ ⟨_, _, _, rfl⟩ OV.out.2, F5.out.then_only OV.out.2 (.inr (by omega))⟩)
          case first =>
            obtain ⟨vc, vr, Cs, hcl, hcm, hbx, hown, hcs, hrf⟩ := S3.out.st
            obtain ⟨C1, x1, rfl⟩ := hown.shape
            obtain ⟨D1, y1, rfl⟩ := hrf.shape

            have HMN := hid_ hmn
            rw [List.take_of_length_le (by omega)] at hcm
            have HCM := hid_ hcm
            have BX := hid_ hbx
            have O := hid_ hown
            have HCS := hid_ hcs
            have RF := hid_ hrf
            have hxl := hbx.lt
            clear hcl hcm hbx hown hcs hrf hmn
            cases hB : leafB (L.map (·.R)) with
            | true =>
              have HB := hid_ hB
              clear hB
              have x5 : wc.cell? ⟨X, 5, none⟩ = some (.bool false) := BX.out.cell' rfl
              have y5 := BX.out.frozen 5
              go_upto_region 11 with fail
              obtain ⟨w1, hw1⟩ : ∃ z, z = wc.setCell ⟨X, 5, none⟩ (.bool true) := ⟨_, rfl⟩
              have f1 : Fr (only X) wc w1 := by rw [hw1]; exact Fr.only1 wc ⟨X, 5, none⟩ _
              have BX1 : Hid (Blk w1 X 45 (pgA n hs hg (.slice C1 k x1) (.slice D1 refs.length y1) true Lw.zero (.slice none 0 0) Vw.zero (.slice none 0 0))) := hid_ (by rw [hw1]; exact BX.out.set_ 5 _)
              change Code.wp _ _ _ _ (wc.setCell ⟨X, 5, none⟩ (.bool true))
              rw [← hw1]
              clear hw1 x5 y5
              have O1 := hid_ (own_fr O.out f1 (fun q hq e => own_blk_ne O.out BX.out (by decide) (by rw [hq, show q = X from e])))
              have RF1 := hid_ (own_fr RF.out f1 (fun q hq e => own_blk_ne RF.out BX.out (by decide) (by rw [hq, show q = X from e])))
              have CS1 : Hid (∀ Z ∈ Cs, ChOwn w1 Z) := hid_ (fun Z hZ => (HCS.out Z hZ).only f1 BX.out (by decide) (by decide))
              have BO1 := hid_ (S3.out.bo.fr f1 (only_ne (by omega)))
              have FF1 := hid_ (S3.out.fr.then_only f1 (.inr (by omega)))
              clear f1 O RF HCS BX
              have hsz1 := FF1.out.size
              go_wp2_with fail
              refine (foldL_ok A k cap L w1 (H.out.keep FF1.out) hn HS.out).mono ?_
              rintro e w2 (⟨V, A', c', hkd, hfo, rfl, hvin, hf2⟩ | ⟨q, hq, rfl, hf2⟩)
              · have F2 := hid_ (FF1.out.then_none hf2)
                have BX2 := hid_ (BX1.out.fr hf2 id)
                have BO2 := hid_ (BO1.out.fr hf2 id)
                have O2 := hid_ (own_none O1.out hf2)
                have RF2 := hid_ (own_none RF1.out hf2)
                have CS2 : Hid (∀ Z ∈ Cs, ChOwn w2 Z) := hid_ (fun Z hZ => (CS1.out Z hZ).keep hf2)
                have VI := hid_ hvin
                have HOF : Hid (ofM (L.map (·.R)) = some (true, V, Vw.zero)) := hid_ (by unfold ofM; rw [if_pos HB.out, hfo]; rfl)
                clear hf2 hvin hfo hkd
                have x6 : w2.cell? ⟨X, 6, none⟩ = some (.string nilS) := BX2.out.cell' rfl
                have y6 := BX2.out.frozen 6
                have x7 : w2.cell? ⟨X, 7, none⟩ = some (.string nilS) := BX2.out.cell' rfl
                have y7 := BX2.out.frozen 7
                have x8 : w2.cell? ⟨X, 8, none⟩ = some (.bool false) := BX2.out.cell' rfl
                have y8 := BX2.out.frozen 8
                have x9 : w2.cell? ⟨X, 9, none⟩ = some (.int .i64 0) := BX2.out.cell' rfl
                have y9 := BX2.out.frozen 9
                have x10 : w2.cell? ⟨X, 10, none⟩ = some (.slice none 0 0) := BX2.out.cell' rfl
                have y10 := BX2.out.frozen 10
                have x11 : w2.cell? ⟨X, 11, none⟩ = some (.bool false) := BX2.out.cell' rfl
                have y11 := BX2.out.frozen 11
                go_wp2_with fail
                clear x6 y6 x7 y7 x8 y8 x9 y9 x10 y10 x11 y11
                obtain ⟨w5, hw5⟩ : ∃ z, z = ((((((w2.setCell ⟨X, 6, none⟩ (.string V.low)).setCell ⟨X, 7, none⟩ (.string V.high)).setCell ⟨X, 8, none⟩ (.bool V.unb)).setCell ⟨X, 9, none⟩ (.int .i64 V.right)).setCell ⟨X, 10, none⟩ (.slice A' V.rows.length c')).setCell ⟨X, 11, none⟩ (.bool V.gone)) := ⟨_, rfl⟩
                have f5 : Fr (only X) w2 w5 := by rw [hw5]; exact frOnly7 (frOnly7 (frOnly7 (frOnly7 (frOnly7 (frOnly7 (Fr.refl (only X) w2) _) _) _) _) _) _
                have BX5 : Blk w5 X 45 (pgA n hs hg (.slice C1 k x1) (.slice D1 refs.length y1) true V (.slice A' V.rows.length c') Vw.zero (.slice none 0 0)) := by
                  rw [hw5]
                  have e := ((((((BX2.out.set_ 6 (.string V.low)).set_ 7 (.string V.high)).set_ 8 (.bool V.unb)).set_ 9 (.int .i64 V.right)).set_ 10 (.slice A' V.rows.length c')).set_ 11 (.bool V.gone))
                  simp only [List.setIfInBounds_toArray, List.set_cons_zero, List.set_cons_succ] at e
                  exact e
                have HP5 : Hid (OfCut n hs hg (L.map (·.R)) refs w X .nilIface w5) := hid_ (by
                  refine .inl ⟨true, _, _, A', c', none, 0, C1, x1, D1, y1, HOF.out, rfl, by rw [HMN.out]; exact BX5, ⟨(VI.out.base (by omega)).far BX2.out (by decide) f5, VwIn.zero _, ⟨Cs, HCM.out, ?_, fun Z hZ => (CS2.out Z hZ).only f5 BX2.out (by decide) (by decide)⟩, own_fr RF2.out f5 (fun q hq e => own_blk_ne RF2.out BX2.out (by decide) (by rw [hq, show q = X from e]))⟩, BO2.out.fr f5 (only_ne (by omega)), F2.out.then_only f5 (.inr (by omega))⟩
                  rw [HMN.out]
                  exact own_fr O2.out f5 (fun q hq e => own_blk_ne O2.out BX2.out (by decide) (by rw [hq, show q = X from e])))
                rw [← hw5]
                clear hw5 f5 BX5
                go_meet
                case rel => exact HP5.out
              · have F2 := hid_ (FF1.out.then_none hf2)
                have BX2 := hid_ (BX1.out.fr hf2 id)
                have BO2 := hid_ (BO1.out.fr hf2 id)
                have HOF : Hid ((q = 9 ∨ q = 10) ∧ ofM (L.map (·.R)) = none) := hid_ ⟨by rcases hq with h | h; exact .inl h.1; exact .inr h.1, by unfold ofM; rw [if_pos HB.out, show foldL (L.map (·.R)) = none from by rcases hq with h | h; exact foldL_bad h.2; exact h.2.2]; rfl⟩
                clear hf2 hq
                have x6 : w2.cell? ⟨X, 6, none⟩ = some (.string nilS) := BX2.out.cell' rfl
                have y6 := BX2.out.frozen 6
                have x7 : w2.cell? ⟨X, 7, none⟩ = some (.string nilS) := BX2.out.cell' rfl
                have y7 := BX2.out.frozen 7
                have x8 : w2.cell? ⟨X, 8, none⟩ = some (.bool false) := BX2.out.cell' rfl
                have y8 := BX2.out.frozen 8
                have x9 : w2.cell? ⟨X, 9, none⟩ = some (.int .i64 0) := BX2.out.cell' rfl
                have y9 := BX2.out.frozen 9
                have x10 : w2.cell? ⟨X, 10, none⟩ = some (.slice none 0 0) := BX2.out.cell' rfl
                have y10 := BX2.out.frozen 10
                have x11 : w2.cell? ⟨X, 11, none⟩ = some (.bool false) := BX2.out.cell' rfl
                have y11 := BX2.out.frozen 11
                go_wp2_with fail
                clear x6 y6 x7 y7 x8 y8 x9 y9 x10 y10 x11 y11
                obtain ⟨w5, hw5⟩ : ∃ z, z = ((((((w2.setCell ⟨X, 6, none⟩ (.string Lw.zero.low)).setCell ⟨X, 7, none⟩ (.string Lw.zero.high)).setCell ⟨X, 8, none⟩ (.bool Lw.zero.unb)).setCell ⟨X, 9, none⟩ (.int .i64 Lw.zero.right)).setCell ⟨X, 10, none⟩ (.slice none 0 0)).setCell ⟨X, 11, none⟩ (.bool Lw.zero.gone)) := ⟨_, rfl⟩
                have f5 : Fr (only X) w2 w5 := by rw [hw5]; exact frOnly7 (frOnly7 (frOnly7 (frOnly7 (frOnly7 (frOnly7 (Fr.refl (only X) w2) _) _) _) _) _) _
                have HP5 : Hid (OfCut n hs hg (L.map (·.R)) refs w X (errV q) w5) := hid_ (.inr ⟨q, HOF.out.1, HOF.out.2, rfl, BO2.out.fr f5 (only_ne (by omega)), F2.out.then_only f5 (.inr (by omega))⟩)
                rw [← hw5]
                clear hw5 f5
                go_meet
                case rel => exact HP5.out
            | false =>
              have HB := hid_ hB
              clear hB
              have O1 := O
              have RF1 := RF
              have CS1 := HCS
              have BX1 := BX
              have BO1 := hid_ S3.out.bo
              have FF1 := hid_ S3.out.fr
              clear O RF HCS BX
              have hsz1 := FF1.out.size
              go_wp2_with fail
              refine (fold_ok A k cap L wc (H.out.keep FF1.out) hn HE.out).mono ?_
              rintro e w2 (⟨V, A', c', hkd, hfo, rfl, hvin, hheld, hf2⟩ | ⟨q, hq, hno, rfl, hf2⟩)
              · have F2 := hid_ (FF1.out.then_none hf2)
                have BX2 := hid_ (BX1.out.fr hf2 id)
                have BO2 := hid_ (BO1.out.fr hf2 id)
                have O2 := hid_ (own_none O1.out hf2)
                have RF2 := hid_ (own_none RF1.out hf2)
                have CS2 : Hid (∀ Z ∈ Cs, ChOwn w2 Z) := hid_ (fun Z hZ => (CS1.out Z hZ).keep hf2)
                have VI := hid_ hvin
                have HOF : Hid (ofM (L.map (·.R)) = some (false, Lw.zero, V)) := hid_ (by unfold ofM; rw [if_neg (by rw [HB.out]; decide), hfo]; rfl)
                clear hf2 hvin hfo hkd
                have x12 : w2.cell? ⟨X, 12, none⟩ = some (.string nilS) := BX2.out.cell' rfl
                have y12 := BX2.out.frozen 12
                have x13 : w2.cell? ⟨X, 13, none⟩ = some (.string nilS) := BX2.out.cell' rfl
                have y13 := BX2.out.frozen 13
                have x14 : w2.cell? ⟨X, 14, none⟩ = some (.bool false) := BX2.out.cell' rfl
                have y14 := BX2.out.frozen 14
                have x15 : w2.cell? ⟨X, 15, none⟩ = some (.int .i64 0) := BX2.out.cell' rfl
                have y15 := BX2.out.frozen 15
                have x16 : w2.cell? ⟨X, 16, none⟩ = some (.slice none 0 0) := BX2.out.cell' rfl
                have y16 := BX2.out.frozen 16
                have x17 : w2.cell? ⟨X, 17, none⟩ = some (.bool false) := BX2.out.cell' rfl
                have y17 := BX2.out.frozen 17
                have x18 : w2.cell? ⟨X, 18, none⟩ = some (.int .i64 0) := BX2.out.cell' rfl
                have y18 := BX2.out.frozen 18
                have x19 : w2.cell? ⟨X, 19, none⟩ = some (.int .i64 0) := BX2.out.cell' rfl
                have y19 := BX2.out.frozen 19
                have x20 : w2.cell? ⟨X, 20, none⟩ = some (.string nilS) := BX2.out.cell' rfl
                have y20 := BX2.out.frozen 20
                go_wp2_with fail
                clear x12 y12 x13 y13 x14 y14 x15 y15 x16 y16 x17 y17 x18 y18 x19 y19 x20 y20
                obtain ⟨w5, hw5⟩ : ∃ z, z = (((((((((w2.setCell ⟨X, 12, none⟩ (.string V.low)).setCell ⟨X, 13, none⟩ (.string V.high)).setCell ⟨X, 14, none⟩ (.bool V.unb)).setCell ⟨X, 15, none⟩ (.int .i64 V.right)).setCell ⟨X, 16, none⟩ (.slice A' V.ents.length c')).setCell ⟨X, 17, none⟩ (.bool V.held)).setCell ⟨X, 18, none⟩ (.int .i64 V.hp)).setCell ⟨X, 19, none⟩ (.int .i64 V.hl)).setCell ⟨X, 20, none⟩ (.string V.hk)) := ⟨_, rfl⟩
                have f5 : Fr (only X) w2 w5 := by rw [hw5]; exact frOnly7 (frOnly7 (frOnly7 (frOnly7 (frOnly7 (frOnly7 (frOnly7 (frOnly7 (frOnly7 (Fr.refl (only X) w2) _) _) _) _) _) _) _) _) _
                have BX5 : Blk w5 X 45 (pgA n hs hg (.slice C1 k x1) (.slice D1 refs.length y1) false Lw.zero (.slice none 0 0) V (.slice A' V.ents.length c')) := by
                  rw [hw5]
                  have e := (((((((((BX2.out.set_ 12 (.string V.low)).set_ 13 (.string V.high)).set_ 14 (.bool V.unb)).set_ 15 (.int .i64 V.right)).set_ 16 (.slice A' V.ents.length c')).set_ 17 (.bool V.held)).set_ 18 (.int .i64 V.hp)).set_ 19 (.int .i64 V.hl)).set_ 20 (.string V.hk))
                  simp only [List.setIfInBounds_toArray, List.set_cons_zero, List.set_cons_succ] at e
                  exact e
                have HP5 : Hid (OfCut n hs hg (L.map (·.R)) refs w X .nilIface w5) := hid_ (by
                  refine .inl ⟨false, _, _, none, 0, A', c', C1, x1, D1, y1, HOF.out, rfl, by rw [HMN.out]; exact BX5, ⟨LwIn.zero _ _, VI.out.farP BX2.out ⟨_, _, _, rfl⟩ ⟨_, _, _, rfl⟩ ⟨_, _, _, rfl⟩ f5, ⟨Cs, HCM.out, ?_, fun Z hZ => (CS2.out Z hZ).only f5 BX2.out (by decide) (by decide)⟩, own_fr RF2.out f5 (fun q hq e => own_blk_ne RF2.out BX2.out (by decide) (by rw [hq, show q = X from e]))⟩, BO2.out.fr f5 (only_ne (by omega)), F2.out.then_only f5 (.inr (by omega))⟩
                  rw [HMN.out]
                  exact own_fr O2.out f5 (fun q hq e => own_blk_ne O2.out BX2.out (by decide) (by rw [hq, show q = X from e])))
                rw [← hw5]
                clear hw5 f5 BX5
                go_meet
                case rel => exact HP5.out
              · have F2 := hid_ (FF1.out.then_none hf2)
                have BX2 := hid_ (BX1.out.fr hf2 id)
                have BO2 := hid_ (BO1.out.fr hf2 id)
                have HOF : Hid ((q = 9 ∨ q = 10) ∧ ofM (L.map (·.R)) = none) := hid_ ⟨hq, by unfold ofM; rw [if_neg (by rw [HB.out]; decide), show foldU (L.map (·.R)) = none from foldU_no hno]; rfl⟩
                clear hf2 hq hno
                have x12 : w2.cell? ⟨X, 12, none⟩ = some (.string nilS) := BX2.out.cell' rfl
                have y12 := BX2.out.frozen 12
                have x13 : w2.cell? ⟨X, 13, none⟩ = some (.string nilS) := BX2.out.cell' rfl
                have y13 := BX2.out.frozen 13
                have x14 : w2.cell? ⟨X, 14, none⟩ = some (.bool false) := BX2.out.cell' rfl
                have y14 := BX2.out.frozen 14
                have x15 : w2.cell? ⟨X, 15, none⟩ = some (.int .i64 0) := BX2.out.cell' rfl
                have y15 := BX2.out.frozen 15
                have x16 : w2.cell? ⟨X, 16, none⟩ = some (.slice none 0 0) := BX2.out.cell' rfl
                have y16 := BX2.out.frozen 16
                have x17 : w2.cell? ⟨X, 17, none⟩ = some (.bool false) := BX2.out.cell' rfl
                have y17 := BX2.out.frozen 17
                have x18 : w2.cell? ⟨X, 18, none⟩ = some (.int .i64 0) := BX2.out.cell' rfl
                have y18 := BX2.out.frozen 18
                have x19 : w2.cell? ⟨X, 19, none⟩ = some (.int .i64 0) := BX2.out.cell' rfl
                have y19 := BX2.out.frozen 19
                have x20 : w2.cell? ⟨X, 20, none⟩ = some (.string nilS) := BX2.out.cell' rfl
                have y20 := BX2.out.frozen 20
                go_wp2_with fail
                clear x12 y12 x13 y13 x14 y14 x15 y15 x16 y16 x17 y17 x18 y18 x19 y19 x20 y20
                obtain ⟨w5, hw5⟩ : ∃ z, z = (((((((((w2.setCell ⟨X, 12, none⟩ (.string Vw.zero.low)).setCell ⟨X, 13, none⟩ (.string Vw.zero.high)).setCell ⟨X, 14, none⟩ (.bool Vw.zero.unb)).setCell ⟨X, 15, none⟩ (.int .i64 Vw.zero.right)).setCell ⟨X, 16, none⟩ (.slice none 0 0)).setCell ⟨X, 17, none⟩ (.bool Vw.zero.held)).setCell ⟨X, 18, none⟩ (.int .i64 Vw.zero.hp)).setCell ⟨X, 19, none⟩ (.int .i64 Vw.zero.hl)).setCell ⟨X, 20, none⟩ (.string Vw.zero.hk)) := ⟨_, rfl⟩
                have f5 : Fr (only X) w2 w5 := by rw [hw5]; exact frOnly7 (frOnly7 (frOnly7 (frOnly7 (frOnly7 (frOnly7 (frOnly7 (frOnly7 (frOnly7 (Fr.refl (only X) w2) _) _) _) _) _) _) _) _) _
                have HP5 : Hid (OfCut n hs hg (L.map (·.R)) refs w X (errV q) w5) := hid_ (.inr ⟨q, HOF.out.1, HOF.out.2, rfl, BO2.out.fr f5 (only_ne (by omega)), F2.out.then_only f5 (.inr (by omega))⟩)
                rw [← hw5]
                clear hw5 f5
                go_meet
                case rel => exact HP5.out
end Go.Proofs.Ytpjbncbmdfmlpaa
namespace Go.Proofs.Ytpjbncbmdfmlpaa
open Go.RowKit Go.BigFrame
set_option maxRecDepth 100000
set_option linter.unusedVariables false

/-- A page as a value. -/
structure Pz where
  n : Int
  hs : Int
  hg : Int
  C : Option Addr
  nc : Nat
  x : Nat
  vr : Value
  leaf : Bool
  lv : Lw
  A : Option Addr
  c : Nat
  iv : Vw
  B : Option Addr
  d : Nat
abbrev pzA (P : Pz) : Array Value := pgA P.n P.hs P.hg (.slice P.C P.nc P.x) P.vr P.leaf P.lv (.slice P.A P.lv.rows.length P.c) P.iv (.slice P.B P.iv.ents.length P.d)
structure PzOk (w : World) (P : Pz) : Prop where
  low : SzOk P.lv.low
  high : SzOk P.lv.high
  rows : P.lv.rows.length ≤ 300000
  iv : VwIn w P.iv P.B P.d
  nc : P.nc ≤ 4000
theorem PzOk.keep {w w' : World} {P : Pz} (h : PzOk w P) (hf : Fr none_ w w') : PzOk w' P := ⟨h.low, h.high, h.rows, h.iv.keep hf, h.nc⟩
def Pz.low (P : Pz) : ByteArray := if P.leaf then P.lv.low else P.iv.low
def Pz.high (P : Pz) : ByteArray := if P.leaf then P.lv.high else P.iv.high
def Pz.unb (P : Pz) : Bool := if P.leaf then P.lv.unb else P.iv.unb
def Pz.right (P : Pz) : Int := if P.leaf then P.lv.right else P.iv.right
def Pz.size (P : Pz) : Nat := P.lv.rows.length + P.iv.ents.length
theorem PzOk.low_ {w : World} {P : Pz} (h : PzOk w P) : SzOk P.low := by unfold Pz.low; split; exact h.low; exact h.iv.ok.low
theorem PzOk.high_ {w : World} {P : Pz} (h : PzOk w P) : SzOk P.high := by unfold Pz.high; split; exact h.high; exact h.iv.ok.high
theorem results_tmp4 {fn : Func} {t u v x : Tmp} (h : fn.results = #[.tmp t, .tmp u, .tmp v, .tmp x]) (tmps : Array Value) (P : Program) (w : World) :
    (results fn tmps).run P w = .ok (.tuple #[tmps.getD t undef, tmps.getD u undef, tmps.getD v undef, tmps.getD x undef]) w := by
  simp [results, h]
abbrev RetQ (v : Value) (w : World) (e : Ending) (w' : World) : Prop := e = .returned v ∧ Fr none_ w w'
set_option maxHeartbeats 4000000 in
theorem bounds_ok (P : Pz) (w : World) : Calls Try.prog 34 #[.agg (pzA P)] w (RetQ (.tuple #[.string P.low, .string P.high, .bool P.unb, .int .i64 P.right]) w) := by
  obtain ⟨w0, hw0⟩ : ∃ z, z = w.alloc (.cells (pzA P) 45) := ⟨_, rfl⟩
  have f0 : Fr none_ w w0 := by rw [hw0]; exact (Fr.refl none_ w).alloc _
  have B0 : Hid (Blk w0 w.heap.size 45 (pzA P)) := hid_ (by rw [hw0]; exact Blk.new w _ _)
  have F0 := hid_ f0
  clear f0
  go_enter Try.func34, Try.ntmps34
  go_upto_region 1 with fail
  change Code.wp _ _ _ _ (w.alloc (.cells (pzA P) 45))
  rw [← hw0]
  clear hw0
  have p5 : w0.cell? ⟨w.heap.size, 5, none⟩ = some (.bool P.leaf) := B0.out.cell' rfl
  have p6 : w0.cell? ⟨w.heap.size, 6, none⟩ = some (.string P.lv.low) := B0.out.cell' rfl
  have p7 : w0.cell? ⟨w.heap.size, 7, none⟩ = some (.string P.lv.high) := B0.out.cell' rfl
  have p8 : w0.cell? ⟨w.heap.size, 8, none⟩ = some (.bool P.lv.unb) := B0.out.cell' rfl
  have p9 : w0.cell? ⟨w.heap.size, 9, none⟩ = some (.int .i64 P.lv.right) := B0.out.cell' rfl
  have p12 : w0.cell? ⟨w.heap.size, 12, none⟩ = some (.string P.iv.low) := B0.out.cell' rfl
  have p13 : w0.cell? ⟨w.heap.size, 13, none⟩ = some (.string P.iv.high) := B0.out.cell' rfl
  have p14 : w0.cell? ⟨w.heap.size, 14, none⟩ = some (.bool P.iv.unb) := B0.out.cell' rfl
  have p15 : w0.cell? ⟨w.heap.size, 15, none⟩ = some (.int .i64 P.iv.right) := B0.out.cell' rfl
  cases hl : P.leaf with
  | true =>
    rw [hl] at p5
    have HL := hid_ hl
    clear hl
    go_wp2_with fail
    go_quiet (fail)
    go_wp2
    (try simp only [Exit.inBlock, Exit.then])
    refine bodyPost_ret (results_tmp4 rfl _ _ _) rfl ?_
    exact ⟨by simp [Pz.low, Pz.high, Pz.unb, Pz.right, HL.out], by repeat (first | exact F0.out | apply Fr.drewN | apply Fr.drew)⟩
  | false =>
    rw [hl] at p5
    have HL := hid_ hl
    clear hl
    go_wp2_with fail
    go_quiet (fail)
    go_wp2
    (try simp only [Exit.inBlock, Exit.then])
    refine bodyPost_ret (results_tmp4 rfl _ _ _) rfl ?_
    exact ⟨by simp [Pz.low, Pz.high, Pz.unb, Pz.right, HL.out], by repeat (first | exact F0.out | apply Fr.drewN | apply Fr.drew)⟩
set_option maxHeartbeats 4000000 in
theorem phas_ok (P : Pz) (key : ByteArray) (w : World) (h1 : SzOk P.low) (h2 : SzOk P.high) (h3 : SzOk key) : Calls Try.prog 32 #[.agg (pzA P), .string key] w (RetQ (.bool (inS P.low P.high P.unb key)) w) := by
  obtain ⟨w0, hw0⟩ : ∃ z, z = w.alloc (.cells (pzA P) 45) := ⟨_, rfl⟩
  have f0 : Fr none_ w w0 := by rw [hw0]; exact (Fr.refl none_ w).alloc _
  have B0 : Hid (Blk w0 w.heap.size 45 (pzA P)) := hid_ (by rw [hw0]; exact Blk.new w _ _)
  have F0 := hid_ f0
  have HS := hid_ (And.intro h1 (And.intro h2 h3))
  clear f0 h1 h2 h3
  go_enter Try.func32, Try.ntmps32
  go_upto_region 1 with fail
  change Code.wp _ _ _ _ (w.alloc (.cells (pzA P) 45))
  rw [← hw0]
  clear hw0
  go_wp2_with (refine wpList_load_mid rfl 45 (.tmp 2) rfl w.heap.size 0 rfl (pzA P).toList _ (Blk.range7 (l := (pzA P).toList) B0.out) Try.underlying45 rfl page_size ?_)
  refine (bounds_ok P w0).mono ?_
  rintro e w1 ⟨rfl, hf⟩
  replace F0 := hid_ (F0.out.then_none hf)
  clear hf
  go_wp2_with fail
  refine (in_ok P.low P.high P.unb key _ HS.out.1.le HS.out.2.1.le HS.out.2.2.le).mono ?_
  rintro e w2 ⟨rfl, q, rfl⟩
  go_wp2
  go_ret
  exact ⟨rfl, F0.out.drewN q⟩
set_option maxHeartbeats 4000000 in
theorem psize_ok (P : Pz) (w : World) (h1 : P.lv.rows.length ≤ 300000) (h2 : P.iv.ents.length ≤ 1000) : Calls Try.prog 33 #[.agg (pzA P)] w (RetQ (.int .i64 (P.size : Nat)) w) := by
  obtain ⟨w0, hw0⟩ : ∃ z, z = w.alloc (.cells (pzA P) 45) := ⟨_, rfl⟩
  have f0 : Fr none_ w w0 := by rw [hw0]; exact (Fr.refl none_ w).alloc _
  have B0 : Hid (Blk w0 w.heap.size 45 (pzA P)) := hid_ (by rw [hw0]; exact Blk.new w _ _)
  have F0 := hid_ f0
  clear f0
  go_enter Try.func33, Try.ntmps33
  go_upto_region 1 with fail
  change Code.wp _ _ _ _ (w.alloc (.cells (pzA P) 45))
  rw [← hw0]
  clear hw0
  have p10 : w0.cell? ⟨w.heap.size, 10, none⟩ = some (.slice P.A P.lv.rows.length P.c) := B0.out.cell' rfl
  have p16 : w0.cell? ⟨w.heap.size, 16, none⟩ = some (.slice P.B P.iv.ents.length P.d) := B0.out.cell' rfl
  have hsum : (P.lv.rows.length : Int) + (P.iv.ents.length : Int) = ((P.size : Nat) : Int) := by unfold Pz.size; omega
  have hw1 : IntKind.i64.wrap ((P.lv.rows.length : Int) + (P.iv.ents.length : Int)) = ((P.size : Nat) : Int) := by rw [hsum]; exact IntWalk.i64_in _ (by unfold Pz.size; omega)
  have HW := hid_ hw1
  go_wp2
  go_ret
  refine ⟨?_, F0.out⟩
  first | rfl | (simp only [Pz.size, Int.natCast_add]; rfl)
/-- The inner page by which a page was come to, as a value. -/
structure Az where
  some_ : Bool
  n : Int
  hs : Int
  hg : Int
  V : Vw
  B : Option Addr
  d : Nat
abbrev azA (a : Az) : Array Value := #[.bool a.some_, .int .i64 a.n, .int .i64 a.hs, .int .i64 a.hg, .string a.V.low, .string a.V.high, .bool a.V.unb, .int .i64 a.V.right, .slice a.B a.V.ents.length a.d, .bool a.V.held, .int .i64 a.V.hp, .int .i64 a.V.hl, .string a.V.hk]
theorem az_range {w : World} {g : Nat} {t : TypeId} {a : Az} (h : Blk w g t (azA a)) : w.rangeAt g 4 (vwA a.V (.slice a.B a.V.ents.length a.d)).toList := fun j v hv => by
  rw [h.cell]
  match j, hv with
  | 0, hv => exact hv
  | 1, hv => exact hv
  | 2, hv => exact hv
  | 3, hv => exact hv
  | 4, hv => exact hv
  | 5, hv => exact hv
  | 6, hv => exact hv
  | 7, hv => exact hv
  | 8, hv => exact hv
  | k + 9, hv => simp at hv
/-- What is to be done, as a value. -/
structure Pn where
  kind : Int
  to_ : Int
  ek : ByteArray
  ep : Int
  hp : Int
  hl : Int
  hk : ByteArray
abbrev pnA (p : Pn) : Array Value := #[.int .i64 p.kind, .int .i64 p.to_, .string p.ek, .int .i64 p.ep, .int .i64 p.hp, .int .i64 p.hl, .string p.hk]
abbrev pnK (k : Int) : Pn := ⟨k, 0, nilS, 0, 0, 0, nilS⟩
abbrev pnZ : Array Value := #[.int .i64 0, .int .i64 0, .string ⟨#[]⟩, .int .i64 0, .int .i64 0, .int .i64 0, .string ⟨#[]⟩]
theorem plan_size : (Try.prog.info? 81).map (·.size) = some 7 := by kernel_rfl
theorem view_size7 : (Try.prog.info? 43).map (·.size) = some 9 := by kernel_rfl
abbrev vwZ : Array Value := #[.string ⟨#[]⟩, .string ⟨#[]⟩, .bool false, .int .i64 0, .slice none 0 0, .bool false, .int .i64 0, .int .i64 0, .string ⟨#[]⟩]
def beyM (P : Pz) (a : Az) (key : ByteArray) (writes : Bool) : Pn :=
  if ltS key P.low = true then pnK 3
  else if (writes && (a.some_ && (!a.V.held && (inS a.V.low a.V.high a.V.unb P.high && !atB a.V.ents P.high)))) = true then ⟨4, 0, P.high, P.right, 0, 0, nilS⟩
  else ⟨2, P.right, nilS, 0, 0, 0, nilS⟩
set_option maxHeartbeats 8000000 in
theorem beyond_ok (P : Pz) (a : Az) (key : ByteArray) (writes : Bool) (w : World) (h : PzOk w P) (ha : VwIn w a.V a.B a.d) (hk : SzOk key) : Calls Try.prog 67 #[.agg (pzA P), .agg (azA a), .string key, .bool writes] w (RetQ (.agg (pnA (beyM P a key writes))) w) := by
  obtain ⟨w0, hw0⟩ : ∃ z, z = ((w.alloc (.cells (pzA P) 45)).alloc (.cells (azA a) 77)).alloc (.cells pnZ 81) := ⟨_, rfl⟩
  have f0 : Fr none_ w w0 := by rw [hw0]; exact (((Fr.refl none_ w).alloc _).alloc _).alloc _
  have B0 : Hid (Blk w0 w.heap.size 45 (pzA P)) := hid_ (by rw [hw0]; exact ((Blk.new w _ _).alloc _).alloc _)
  have B1 : Hid (Blk w0 (w.heap.size + 1) 77 (azA a)) := hid_ (by rw [hw0]; exact (Blk.new7 _ _ (by simp)).alloc _)
  have BO : Hid (Blk w0 (w.heap.size + 1 + 1) 81 pnZ) := hid_ (by rw [hw0]; exact Blk.new7 _ _ (by simp))
  have F0 := hid_ f0
  have HP := hid_ h
  have HA := hid_ (ha.keep f0)
  have HK := hid_ hk
  clear f0 h ha hk
  go_enter Try.func67, Try.ntmps67
  go_upto_region 1 with fail
  change Code.wp _ _ _ _ (((w.alloc (.cells (pzA P) 45)).alloc (.cells (azA a) 77)).alloc (.cells pnZ 81))
  rw [← hw0]
  clear hw0
  go_wp2_with (refine wpList_load_mid rfl 45 (.tmp 4) rfl w.heap.size 0 rfl (pzA P).toList _ (Blk.range7 (l := (pzA P).toList) B0.out) Try.underlying45 rfl page_size ?_)
  refine (bounds_ok P w0).mono ?_
  rintro e w1 ⟨rfl, hf⟩
  replace F0 := hid_ (F0.out.then_none hf)
  replace B1 := hid_ (B1.out.fr hf id)
  replace BO := hid_ (BO.out.fr hf id)
  replace HA := hid_ (HA.out.keep hf)
  clear hf B0
  go_wp2_with fail
  refine (compare_ok key P.low w1 HK.out.le HP.out.low_.le).mono ?_
  rintro e w2 ⟨rfl, q, hw2⟩
  have hf : Fr none_ w1 w2 := by rw [hw2]; exact (Fr.refl none_ w1).drewN q
  replace F0 := hid_ (F0.out.then_none hf)
  replace B1 := hid_ (B1.out.fr hf id)
  replace BO := hid_ (BO.out.fr hf id)
  replace HA := hid_ (HA.out.keep hf)
  clear hf hw2
  have hc := cmp_neg key P.low
  have hso := BO.out.lt
  cases hlt : ltS key P.low with
  | true =>
    rw [hlt] at hc
    have HL := hid_ hlt
    clear hlt
    go_wp2_with (refine wpList_store_mid rfl 81 (.tmp 8) (.tmp 25) rfl (w.heap.size + 1 + 1) 0 (pnA (pnK 3)) rfl rfl (BO.out.there7 rfl) plan_size (by simp [Value.oneCell']) ?_; have ov := BO.out.over7 (pnA (pnK 3)).toList rfl; obtain ⟨w9, hw9⟩ : ∃ z, z = w2.setCells (w.heap.size + 1 + 1) 0 (pnA (pnK 3)).toList := ⟨_, rfl⟩; rw [← hw9] at ov; change wpList _ _ _ _ _ (w2.setCells (w.heap.size + 1 + 1) 0 (pnA (pnK 3)).toList); rw [← hw9]; have OV := hid_ ov; clear hw9 ov)
    refine bodyPost_ret (results_cell7 _ _ rfl (w.heap.size + 1 + 1) 0 (pnA (pnK 3)).toList _ rfl (Blk.range7 (l := (pnA (pnK 3)).toList) OV.out.1) Try.underlying81 rfl plan_size) rfl ⟨by unfold beyM; rw [if_pos HL.out], F0.out.then_only OV.out.2 (.inr (by omega))⟩
  | false =>
    rw [hlt] at hc
    have HL := hid_ hlt
    clear hlt
    go_upto_region 5 with (first | (refine wpList_load_mid rfl 43 (.tmp 26) rfl (w.heap.size + 1) 4 rfl (vwA a.V (.slice a.B a.V.ents.length a.d)).toList _ (az_range B1.out) Try.underlying43 rfl view_size7 ?_) | (refine wpList_store_mid rfl 43 (.tmp 13) (.tmp 27) rfl w2.heap.size 0 (vwA a.V (.slice a.B a.V.ents.length a.d)) rfl rfl (new_there w2 _ vwZ) view_size7 (by simp [Value.oneCell']) ?_; obtain ⟨w3, hw3⟩ : ∃ z, z = (w2.alloc (.cells vwZ 43)).setCells w2.heap.size 0 (vwA a.V (.slice a.B a.V.ents.length a.d)).toList := ⟨_, rfl⟩; change wpList _ _ _ _ _ ((w2.alloc (.cells vwZ 43)).setCells w2.heap.size 0 (vwA a.V (.slice a.B a.V.ents.length a.d)).toList); rw [← hw3]; have P3 : Hid (Blk w3 w2.heap.size 43 (vwA a.V (.slice a.B a.V.ents.length a.d)) ∧ Fr none_ w2 w3) := hid_ (by rw [hw3]; exact new_copy w2 _ vwZ (vwA a.V (.slice a.B a.V.ents.length a.d)).toList rfl); clear hw3))
    replace F0 := hid_ (F0.out.then_none P3.out.2)
    replace B1 := hid_ (B1.out.fr P3.out.2 id)
    replace BO := hid_ (BO.out.fr P3.out.2 id)
    replace HA := hid_ (HA.out.keep P3.out.2)
    have hso := BO.out.lt
    go_frame
    go_cut [53] (fun u wq => u = .bool (writes && (a.some_ && (!a.V.held && (inS a.V.low a.V.high a.V.unb P.high && !atB a.V.ents P.high)))) ∧ Fr none_ w3 wq)
    case first =>
      have a0 : w3.cell? ⟨w.heap.size + 1, 0, none⟩ = some (.bool a.some_) := B1.out.cell' rfl
      have v0 : w3.cell? ⟨w2.heap.size, 0, none⟩ = some (.string a.V.low) := P3.out.1.cell' rfl
      have v1 : w3.cell? ⟨w2.heap.size, 1, none⟩ = some (.string a.V.high) := P3.out.1.cell' rfl
      have v2 : w3.cell? ⟨w2.heap.size, 2, none⟩ = some (.bool a.V.unb) := P3.out.1.cell' rfl
      have v3 : w3.cell? ⟨w2.heap.size, 3, none⟩ = some (.int .i64 a.V.right) := P3.out.1.cell' rfl
      have v4 : w3.cell? ⟨w2.heap.size, 4, none⟩ = some (.slice a.B a.V.ents.length a.d) := P3.out.1.cell' rfl
      have v5 : w3.cell? ⟨w2.heap.size, 5, none⟩ = some (.bool a.V.held) := P3.out.1.cell' rfl
      have v6 : w3.cell? ⟨w2.heap.size, 6, none⟩ = some (.int .i64 a.V.hp) := P3.out.1.cell' rfl
      have v7 : w3.cell? ⟨w2.heap.size, 7, none⟩ = some (.int .i64 a.V.hl) := P3.out.1.cell' rfl
      have v8 : w3.cell? ⟨w2.heap.size, 8, none⟩ = some (.string a.V.hk) := P3.out.1.cell' rfl
      cases writes with
      | false =>
        go_wp2_with fail
        go_meet
        case rel => exact ⟨by simp, Fr.refl _ _⟩
      | true =>
        cases hb : a.some_ with
        | false =>
          rw [hb] at a0
          have HBs := hid_ hb
          clear hb
          go_wp2_with fail
          go_meet
          case rel => exact ⟨by simp [HBs.out], Fr.refl _ _⟩
        | true =>
          rw [hb] at a0
          have HBs := hid_ hb
          clear hb
          cases hb : a.V.held with
          | true =>
            rw [hb] at v5
            have HBh := hid_ hb
            clear hb
            go_wp2_with fail
            go_meet
            case rel => exact ⟨by simp [HBs.out, HBh.out], Fr.refl _ _⟩
          | false =>
            rw [hb] at v5
            have HBh := hid_ hb
            clear hb
            go_wp2_with fail
            refine (in_ok a.V.low a.V.high a.V.unb P.high w3 HA.out.ok.low.le HA.out.ok.high.le HP.out.high_.le).mono ?_
            rintro e w4 ⟨rfl, q, hw4⟩
            have f4 : Fr none_ w3 w4 := by rw [hw4]; exact (Fr.refl none_ w3).drewN q
            have F4 := hid_ f4
            replace v0 := cellFr v0 f4
            replace v1 := cellFr v1 f4
            replace v2 := cellFr v2 f4
            replace v3 := cellFr v3 f4
            replace v4 := cellFr v4 f4
            replace v5 := cellFr v5 f4
            replace v6 := cellFr v6 f4
            replace v7 := cellFr v7 f4
            replace v8 := cellFr v8 f4
            clear f4 hw4
            cases hin : inS a.V.low a.V.high a.V.unb P.high with
            | false =>
              have HIN := hid_ hin
              clear hin
              go_wp2_with fail
              go_meet
              case rel => exact ⟨by simp [HBs.out, HBh.out, HIN.out], F4.out⟩
            | true =>
              have HIN := hid_ hin
              clear hin
              go_wp2_with fail
              refine (has_ok { a.V with held := false } a.B a.d P.high w4 ⟨(HA.out.keep F4.out).rd, HA.out.cap, HA.out.capm, ⟨HA.out.ok.low, HA.out.ok.high, HA.out.ok.hk, HA.out.ok.ents⟩⟩ HP.out.high_).mono ?_
              rintro e w5 ⟨rfl, hf5⟩
              have F5 := hid_ (F4.out.then_none hf5)
              clear hf5
              go_wp2_with fail
              go_meet
              case rel => exact ⟨by simp [HBs.out, HBh.out, HIN.out], F5.out⟩
    case rest =>
      obtain ⟨rfl, hf⟩ := hcut
      replace F0 := hid_ (F0.out.then_none hf)
      replace BO := hid_ (BO.out.fr hf id)
      clear hf P3
      cases hg : (writes && (a.some_ && (!a.V.held && (inS a.V.low a.V.high a.V.unb P.high && !atB a.V.ents P.high)))) with
      | true =>
        have HG := hid_ hg
        clear hg
        go_wp2_with (refine wpList_store_mid rfl 81 (.tmp 8) (.tmp 57) rfl (w.heap.size + 1 + 1) 0 (pnA (⟨4, 0, P.high, P.right, 0, 0, nilS⟩ : Pn)) rfl rfl (BO.out.there7 rfl) plan_size (by simp [Value.oneCell']) ?_; have ov := BO.out.over7 (pnA (⟨4, 0, P.high, P.right, 0, 0, nilS⟩ : Pn)).toList rfl; obtain ⟨w9, hw9⟩ : ∃ z, z = wc.setCells (w.heap.size + 1 + 1) 0 (pnA (⟨4, 0, P.high, P.right, 0, 0, nilS⟩ : Pn)).toList := ⟨_, rfl⟩; rw [← hw9] at ov; change wpList _ _ _ _ _ (wc.setCells (w.heap.size + 1 + 1) 0 (pnA (⟨4, 0, P.high, P.right, 0, 0, nilS⟩ : Pn)).toList); rw [← hw9]; have OV := hid_ ov; clear hw9 ov)
        refine bodyPost_ret (results_cell7 _ _ rfl (w.heap.size + 1 + 1) 0 (pnA (⟨4, 0, P.high, P.right, 0, 0, nilS⟩ : Pn)).toList _ rfl (Blk.range7 (l := (pnA (⟨4, 0, P.high, P.right, 0, 0, nilS⟩ : Pn)).toList) OV.out.1) Try.underlying81 rfl plan_size) rfl ⟨by unfold beyM; rw [if_neg (by rw [HL.out]; decide), if_pos HG.out], F0.out.then_only OV.out.2 (.inr (by omega))⟩
      | false =>
        have HG := hid_ hg
        clear hg
        go_wp2_with (refine wpList_store_mid rfl 81 (.tmp 8) (.tmp 59) rfl (w.heap.size + 1 + 1) 0 (pnA (⟨2, P.right, nilS, 0, 0, 0, nilS⟩ : Pn)) rfl rfl (BO.out.there7 rfl) plan_size (by simp [Value.oneCell']) ?_; have ov := BO.out.over7 (pnA (⟨2, P.right, nilS, 0, 0, 0, nilS⟩ : Pn)).toList rfl; obtain ⟨w9, hw9⟩ : ∃ z, z = wc.setCells (w.heap.size + 1 + 1) 0 (pnA (⟨2, P.right, nilS, 0, 0, 0, nilS⟩ : Pn)).toList := ⟨_, rfl⟩; rw [← hw9] at ov; change wpList _ _ _ _ _ (wc.setCells (w.heap.size + 1 + 1) 0 (pnA (⟨2, P.right, nilS, 0, 0, 0, nilS⟩ : Pn)).toList); rw [← hw9]; have OV := hid_ ov; clear hw9 ov)
        refine bodyPost_ret (results_cell7 _ _ rfl (w.heap.size + 1 + 1) 0 (pnA (⟨2, P.right, nilS, 0, 0, 0, nilS⟩ : Pn)).toList _ rfl (Blk.range7 (l := (pnA (⟨2, P.right, nilS, 0, 0, 0, nilS⟩ : Pn)).toList) OV.out.1) Try.underlying81 rfl plan_size) rfl ⟨by unfold beyM; rw [if_neg (by rw [HL.out]; decide), if_neg (by rw [HG.out]; decide)], F0.out.then_only OV.out.2 (.inr (by omega))⟩
end Go.Proofs.Ytpjbncbmdfmlpaa
namespace Go.Proofs.Ytpjbncbmdfmlpaa
open Go.RowKit Go.BigFrame
set_option maxRecDepth 100000
set_option linter.unusedVariables false

theorem HoldIs.ex (V : Vw) (page : Int) : ∃ o, HoldIs V page o := by
  have key : ∀ k, k ≤ V.ents.length → NB V page k ∨ ∃ o, HoldIs V page o := by
    intro k
    induction k with
    | zero => exact fun _ => .inl (NB.one V page (by omega))
    | succ k ih =>
      intro hk
      rcases ih (by omega) with h | h
      · rcases Nat.eq_zero_or_pos k with h0 | h0
        · exact .inl (NB.one V page (by omega))
        · obtain ⟨j, rfl⟩ : ∃ j, k = j + 1 := ⟨k - 1, by omega⟩
          obtain ⟨q, hq⟩ : ∃ q, V.ents[j + 1]? = some q := ⟨_, List.getElem?_eq_getElem (by omega)⟩
          obtain ⟨l, hl⟩ : ∃ l, V.ents[j]? = some l := ⟨_, List.getElem?_eq_getElem (by omega)⟩
          by_cases hp : q.2 = page
          · exact .inr ⟨_, .inr ⟨j, l, q, hl, hq, hp, h, rfl⟩⟩
          · exact .inl (h.next hq hp)
      · exact .inr h
  rcases key _ (Nat.le_refl _) with h | h
  · exact ⟨none, .inl ⟨h, rfl⟩⟩
  · exact h
noncomputable def holdM (V : Vw) (page : Int) : Option (Int × Int × ByteArray) := Classical.choose (HoldIs.ex V page)
theorem holdM_is (V : Vw) (page : Int) : HoldIs V page (holdM V page) := Classical.choose_spec (HoldIs.ex V page)
structure L6 where
  a0 : Int
  a1 : Int
  a2 : Int
  rows : Int
  chain : Int
  a5 : Int
abbrev l6A (l : L6) : Array Value := #[.int .i64 l.a0, .int .i64 l.a1, .int .i64 l.a2, .int .i64 l.rows, .int .i64 l.chain, .int .i64 l.a5]
theorem lim_size7 : (Try.prog.info? 28).map (·.size) = some 6 := by kernel_rfl
theorem above_size7 : (Try.prog.info? 77).map (·.size) = some 13 := by kernel_rfl
theorem hold_size7 : (Try.prog.info? 41).map (·.size) = some 3 := by kernel_rfl
noncomputable def upkM (P : Pz) (a : Az) (l : L6) : Option Pn :=
  if l.chain < (P.nc : Int) then some (pnK 6)
  else if l.rows < (P.size : Int) ∧ P.n = 0 then some (pnK 8)
  else if l.rows < (P.size : Int) then some (pnK 7)
  else if P.leaf = false ∨ 0 < P.size ∨ a.some_ = false ∨ a.V.held = true then none
  else (holdM a.V P.n).map fun h => ⟨9, 0, nilS, 0, h.1, h.2.1, h.2.2⟩
def UpkPost (P : Pz) (a : Az) (l : L6) (w : World) (e : Ending) (w' : World) : Prop :=
  ((∃ p, upkM P a l = some p ∧ e = .returned (.tuple #[.agg (pnA p), .bool true])) ∨ (upkM P a l = none ∧ ∃ p, e = .returned (.tuple #[.agg (pnA p), .bool false]))) ∧ Fr none_ w w'
set_option maxHeartbeats 8000000 in
theorem upkeep_big (P : Pz) (a : Az) (l : L6) (w : World) (h : PzOk w P) (ha : VwIn w a.V a.B a.d) (hbig : l.rows < (P.size : Int)) : Calls Try.prog 68 #[.agg (pzA P), .agg (azA a), .agg (l6A l)] w (UpkPost P a l w) := by
  obtain ⟨w0, hw0⟩ : ∃ z, z = (((w.alloc (.cells (pzA P) 45)).alloc (.cells (azA a) 77)).alloc (.cells (l6A l) 28)).alloc (.cells pnZ 81) := ⟨_, rfl⟩
  have f0 : Fr none_ w w0 := by rw [hw0]; exact ((((Fr.refl none_ w).alloc _).alloc _).alloc _).alloc _
  have B0 : Hid (Blk w0 w.heap.size 45 (pzA P)) := hid_ (by rw [hw0]; exact (((Blk.new w _ _).alloc _).alloc _).alloc _)
  have B1 : Hid (Blk w0 (w.heap.size + 1) 77 (azA a)) := hid_ (by rw [hw0]; exact ((Blk.new7 _ _ (by simp)).alloc _).alloc _)
  have B2 : Hid (Blk w0 (w.heap.size + 1 + 1) 28 (l6A l)) := hid_ (by rw [hw0]; exact (Blk.new7 _ _ (by simp)).alloc _)
  have BO : Hid (Blk w0 (w.heap.size + 1 + 1 + 1) 81 pnZ) := hid_ (by rw [hw0]; exact Blk.new7 _ _ (by simp))
  have F0 := hid_ f0
  have HP := hid_ h
  have HA := hid_ (ha.keep f0)
  have hnc := h.nc
  clear f0 h ha
  go_enter Try.func68, Try.ntmps68
  go_upto_region 1 with fail
  change Code.wp _ _ _ _ ((((w.alloc (.cells (pzA P) 45)).alloc (.cells (azA a) 77)).alloc (.cells (l6A l) 28)).alloc (.cells pnZ 81))
  rw [← hw0]
  clear hw0
  have p3 : w0.cell? ⟨w.heap.size, 3, none⟩ = some (.slice P.C P.nc P.x) := B0.out.cell' rfl
  have l4 : w0.cell? ⟨w.heap.size + 1 + 1, 4, none⟩ = some (.int .i64 l.chain) := B2.out.cell' rfl
  obtain ⟨sz, hsz⟩ : ∃ z, z = P.size := ⟨_, rfl⟩
  have HSZ := hid_ hsz
  have hszb : sz ≤ 301000 := by
    have h1 := HP.out.rows
    have h2 := HP.out.iv.ok.ents.1
    rw [hsz]
    unfold Pz.size
    omega
  clear hsz
  have hso := BO.out.lt
  by_cases hc1 : l.chain < (P.nc : Int)
  · have e1 : decide (l.chain < (P.nc : Int)) = true := decide_eq_true hc1
    have HC1 := hid_ hc1
    clear hc1
    go_wp2_with (refine wpList_store_mid rfl 81 (.tmp 6) (.tmp 17) rfl (w.heap.size + 1 + 1 + 1) 0 (pnA (pnK 6)) rfl rfl (BO.out.there7 rfl) plan_size (by simp [Value.oneCell']) ?_; have ov := BO.out.over7 (pnA (pnK 6)).toList rfl; obtain ⟨w9, hw9⟩ : ∃ z, z = w0.setCells (w.heap.size + 1 + 1 + 1) 0 (pnA (pnK 6)).toList := ⟨_, rfl⟩; rw [← hw9] at ov; change wpList _ _ _ _ _ (w0.setCells (w.heap.size + 1 + 1 + 1) 0 (pnA (pnK 6)).toList); rw [← hw9]; have OV := hid_ ov; clear hw9 ov)
    refine bodyPost_ret (results_cell_tmp7 _ _ rfl (w.heap.size + 1 + 1 + 1) 0 (pnA (pnK 6)).toList _ rfl (Blk.range7 (l := (pnA (pnK 6)).toList) OV.out.1) Try.underlying81 rfl plan_size) rfl ⟨.inl ⟨_, by unfold upkM; rw [if_pos (by have := HC1.out; omega)], rfl⟩, F0.out.then_only OV.out.2 (.inr (by omega))⟩
  have e1 : decide (l.chain < (P.nc : Int)) = false := decide_eq_false hc1
  have HC1 := hid_ hc1
  clear hc1
  go_upto_region 3 with fail
  clear p3 l4 e1
  by_cases hc2 : l.rows < (sz : Int)
  · have e2 : decide (l.rows < (sz : Int)) = true := decide_eq_true hc2
    have HC2 : Hid (l.rows < (P.size : Int)) := hid_ (by rw [← HSZ.out]; exact hc2)
    clear hc2
    by_cases hn0 : P.n = 0
    · have e3 : (P.n == 0) = true := by simpa using hn0
      have HN := hid_ hn0
      clear hn0
      go_upto_region 3 with fail
      go_cut [18] (fun u wq => u = .bool true ∧ Fr none_ w0 wq)
      case first =>
        have r3 : w0.cell? ⟨w.heap.size + 1 + 1, 3, none⟩ = some (.int .i64 l.rows) := B2.out.cell' rfl
        have q0 : w0.cell? ⟨w.heap.size, 0, none⟩ = some (.int .i64 P.n) := B0.out.cell' rfl
        have hS0 : (fun w' : World => Fr none_ w0 w') w0.drew := (Fr.refl none_ w0).drew
        refine wp_region_U (m := 11) (S := fun w' : World => Fr none_ w0 w') (by kernel_rfl) ?_
        refine wpAnyU_take2 (i := 0) (v := _) rfl (by kernel_rfl) (by kernel_rfl) (by kernel_rfl) (by kernel_rfl) (fun _ _ _ h => h) (yieldsIf_load_mid (by kernel_rfl) 45 (.tmp 3) rfl w.heap.size 0 rfl (pzA P).toList _ (fun w' hS i v hv => cellFr (Blk.range7 (l := (pzA P).toList) B0.out i v hv) hS) Try.underlying45 rfl page_size) hS0 ?_
        refine wpAnyU_take2 (i := 2) (v := _) rfl (by kernel_rfl) (by kernel_rfl) (by kernel_rfl) (by kernel_rfl) (fun _ _ _ h => h) (.inl ⟨by kernel_rfl, fun w' hS => by have s_r3 := cellFr r3 hS; go_simp; rfl⟩) hS0 ?_
        refine wpAnyU_take2 (i := 3) (v := _) rfl (by kernel_rfl) (by kernel_rfl) (by kernel_rfl) (by kernel_rfl) (fun _ _ _ h => h) (.inl ⟨by kernel_rfl, fun w' hS => by have s_r3 := cellFr r3 hS; go_simp; rfl⟩) hS0 ?_
        clear hS0
        refine wpAnyU_one7 (i := 1) rfl (by kernel_rfl) (by kernel_rfl) ?_
        go_simp
        refine (psize_ok P w0.drew HP.out.rows (by have := HP.out.iv.ok.ents.1; exact this)).mono ?_
        rintro e w1 ⟨rfl, hf9⟩
        rw [← HSZ.out]
        have fq : Fr none_ w0 w1 := (Fr.refl none_ w0).drew.then_none hf9
        have FQ := hid_ fq
        clear hf9
        refine ⟨FQ.out, ?_⟩
        replace q0 := cellFr q0 fq
        clear fq
        refine wpAnyU_take2 (i := 4) (v := _) rfl (by kernel_rfl) (by kernel_rfl) (by kernel_rfl) (by kernel_rfl) (fun _ _ _ h => h) (.inl ⟨by kernel_rfl, fun w' hS => by skip; go_simp; rfl⟩) FQ.out ?_
        refine wpAnyU_take2 (i := 5) (v := _) rfl (by kernel_rfl) (by kernel_rfl) (by kernel_rfl) (by kernel_rfl) (fun _ _ _ h => h) (.inl ⟨by kernel_rfl, fun w' hS => by skip; go_simp; rfl⟩) FQ.out ?_
        refine wpAnyU_take2 (i := 6) (v := _) rfl (by kernel_rfl) (by kernel_rfl) (by kernel_rfl) (by kernel_rfl) (fun _ _ _ h => h) (.inl ⟨by kernel_rfl, fun w' hS => by have s_q := cellFrS (S := none_) (B0.out.cell' (i := 0) rfl) hS id; go_simp; rfl⟩) FQ.out ?_
        refine wpAnyU_take2 (i := 7) (v := _) rfl (by kernel_rfl) (by kernel_rfl) (by kernel_rfl) (by kernel_rfl) (fun _ _ _ h => h) (.inl ⟨by kernel_rfl, fun w' hS => by have s_q := cellFrS (S := none_) (B0.out.cell' (i := 0) rfl) hS id; go_simp; rfl⟩) FQ.out ?_
        refine wpAnyU_take2 (i := 8) (v := _) rfl (by kernel_rfl) (by kernel_rfl) (by kernel_rfl) (by kernel_rfl) (fun _ _ _ h => h) (.inl ⟨by kernel_rfl, fun w' hS => by have s_q := cellFrS (S := none_) (B0.out.cell' (i := 0) rfl) hS id; go_simp; rfl⟩) FQ.out ?_
        refine wpAnyU_take2 (i := 9) (v := _) rfl (by kernel_rfl) (by kernel_rfl) (by kernel_rfl) (by kernel_rfl) (fun _ _ _ h => h) (.inl ⟨by kernel_rfl, fun w' hS => by skip; go_simp; rfl⟩) FQ.out ?_
        refine wpAnyU_take2 (i := 10) (v := _) rfl (by kernel_rfl) (by kernel_rfl) (by kernel_rfl) (by kernel_rfl) (fun _ _ _ h => h) (.inl ⟨by kernel_rfl, fun w' hS => by skip; go_simp; rfl⟩) FQ.out ?_
        refine wpAnyU_done (by kernel_rfl) ?_ _
        clear r3 q0
        go_wp2
        go_meet
        case rel => exact ⟨rfl, FQ.out⟩
      case rest =>
      obtain ⟨rfl, hf⟩ := hcut
      obtain ⟨w1, hnw⟩ : ∃ z, z = wc := ⟨_, rfl⟩
      rw [← hnw] at hf ⊢
      clear hnw
      replace F0 := hid_ (F0.out.then_none hf)
      replace B0 := hid_ (B0.out.fr hf id)
      replace B1 := hid_ (B1.out.fr hf id)
      replace B2 := hid_ (B2.out.fr hf id)
      replace BO := hid_ (BO.out.fr hf id)
      replace HA := hid_ (HA.out.keep hf)
      clear hf
      go_wp2_with (refine wpList_store_mid rfl 81 (.tmp 6) (.tmp 29) rfl (w.heap.size + 1 + 1 + 1) 0 (pnA (pnK 8)) rfl rfl (BO.out.there7 rfl) plan_size (by simp [Value.oneCell']) ?_; have ov := BO.out.over7 (pnA (pnK 8)).toList rfl; obtain ⟨w9, hw9⟩ : ∃ z, z = w1.setCells (w.heap.size + 1 + 1 + 1) 0 (pnA (pnK 8)).toList := ⟨_, rfl⟩; rw [← hw9] at ov; change wpList _ _ _ _ _ (w1.setCells (w.heap.size + 1 + 1 + 1) 0 (pnA (pnK 8)).toList); rw [← hw9]; have OV := hid_ ov; clear hw9 ov)
      refine bodyPost_ret (results_cell_tmp7 _ _ rfl (w.heap.size + 1 + 1 + 1) 0 (pnA (pnK 8)).toList _ rfl (Blk.range7 (l := (pnA (pnK 8)).toList) OV.out.1) Try.underlying81 rfl plan_size) rfl ⟨.inl ⟨_, by unfold upkM; rw [if_neg (by have := HC1.out; omega), if_pos ⟨by have := HC2.out; omega, HN.out⟩], rfl⟩, F0.out.then_only OV.out.2 (.inr (by omega))⟩
    · have e3 : (P.n == 0) = false := by simpa using hn0
      have HN := hid_ hn0
      clear hn0
      go_upto_region 3 with fail
      go_cut [18] (fun u wq => u = .bool false ∧ Fr none_ w0 wq)
      case first =>
        have r3 : w0.cell? ⟨w.heap.size + 1 + 1, 3, none⟩ = some (.int .i64 l.rows) := B2.out.cell' rfl
        have q0 : w0.cell? ⟨w.heap.size, 0, none⟩ = some (.int .i64 P.n) := B0.out.cell' rfl
        have hS0 : (fun w' : World => Fr none_ w0 w') w0.drew := (Fr.refl none_ w0).drew
        refine wp_region_U (m := 11) (S := fun w' : World => Fr none_ w0 w') (by kernel_rfl) ?_
        refine wpAnyU_take2 (i := 0) (v := _) rfl (by kernel_rfl) (by kernel_rfl) (by kernel_rfl) (by kernel_rfl) (fun _ _ _ h => h) (yieldsIf_load_mid (by kernel_rfl) 45 (.tmp 3) rfl w.heap.size 0 rfl (pzA P).toList _ (fun w' hS i v hv => cellFr (Blk.range7 (l := (pzA P).toList) B0.out i v hv) hS) Try.underlying45 rfl page_size) hS0 ?_
        refine wpAnyU_take2 (i := 2) (v := _) rfl (by kernel_rfl) (by kernel_rfl) (by kernel_rfl) (by kernel_rfl) (fun _ _ _ h => h) (.inl ⟨by kernel_rfl, fun w' hS => by have s_r3 := cellFr r3 hS; go_simp; rfl⟩) hS0 ?_
        refine wpAnyU_take2 (i := 3) (v := _) rfl (by kernel_rfl) (by kernel_rfl) (by kernel_rfl) (by kernel_rfl) (fun _ _ _ h => h) (.inl ⟨by kernel_rfl, fun w' hS => by have s_r3 := cellFr r3 hS; go_simp; rfl⟩) hS0 ?_
        clear hS0
        refine wpAnyU_one7 (i := 1) rfl (by kernel_rfl) (by kernel_rfl) ?_
        go_simp
        refine (psize_ok P w0.drew HP.out.rows (by have := HP.out.iv.ok.ents.1; exact this)).mono ?_
        rintro e w1 ⟨rfl, hf9⟩
        rw [← HSZ.out]
        have fq : Fr none_ w0 w1 := (Fr.refl none_ w0).drew.then_none hf9
        have FQ := hid_ fq
        clear hf9
        refine ⟨FQ.out, ?_⟩
        replace q0 := cellFr q0 fq
        clear fq
        refine wpAnyU_take2 (i := 4) (v := _) rfl (by kernel_rfl) (by kernel_rfl) (by kernel_rfl) (by kernel_rfl) (fun _ _ _ h => h) (.inl ⟨by kernel_rfl, fun w' hS => by skip; go_simp; rfl⟩) FQ.out ?_
        refine wpAnyU_take2 (i := 5) (v := _) rfl (by kernel_rfl) (by kernel_rfl) (by kernel_rfl) (by kernel_rfl) (fun _ _ _ h => h) (.inl ⟨by kernel_rfl, fun w' hS => by skip; go_simp; rfl⟩) FQ.out ?_
        refine wpAnyU_take2 (i := 6) (v := _) rfl (by kernel_rfl) (by kernel_rfl) (by kernel_rfl) (by kernel_rfl) (fun _ _ _ h => h) (.inl ⟨by kernel_rfl, fun w' hS => by have s_q := cellFrS (S := none_) (B0.out.cell' (i := 0) rfl) hS id; go_simp; rfl⟩) FQ.out ?_
        refine wpAnyU_take2 (i := 7) (v := _) rfl (by kernel_rfl) (by kernel_rfl) (by kernel_rfl) (by kernel_rfl) (fun _ _ _ h => h) (.inl ⟨by kernel_rfl, fun w' hS => by have s_q := cellFrS (S := none_) (B0.out.cell' (i := 0) rfl) hS id; go_simp; rfl⟩) FQ.out ?_
        refine wpAnyU_take2 (i := 8) (v := _) rfl (by kernel_rfl) (by kernel_rfl) (by kernel_rfl) (by kernel_rfl) (fun _ _ _ h => h) (.inl ⟨by kernel_rfl, fun w' hS => by have s_q := cellFrS (S := none_) (B0.out.cell' (i := 0) rfl) hS id; go_simp; rfl⟩) FQ.out ?_
        refine wpAnyU_take2 (i := 9) (v := _) rfl (by kernel_rfl) (by kernel_rfl) (by kernel_rfl) (by kernel_rfl) (fun _ _ _ h => h) (.inl ⟨by kernel_rfl, fun w' hS => by skip; go_simp; rfl⟩) FQ.out ?_
        refine wpAnyU_take2 (i := 10) (v := _) rfl (by kernel_rfl) (by kernel_rfl) (by kernel_rfl) (by kernel_rfl) (fun _ _ _ h => h) (.inl ⟨by kernel_rfl, fun w' hS => by skip; go_simp; rfl⟩) FQ.out ?_
        refine wpAnyU_done (by kernel_rfl) ?_ _
        clear r3 q0
        go_wp2
        go_meet
        case rel => exact ⟨rfl, FQ.out⟩
      case rest =>
      obtain ⟨rfl, hf⟩ := hcut
      obtain ⟨w1, hnw⟩ : ∃ z, z = wc := ⟨_, rfl⟩
      rw [← hnw] at hf ⊢
      clear hnw
      replace F0 := hid_ (F0.out.then_none hf)
      replace B0 := hid_ (B0.out.fr hf id)
      replace B1 := hid_ (B1.out.fr hf id)
      replace B2 := hid_ (B2.out.fr hf id)
      replace BO := hid_ (BO.out.fr hf id)
      replace HA := hid_ (HA.out.keep hf)
      clear hf
      go_upto_region 5 with fail
      go_cut [30] (fun u wq => u = .bool true ∧ Fr none_ w1 wq)
      case first =>
        have r3 : w1.cell? ⟨w.heap.size + 1 + 1, 3, none⟩ = some (.int .i64 l.rows) := B2.out.cell' rfl
        have q0 : w1.cell? ⟨w.heap.size, 0, none⟩ = some (.int .i64 P.n) := B0.out.cell' rfl
        have hS0 : (fun w' : World => Fr none_ w1 w') w1.drew := (Fr.refl none_ w1).drew
        refine wp_region_U (m := 6) (S := fun w' : World => Fr none_ w1 w') (by kernel_rfl) ?_
        refine wpAnyU_take2 (i := 0) (v := _) rfl (by kernel_rfl) (by kernel_rfl) (by kernel_rfl) (by kernel_rfl) (fun _ _ _ h => h) (yieldsIf_load_mid (by kernel_rfl) 45 (.tmp 3) rfl w.heap.size 0 rfl (pzA P).toList _ (fun w' hS i v hv => cellFr (Blk.range7 (l := (pzA P).toList) B0.out i v hv) hS) Try.underlying45 rfl page_size) hS0 ?_
        refine wpAnyU_take2 (i := 2) (v := _) rfl (by kernel_rfl) (by kernel_rfl) (by kernel_rfl) (by kernel_rfl) (fun _ _ _ h => h) (.inl ⟨by kernel_rfl, fun w' hS => by have s_r3 := cellFr r3 hS; go_simp; rfl⟩) hS0 ?_
        refine wpAnyU_take2 (i := 3) (v := _) rfl (by kernel_rfl) (by kernel_rfl) (by kernel_rfl) (by kernel_rfl) (fun _ _ _ h => h) (.inl ⟨by kernel_rfl, fun w' hS => by have s_r3 := cellFr r3 hS; go_simp; rfl⟩) hS0 ?_
        clear hS0
        refine wpAnyU_one7 (i := 1) rfl (by kernel_rfl) (by kernel_rfl) ?_
        go_simp
        refine (psize_ok P w1.drew HP.out.rows (by have := HP.out.iv.ok.ents.1; exact this)).mono ?_
        rintro e w2 ⟨rfl, hf9⟩
        rw [← HSZ.out]
        have fq : Fr none_ w1 w2 := (Fr.refl none_ w1).drew.then_none hf9
        have FQ := hid_ fq
        clear hf9
        refine ⟨FQ.out, ?_⟩
        replace q0 := cellFr q0 fq
        clear fq
        refine wpAnyU_take2 (i := 4) (v := _) rfl (by kernel_rfl) (by kernel_rfl) (by kernel_rfl) (by kernel_rfl) (fun _ _ _ h => h) (.inl ⟨by kernel_rfl, fun w' hS => by skip; go_simp; rfl⟩) FQ.out ?_
        refine wpAnyU_take2 (i := 5) (v := _) rfl (by kernel_rfl) (by kernel_rfl) (by kernel_rfl) (by kernel_rfl) (fun _ _ _ h => h) (.inl ⟨by kernel_rfl, fun w' hS => by skip; go_simp; rfl⟩) FQ.out ?_
        refine wpAnyU_done (by kernel_rfl) ?_ _
        clear r3 q0
        go_wp2
        go_meet
        case rel => exact ⟨rfl, FQ.out⟩
      case rest =>
      obtain ⟨rfl, hf⟩ := hcut
      obtain ⟨w2, hnw⟩ : ∃ z, z = wc := ⟨_, rfl⟩
      rw [← hnw] at hf ⊢
      clear hnw
      replace F0 := hid_ (F0.out.then_none hf)
      replace B0 := hid_ (B0.out.fr hf id)
      replace B1 := hid_ (B1.out.fr hf id)
      replace B2 := hid_ (B2.out.fr hf id)
      replace BO := hid_ (BO.out.fr hf id)
      replace HA := hid_ (HA.out.keep hf)
      clear hf
      go_wp2_with (refine wpList_store_mid rfl 81 (.tmp 6) (.tmp 36) rfl (w.heap.size + 1 + 1 + 1) 0 (pnA (pnK 7)) rfl rfl (BO.out.there7 rfl) plan_size (by simp [Value.oneCell']) ?_; have ov := BO.out.over7 (pnA (pnK 7)).toList rfl; obtain ⟨w9, hw9⟩ : ∃ z, z = w2.setCells (w.heap.size + 1 + 1 + 1) 0 (pnA (pnK 7)).toList := ⟨_, rfl⟩; rw [← hw9] at ov; change wpList _ _ _ _ _ (w2.setCells (w.heap.size + 1 + 1 + 1) 0 (pnA (pnK 7)).toList); rw [← hw9]; have OV := hid_ ov; clear hw9 ov)
      refine bodyPost_ret (results_cell_tmp7 _ _ rfl (w.heap.size + 1 + 1 + 1) 0 (pnA (pnK 7)).toList _ rfl (Blk.range7 (l := (pnA (pnK 7)).toList) OV.out.1) Try.underlying81 rfl plan_size) rfl ⟨.inl ⟨_, by unfold upkM; rw [if_neg (by have := HC1.out; omega), if_neg (fun h => HN.out h.2), if_pos (by have := HC2.out; omega)], rfl⟩, F0.out.then_only OV.out.2 (.inr (by omega))⟩
  exact absurd (by rw [HSZ.out]; exact hbig) hc2
end Go.Proofs.Ytpjbncbmdfmlpaa
namespace Go.Proofs.Ytpjbncbmdfmlpaa
open Go.RowKit Go.BigFrame
set_option maxRecDepth 100000
set_option linter.unusedVariables false

noncomputable def decR (P : Pz) (key : ByteArray) : Pn :=
  if P.leaf = true then pnK 10 else match childM P.iv key with
  | some p => ⟨1, p.2, nilS, 0, 0, 0, nilS⟩
  | none => pnK 3
noncomputable def decM (P : Pz) (a : Az) (key : ByteArray) (l : L6) (writes : Bool) : Pn :=
  if (P.leaf && P.lv.gone) = true then pnK 3
  else if (writes && (!P.leaf && P.iv.held)) = true then ⟨5, 0, nilS, 0, P.iv.hp, P.iv.hl, P.iv.hk⟩
  else if inS P.low P.high P.unb key = false then beyM P a key writes
  else match (if writes = true then upkM P a l else none) with
  | some x => x
  | none => decR P key
theorem dec_a {P : Pz} {a : Az} {key : ByteArray} {l : L6} {writes : Bool} (h : (P.leaf && P.lv.gone) = true) : decM P a key l writes = pnK 3 := if_pos h
theorem dec_b {P : Pz} {a : Az} {key : ByteArray} {l : L6} {writes : Bool} (h : (P.leaf && P.lv.gone) = false) (h2 : (writes && (!P.leaf && P.iv.held)) = true) : decM P a key l writes = ⟨5, 0, nilS, 0, P.iv.hp, P.iv.hl, P.iv.hk⟩ := by
  unfold decM; rw [if_neg (by rw [h]; decide), if_pos h2]
theorem dec_c {P : Pz} {a : Az} {key : ByteArray} {l : L6} {writes : Bool} (h : (P.leaf && P.lv.gone) = false) (h2 : (writes && (!P.leaf && P.iv.held)) = false) (h3 : inS P.low P.high P.unb key = false) : decM P a key l writes = beyM P a key writes := by
  unfold decM; rw [if_neg (by rw [h]; decide), if_neg (by rw [h2]; decide), if_pos h3]
theorem dec_d {P : Pz} {a : Az} {key : ByteArray} {l : L6} {x : Pn} (h : (P.leaf && P.lv.gone) = false) (h2 : (true && (!P.leaf && P.iv.held)) = false) (h3 : inS P.low P.high P.unb key = true) (h4 : upkM P a l = some x) : decM P a key l true = x := by
  unfold decM; rw [if_neg (by rw [h]; decide), if_neg (by rw [h2]; decide), if_neg (by rw [h3]; decide), if_pos rfl, h4]
theorem dec_e {P : Pz} {a : Az} {key : ByteArray} {l : L6} {writes : Bool} (h : (P.leaf && P.lv.gone) = false) (h2 : (writes && (!P.leaf && P.iv.held)) = false) (h3 : inS P.low P.high P.unb key = true) (h4 : writes = true → upkM P a l = none) : decM P a key l writes = decR P key := by
  unfold decM; rw [if_neg (by rw [h]; decide), if_neg (by rw [h2]; decide), if_neg (by rw [h3]; decide)]
  cases writes with
  | false => rfl
  | true => rw [if_pos rfl, h4 rfl]
theorem pz_range {w : World} {g : Nat} {t : TypeId} {P : Pz} (h : Blk w g t (pzA P)) : w.rangeAt g 12 (vwA P.iv (.slice P.B P.iv.ents.length P.d)).toList := fun j v hv => by
  rw [h.cell]
  match j, hv with
  | 0, hv => exact hv
  | 1, hv => exact hv
  | 2, hv => exact hv
  | 3, hv => exact hv
  | 4, hv => exact hv
  | 5, hv => exact hv
  | 6, hv => exact hv
  | 7, hv => exact hv
  | 8, hv => exact hv
  | k + 9, hv => simp at hv
set_option maxHeartbeats 8000000 in
theorem decide_ok (P : Pz) (a : Az) (key : ByteArray) (l : L6) (writes : Bool) (w : World) (h : PzOk w P) (ha : VwIn w a.V a.B a.d) (hk : SzOk key) (hbig : writes = true → ∀ w', PzOk w' P → VwIn w' a.V a.B a.d → Calls Try.prog 68 #[.agg (pzA P), .agg (azA a), .agg (l6A l)] w' (UpkPost P a l w')) : Calls Try.prog 31 #[.agg (pzA P), .agg (azA a), .string key, .agg (l6A l), .bool writes] w (RetQ (.agg (pnA (decM P a key l writes))) w) := by
  obtain ⟨w0, hw0⟩ : ∃ z, z = (((w.alloc (.cells (pzA P) 45)).alloc (.cells (azA a) 77)).alloc (.cells (l6A l) 28)).alloc (.cells pnZ 81) := ⟨_, rfl⟩
  have f0 : Fr none_ w w0 := by rw [hw0]; exact ((((Fr.refl none_ w).alloc _).alloc _).alloc _).alloc _
  have B0 : Hid (Blk w0 w.heap.size 45 (pzA P)) := hid_ (by rw [hw0]; exact (((Blk.new w _ _).alloc _).alloc _).alloc _)
  have B1 : Hid (Blk w0 (w.heap.size + 1) 77 (azA a)) := hid_ (by rw [hw0]; exact ((Blk.new7 _ _ (by simp)).alloc _).alloc _)
  have B2 : Hid (Blk w0 (w.heap.size + 1 + 1) 28 (l6A l)) := hid_ (by rw [hw0]; exact (Blk.new7 _ _ (by simp)).alloc _)
  have BO : Hid (Blk w0 (w.heap.size + 1 + 1 + 1) 81 pnZ) := hid_ (by rw [hw0]; exact Blk.new7 _ _ (by simp))
  have F0 := hid_ f0
  have HP := hid_ (h.keep f0)
  have HA := hid_ (ha.keep f0)
  have HK := hid_ hk
  have HBIG := hid_ hbig
  clear f0 h ha hk hbig
  go_enter Try.func31, Try.ntmps31
  go_upto_region 1 with fail
  change Code.wp _ _ _ _ ((((w.alloc (.cells (pzA P) 45)).alloc (.cells (azA a) 77)).alloc (.cells (l6A l) 28)).alloc (.cells pnZ 81))
  rw [← hw0]
  clear hw0
  have hso := BO.out.lt
  go_cut [15] (fun u wq => u = .bool (P.leaf && P.lv.gone) ∧ wq = w0)
  case first =>
    have p5 : w0.cell? ⟨w.heap.size, 5, none⟩ = some (.bool P.leaf) := B0.out.cell' rfl
    have p11 : w0.cell? ⟨w.heap.size, 11, none⟩ = some (.bool P.lv.gone) := B0.out.cell' rfl
    cases hl : P.leaf with
    | false =>
      rw [hl] at p5
      have HL := hid_ hl
      clear hl
      go_wp2_with fail
      go_meet
      case rel => exact ⟨by rw [HL.out]; rfl, rfl⟩
    | true =>
      rw [hl] at p5
      have HL := hid_ hl
      clear hl
      go_wp2_with fail
      go_meet
      case rel => exact ⟨by rw [HL.out]; rfl, rfl⟩
  case rest =>
    obtain ⟨rfl, rfl⟩ := hcut
    cases hg : (P.leaf && P.lv.gone) with
    | true =>
      have HG := hid_ hg
      clear hg
      go_wp2_with (refine wpList_store_mid rfl 81 (.tmp 10) (.tmp 42) rfl (w.heap.size + 1 + 1 + 1) 0 (pnA (pnK 3)) rfl rfl (BO.out.there7 rfl) plan_size (by simp [Value.oneCell']) ?_; have ov := BO.out.over7 (pnA (pnK 3)).toList rfl; obtain ⟨w9, hw9⟩ : ∃ z, z = wc.setCells (w.heap.size + 1 + 1 + 1) 0 (pnA (pnK 3)).toList := ⟨_, rfl⟩; rw [← hw9] at ov; change wpList _ _ _ _ _ (wc.setCells (w.heap.size + 1 + 1 + 1) 0 (pnA (pnK 3)).toList); rw [← hw9]; have OV := hid_ ov; clear hw9 ov)
      refine bodyPost_ret (results_cell7 _ _ rfl (w.heap.size + 1 + 1 + 1) 0 (pnA (pnK 3)).toList _ rfl (Blk.range7 (l := (pnA (pnK 3)).toList) OV.out.1) Try.underlying81 rfl plan_size) rfl ⟨?_, F0.out.then_only OV.out.2 (.inr (by omega))⟩
      show Ending.returned (.agg (pnA (pnK 3))) = _
      rw [dec_a HG.out]
    | false =>
      have HG := hid_ hg
      clear hg
      go_upto_region 2 with fail
      go_cut [23] (fun u wq => u = .bool (writes && (!P.leaf && P.iv.held)) ∧ wq = wc)
      case first =>
        have p5 : wc.cell? ⟨w.heap.size, 5, none⟩ = some (.bool P.leaf) := B0.out.cell' rfl
        have p17 : wc.cell? ⟨w.heap.size, 17, none⟩ = some (.bool P.iv.held) := B0.out.cell' rfl
        cases writes with
        | false =>
          go_wp2_with fail
          go_meet
          case rel => exact ⟨by simp, rfl⟩
        | true =>
          cases hl : P.leaf with
          | true =>
            rw [hl] at p5
            have HL := hid_ hl
            clear hl
            go_wp2_with fail
            go_meet
            case rel => exact ⟨by rw [HL.out]; rfl, rfl⟩
          | false =>
            rw [hl] at p5
            have HL := hid_ hl
            clear hl
            go_wp2_with fail
            go_meet
            case rel => exact ⟨by rw [HL.out]; rfl, rfl⟩
      case rest =>
        obtain ⟨rfl, hwx⟩ := hcut
        subst hwx
        cases hh : (writes && (!P.leaf && P.iv.held)) with
        | true =>
          have HH := hid_ hh
          clear hh
          have p18 : wc.cell? ⟨w.heap.size, 18, none⟩ = some (.int .i64 P.iv.hp) := B0.out.cell' rfl
          have p19 : wc.cell? ⟨w.heap.size, 19, none⟩ = some (.int .i64 P.iv.hl) := B0.out.cell' rfl
          have p20 : wc.cell? ⟨w.heap.size, 20, none⟩ = some (.string P.iv.hk) := B0.out.cell' rfl
          go_wp2_with (refine wpList_store_mid rfl 81 (.tmp 10) (.tmp 46) rfl (w.heap.size + 1 + 1 + 1) 0 (pnA (⟨5, 0, nilS, 0, P.iv.hp, P.iv.hl, P.iv.hk⟩ : Pn)) rfl rfl (BO.out.there7 rfl) plan_size (by simp [Value.oneCell']) ?_; have ov := BO.out.over7 (pnA (⟨5, 0, nilS, 0, P.iv.hp, P.iv.hl, P.iv.hk⟩ : Pn)).toList rfl; obtain ⟨w9, hw9⟩ : ∃ z, z = wc.setCells (w.heap.size + 1 + 1 + 1) 0 (pnA (⟨5, 0, nilS, 0, P.iv.hp, P.iv.hl, P.iv.hk⟩ : Pn)).toList := ⟨_, rfl⟩; rw [← hw9] at ov; change wpList _ _ _ _ _ (wc.setCells (w.heap.size + 1 + 1 + 1) 0 (pnA (⟨5, 0, nilS, 0, P.iv.hp, P.iv.hl, P.iv.hk⟩ : Pn)).toList); rw [← hw9]; have OV := hid_ ov; clear hw9 ov)
          refine bodyPost_ret (results_cell7 _ _ rfl (w.heap.size + 1 + 1 + 1) 0 (pnA (⟨5, 0, nilS, 0, P.iv.hp, P.iv.hl, P.iv.hk⟩ : Pn)).toList _ rfl (Blk.range7 (l := (pnA (⟨5, 0, nilS, 0, P.iv.hp, P.iv.hl, P.iv.hk⟩ : Pn)).toList) OV.out.1) Try.underlying81 rfl plan_size) rfl ⟨?_, F0.out.then_only OV.out.2 (.inr (by omega))⟩
          show Ending.returned (.agg (pnA (⟨5, 0, nilS, 0, P.iv.hp, P.iv.hl, P.iv.hk⟩ : Pn))) = _
          rw [dec_b HG.out HH.out]
        | false =>
          have HH := hid_ hh
          clear hh
          go_wp2_with (refine wpList_load_mid rfl 45 (.tmp 5) rfl (w.heap.size) 0 rfl (pzA P).toList _ (Blk.range7 (l := (pzA P).toList) B0.out) Try.underlying45 rfl page_size ?_)
          refine (phas_ok P key wc HP.out.low_ HP.out.high_ HK.out).mono ?_
          rintro e w1 ⟨rfl, hf⟩
          replace F0 := hid_ (F0.out.then_none hf)
          replace B0 := hid_ (B0.out.fr hf id)
          replace B1 := hid_ (B1.out.fr hf id)
          replace B2 := hid_ (B2.out.fr hf id)
          replace BO := hid_ (BO.out.fr hf id)
          replace HA := hid_ (HA.out.keep hf)
          replace HP := hid_ (HP.out.keep hf)
          clear hf
          have hso1 := BO.out.lt
          cases hin : inS P.low P.high P.unb key with
          | false =>
            have HI := hid_ hin
            clear hin
            go_wp2_with (first | (refine wpList_load_mid rfl 45 (.tmp 5) rfl (w.heap.size) 0 rfl (pzA P).toList _ (Blk.range7 (l := (pzA P).toList) B0.out) Try.underlying45 rfl page_size ?_) | (refine wpList_load_mid rfl 77 (.tmp 6) rfl (w.heap.size + 1) 0 rfl (azA a).toList _ (Blk.range7 (l := (azA a).toList) B1.out) Try.underlying77 rfl above_size7 ?_))
            refine (beyond_ok P a key writes w1 HP.out HA.out HK.out).mono ?_
            rintro e w2 ⟨rfl, hf⟩
            replace F0 := hid_ (F0.out.then_none hf)
            replace BO := hid_ (BO.out.fr hf id)
            clear hf
            have hso2 := BO.out.lt
            go_wp2_with (refine wpList_store_mid rfl 81 (.tmp 10) (.tmp 51) rfl (w.heap.size + 1 + 1 + 1) 0 (pnA (beyM P a key writes)) rfl rfl (BO.out.there7 rfl) plan_size (by simp [Value.oneCell']) ?_; have ov := BO.out.over7 (pnA (beyM P a key writes)).toList rfl; obtain ⟨w9, hw9⟩ : ∃ z, z = w2.setCells (w.heap.size + 1 + 1 + 1) 0 (pnA (beyM P a key writes)).toList := ⟨_, rfl⟩; rw [← hw9] at ov; change wpList _ _ _ _ _ (w2.setCells (w.heap.size + 1 + 1 + 1) 0 (pnA (beyM P a key writes)).toList); rw [← hw9]; have OV := hid_ ov; clear hw9 ov)
            refine bodyPost_ret (results_cell7 _ _ rfl (w.heap.size + 1 + 1 + 1) 0 (pnA (beyM P a key writes)).toList _ rfl (Blk.range7 (l := (pnA (beyM P a key writes)).toList) OV.out.1) Try.underlying81 rfl plan_size) rfl ⟨?_, F0.out.then_only OV.out.2 (.inr (by omega))⟩
            show Ending.returned (.agg (pnA (beyM P a key writes))) = _
            rw [dec_c HG.out HH.out HI.out]
          | true =>
            have HI := hid_ hin
            clear hin
            cases writes with
            | true =>
              go_wp2_with (first | (refine wpList_load_mid rfl 45 (.tmp 5) rfl (w.heap.size) 0 rfl (pzA P).toList _ (Blk.range7 (l := (pzA P).toList) B0.out) Try.underlying45 rfl page_size ?_) | (refine wpList_load_mid rfl 77 (.tmp 6) rfl (w.heap.size + 1) 0 rfl (azA a).toList _ (Blk.range7 (l := (azA a).toList) B1.out) Try.underlying77 rfl above_size7 ?_) | (refine wpList_load_mid rfl 28 (.tmp 8) rfl (w.heap.size + 1 + 1) 0 rfl (l6A l).toList _ (Blk.range7 (l := (l6A l).toList) B2.out) Try.underlying28 rfl lim_size7 ?_))
              refine (HBIG.out (by simp) w1 HP.out HA.out).mono ?_
              rintro e w2 ⟨hu, hf⟩
              replace F0 := hid_ (F0.out.then_none hf)
              replace B0 := hid_ (B0.out.fr hf id)
              replace BO := hid_ (BO.out.fr hf id)
              replace HP := hid_ (HP.out.keep hf)
              clear hf
              have hso2 := BO.out.lt
              rcases hu with ⟨p, hu, rfl⟩ | ⟨hu, p, rfl⟩
              · have HU := hid_ hu
                clear hu
                go_upto_region 9 with (refine wpList_store_mid rfl 81 (.tmp 11) (.tmp 57) rfl w2.heap.size 0 (pnA p) rfl rfl (new_there w2 _ pnZ) plan_size (by simp [Value.oneCell']) ?_; obtain ⟨w3, hw3⟩ : ∃ z, z = (w2.alloc (.cells pnZ 81)).setCells w2.heap.size 0 (pnA p).toList := ⟨_, rfl⟩; change wpList _ _ _ _ _ ((w2.alloc (.cells pnZ 81)).setCells w2.heap.size 0 (pnA p).toList); rw [← hw3]; have P3 : Hid (Blk w3 w2.heap.size 81 (pnA p) ∧ Fr none_ w2 w3) := hid_ (by rw [hw3]; exact new_copy w2 _ pnZ (pnA p).toList rfl); clear hw3)
                replace F0 := hid_ (F0.out.then_none P3.out.2)
                replace B0 := hid_ (B0.out.fr P3.out.2 id)
                replace BO := hid_ (BO.out.fr P3.out.2 id)
                replace HP := hid_ (HP.out.keep P3.out.2)
                have hso3 := BO.out.lt
                go_wp2_with (first | (refine wpList_load_mid rfl 81 (.tmp 11) rfl w2.heap.size 0 rfl (pnA p).toList _ (Blk.range7 (l := (pnA p).toList) P3.out.1) Try.underlying81 rfl plan_size ?_) | (refine wpList_store_mid rfl 81 (.tmp 10) (.tmp 60) rfl (w.heap.size + 1 + 1 + 1) 0 (pnA p) rfl rfl (BO.out.there7 rfl) plan_size (by simp [Value.oneCell']) ?_; have ov := BO.out.over7 (pnA p).toList rfl; obtain ⟨w9, hw9⟩ : ∃ z, z = w3.setCells (w.heap.size + 1 + 1 + 1) 0 (pnA p).toList := ⟨_, rfl⟩; rw [← hw9] at ov; change wpList _ _ _ _ _ (w3.setCells (w.heap.size + 1 + 1 + 1) 0 (pnA p).toList); rw [← hw9]; have OV := hid_ ov; clear hw9 ov))
                refine bodyPost_ret (results_cell7 _ _ rfl (w.heap.size + 1 + 1 + 1) 0 (pnA p).toList _ rfl (Blk.range7 (l := (pnA p).toList) OV.out.1) Try.underlying81 rfl plan_size) rfl ⟨?_, F0.out.then_only OV.out.2 (.inr (by omega))⟩
                show Ending.returned (.agg (pnA p)) = _
                rw [dec_d HG.out HH.out HI.out HU.out]
              · have HU := hid_ hu
                clear hu
                go_upto_region 9 with (refine wpList_store_mid rfl 81 (.tmp 11) (.tmp 57) rfl w2.heap.size 0 (pnA p) rfl rfl (new_there w2 _ pnZ) plan_size (by simp [Value.oneCell']) ?_; obtain ⟨w3, hw3⟩ : ∃ z, z = (w2.alloc (.cells pnZ 81)).setCells w2.heap.size 0 (pnA p).toList := ⟨_, rfl⟩; change wpList _ _ _ _ _ ((w2.alloc (.cells pnZ 81)).setCells w2.heap.size 0 (pnA p).toList); rw [← hw3]; have P3 : Hid (Blk w3 w2.heap.size 81 (pnA p) ∧ Fr none_ w2 w3) := hid_ (by rw [hw3]; exact new_copy w2 _ pnZ (pnA p).toList rfl); clear hw3)
                replace F0 := hid_ (F0.out.then_none P3.out.2)
                replace B0 := hid_ (B0.out.fr P3.out.2 id)
                replace BO := hid_ (BO.out.fr P3.out.2 id)
                replace HP := hid_ (HP.out.keep P3.out.2)
                have hso3 := BO.out.lt
                clear P3
                have HE : Hid (decM P a key l true = decR P key) := hid_ (dec_e HG.out HH.out HI.out (fun _ => HU.out))
                obtain ⟨wr, hwr⟩ : ∃ z, z = w3 := ⟨_, rfl⟩
                rw [← hwr] at F0 B0 BO HP hso3 ⊢
                clear hwr
                have p5 : wr.cell? ⟨w.heap.size, 5, none⟩ = some (.bool P.leaf) := B0.out.cell' rfl
                cases hl : P.leaf with
                | true =>
                  rw [hl] at p5
                  have HL := hid_ hl
                  clear hl
                  go_wp2_with (refine wpList_store_mid rfl 81 (.tmp 10) (.tmp 63) rfl (w.heap.size + 1 + 1 + 1) 0 (pnA (pnK 10)) rfl rfl (BO.out.there7 rfl) plan_size (by simp [Value.oneCell']) ?_; have ov := BO.out.over7 (pnA (pnK 10)).toList rfl; obtain ⟨w9, hw9⟩ : ∃ z, z = wr.setCells (w.heap.size + 1 + 1 + 1) 0 (pnA (pnK 10)).toList := ⟨_, rfl⟩; rw [← hw9] at ov; change wpList _ _ _ _ _ (wr.setCells (w.heap.size + 1 + 1 + 1) 0 (pnA (pnK 10)).toList); rw [← hw9]; have OV := hid_ ov; clear hw9 ov)
                  refine bodyPost_ret (results_cell7 _ _ rfl (w.heap.size + 1 + 1 + 1) 0 (pnA (pnK 10)).toList _ rfl (Blk.range7 (l := (pnA (pnK 10)).toList) OV.out.1) Try.underlying81 rfl plan_size) rfl ⟨?_, F0.out.then_only OV.out.2 (.inr (by omega))⟩
                  show Ending.returned (.agg (pnA (pnK 10))) = _
                  rw [HE.out, show decR P key = pnK 10 from if_pos HL.out]
                | false =>
                  rw [hl] at p5
                  have HL := hid_ hl
                  clear hl
                  go_wp2_with (refine wpList_load_mid rfl 43 (.tmp 65) rfl w.heap.size 12 rfl (vwA P.iv (.slice P.B P.iv.ents.length P.d)).toList _ (pz_range B0.out) Try.underlying43 rfl view_size7 ?_)
                  refine (child_ok P.iv P.B P.d key wr HP.out.iv HK.out).mono ?_
                  rintro e w5 ⟨hc, hf⟩
                  replace F0 := hid_ (F0.out.then_none hf)
                  replace BO := hid_ (BO.out.fr hf id)
                  clear hf p5
                  have hso5 := BO.out.lt
                  rcases hc with ⟨p, hc, rfl⟩ | ⟨hc, rfl⟩
                  · have HC := hid_ hc
                    clear hc
                    go_upto_region 14 with fail
                    obtain ⟨w6, hw6⟩ : ∃ z, z = w5.alloc (.cells #[.string p.1, .int .i64 p.2] 64) := ⟨_, rfl⟩
                    have f6 : Fr none_ w5 w6 := by rw [hw6]; exact (Fr.refl none_ w5).alloc _
                    have B6 : Hid (Blk w6 w5.heap.size 64 #[.string p.1, .int .i64 p.2]) := hid_ (by rw [hw6]; exact Blk.new w5 _ _)
                    change Code.wp _ _ _ _ (w5.alloc (.cells #[.string p.1, .int .i64 p.2] 64))
                    rw [← hw6]
                    clear hw6
                    replace F0 := hid_ (F0.out.then_none f6)
                    replace BO := hid_ (BO.out.fr f6 id)
                    clear f6
                    have hso6 := BO.out.lt
                    have e1 : w6.cell? ⟨w5.heap.size, 1, none⟩ = some (.int .i64 p.2) := B6.out.cell' rfl
                    go_wp2_with (refine wpList_store_mid rfl 81 (.tmp 10) (.tmp 76) rfl (w.heap.size + 1 + 1 + 1) 0 (pnA (⟨1, p.2, nilS, 0, 0, 0, nilS⟩ : Pn)) rfl rfl (BO.out.there7 rfl) plan_size (by simp [Value.oneCell']) ?_; have ov := BO.out.over7 (pnA (⟨1, p.2, nilS, 0, 0, 0, nilS⟩ : Pn)).toList rfl; obtain ⟨w9, hw9⟩ : ∃ z, z = w6.setCells (w.heap.size + 1 + 1 + 1) 0 (pnA (⟨1, p.2, nilS, 0, 0, 0, nilS⟩ : Pn)).toList := ⟨_, rfl⟩; rw [← hw9] at ov; change wpList _ _ _ _ _ (w6.setCells (w.heap.size + 1 + 1 + 1) 0 (pnA (⟨1, p.2, nilS, 0, 0, 0, nilS⟩ : Pn)).toList); rw [← hw9]; have OV := hid_ ov; clear hw9 ov)
                    refine bodyPost_ret (results_cell7 _ _ rfl (w.heap.size + 1 + 1 + 1) 0 (pnA (⟨1, p.2, nilS, 0, 0, 0, nilS⟩ : Pn)).toList _ rfl (Blk.range7 (l := (pnA (⟨1, p.2, nilS, 0, 0, 0, nilS⟩ : Pn)).toList) OV.out.1) Try.underlying81 rfl plan_size) rfl ⟨?_, F0.out.then_only OV.out.2 (.inr (by omega))⟩
                    show Ending.returned (.agg (pnA (⟨1, p.2, nilS, 0, 0, 0, nilS⟩ : Pn))) = _
                    rw [HE.out, show decR P key = _ by unfold decR; rw [if_neg (by rw [HL.out]; decide), HC.out]]
                  · have HC := hid_ hc
                    clear hc
                    go_upto_region 14 with fail
                    obtain ⟨w6, hw6⟩ : ∃ z, z = w5.alloc (.cells #[.string nilS, .int .i64 0] 64) := ⟨_, rfl⟩
                    have f6 : Fr none_ w5 w6 := by rw [hw6]; exact (Fr.refl none_ w5).alloc _
                    have B6 : Hid (Blk w6 w5.heap.size 64 #[.string nilS, .int .i64 0]) := hid_ (by rw [hw6]; exact Blk.new w5 _ _)
                    change Code.wp _ _ _ _ (w5.alloc (.cells #[.string nilS, .int .i64 0] 64))
                    rw [← hw6]
                    clear hw6
                    replace F0 := hid_ (F0.out.then_none f6)
                    replace BO := hid_ (BO.out.fr f6 id)
                    clear f6
                    have hso6 := BO.out.lt
                    go_wp2_with (refine wpList_store_mid rfl 81 (.tmp 10) (.tmp 73) rfl (w.heap.size + 1 + 1 + 1) 0 (pnA (pnK 3)) rfl rfl (BO.out.there7 rfl) plan_size (by simp [Value.oneCell']) ?_; have ov := BO.out.over7 (pnA (pnK 3)).toList rfl; obtain ⟨w9, hw9⟩ : ∃ z, z = w6.setCells (w.heap.size + 1 + 1 + 1) 0 (pnA (pnK 3)).toList := ⟨_, rfl⟩; rw [← hw9] at ov; change wpList _ _ _ _ _ (w6.setCells (w.heap.size + 1 + 1 + 1) 0 (pnA (pnK 3)).toList); rw [← hw9]; have OV := hid_ ov; clear hw9 ov)
                    refine bodyPost_ret (results_cell7 _ _ rfl (w.heap.size + 1 + 1 + 1) 0 (pnA (pnK 3)).toList _ rfl (Blk.range7 (l := (pnA (pnK 3)).toList) OV.out.1) Try.underlying81 rfl plan_size) rfl ⟨?_, F0.out.then_only OV.out.2 (.inr (by omega))⟩
                    show Ending.returned (.agg (pnA (pnK 3))) = _
                    rw [HE.out, show decR P key = _ by unfold decR; rw [if_neg (by rw [HL.out]; decide), HC.out]]
            | false =>
              have HE : Hid (decM P a key l false = decR P key) := hid_ (dec_e HG.out HH.out HI.out (fun h => by cases h))
              have hso3 := BO.out.lt
              obtain ⟨wr, hwr⟩ : ∃ z, z = w1 := ⟨_, rfl⟩
              rw [← hwr] at F0 B0 BO HP hso3 ⊢
              clear hwr
              have p5 : wr.cell? ⟨w.heap.size, 5, none⟩ = some (.bool P.leaf) := B0.out.cell' rfl
              cases hl : P.leaf with
              | true =>
                rw [hl] at p5
                have HL := hid_ hl
                clear hl
                go_wp2_with (refine wpList_store_mid rfl 81 (.tmp 10) (.tmp 63) rfl (w.heap.size + 1 + 1 + 1) 0 (pnA (pnK 10)) rfl rfl (BO.out.there7 rfl) plan_size (by simp [Value.oneCell']) ?_; have ov := BO.out.over7 (pnA (pnK 10)).toList rfl; obtain ⟨w9, hw9⟩ : ∃ z, z = wr.setCells (w.heap.size + 1 + 1 + 1) 0 (pnA (pnK 10)).toList := ⟨_, rfl⟩; rw [← hw9] at ov; change wpList _ _ _ _ _ (wr.setCells (w.heap.size + 1 + 1 + 1) 0 (pnA (pnK 10)).toList); rw [← hw9]; have OV := hid_ ov; clear hw9 ov)
                refine bodyPost_ret (results_cell7 _ _ rfl (w.heap.size + 1 + 1 + 1) 0 (pnA (pnK 10)).toList _ rfl (Blk.range7 (l := (pnA (pnK 10)).toList) OV.out.1) Try.underlying81 rfl plan_size) rfl ⟨?_, F0.out.then_only OV.out.2 (.inr (by omega))⟩
                show Ending.returned (.agg (pnA (pnK 10))) = _
                rw [HE.out, show decR P key = pnK 10 from if_pos HL.out]
              | false =>
                rw [hl] at p5
                have HL := hid_ hl
                clear hl
                go_wp2_with (refine wpList_load_mid rfl 43 (.tmp 65) rfl w.heap.size 12 rfl (vwA P.iv (.slice P.B P.iv.ents.length P.d)).toList _ (pz_range B0.out) Try.underlying43 rfl view_size7 ?_)
                refine (child_ok P.iv P.B P.d key wr HP.out.iv HK.out).mono ?_
                rintro e w5 ⟨hc, hf⟩
                replace F0 := hid_ (F0.out.then_none hf)
                replace BO := hid_ (BO.out.fr hf id)
                clear hf p5
                have hso5 := BO.out.lt
                rcases hc with ⟨p, hc, rfl⟩ | ⟨hc, rfl⟩
                · have HC := hid_ hc
                  clear hc
                  go_upto_region 14 with fail
                  obtain ⟨w6, hw6⟩ : ∃ z, z = w5.alloc (.cells #[.string p.1, .int .i64 p.2] 64) := ⟨_, rfl⟩
                  have f6 : Fr none_ w5 w6 := by rw [hw6]; exact (Fr.refl none_ w5).alloc _
                  have B6 : Hid (Blk w6 w5.heap.size 64 #[.string p.1, .int .i64 p.2]) := hid_ (by rw [hw6]; exact Blk.new w5 _ _)
                  change Code.wp _ _ _ _ (w5.alloc (.cells #[.string p.1, .int .i64 p.2] 64))
                  rw [← hw6]
                  clear hw6
                  replace F0 := hid_ (F0.out.then_none f6)
                  replace BO := hid_ (BO.out.fr f6 id)
                  clear f6
                  have hso6 := BO.out.lt
                  have e1 : w6.cell? ⟨w5.heap.size, 1, none⟩ = some (.int .i64 p.2) := B6.out.cell' rfl
                  go_wp2_with (refine wpList_store_mid rfl 81 (.tmp 10) (.tmp 76) rfl (w.heap.size + 1 + 1 + 1) 0 (pnA (⟨1, p.2, nilS, 0, 0, 0, nilS⟩ : Pn)) rfl rfl (BO.out.there7 rfl) plan_size (by simp [Value.oneCell']) ?_; have ov := BO.out.over7 (pnA (⟨1, p.2, nilS, 0, 0, 0, nilS⟩ : Pn)).toList rfl; obtain ⟨w9, hw9⟩ : ∃ z, z = w6.setCells (w.heap.size + 1 + 1 + 1) 0 (pnA (⟨1, p.2, nilS, 0, 0, 0, nilS⟩ : Pn)).toList := ⟨_, rfl⟩; rw [← hw9] at ov; change wpList _ _ _ _ _ (w6.setCells (w.heap.size + 1 + 1 + 1) 0 (pnA (⟨1, p.2, nilS, 0, 0, 0, nilS⟩ : Pn)).toList); rw [← hw9]; have OV := hid_ ov; clear hw9 ov)
                  refine bodyPost_ret (results_cell7 _ _ rfl (w.heap.size + 1 + 1 + 1) 0 (pnA (⟨1, p.2, nilS, 0, 0, 0, nilS⟩ : Pn)).toList _ rfl (Blk.range7 (l := (pnA (⟨1, p.2, nilS, 0, 0, 0, nilS⟩ : Pn)).toList) OV.out.1) Try.underlying81 rfl plan_size) rfl ⟨?_, F0.out.then_only OV.out.2 (.inr (by omega))⟩
                  show Ending.returned (.agg (pnA (⟨1, p.2, nilS, 0, 0, 0, nilS⟩ : Pn))) = _
                  rw [HE.out, show decR P key = _ by unfold decR; rw [if_neg (by rw [HL.out]; decide), HC.out]]
                · have HC := hid_ hc
                  clear hc
                  go_upto_region 14 with fail
                  obtain ⟨w6, hw6⟩ : ∃ z, z = w5.alloc (.cells #[.string nilS, .int .i64 0] 64) := ⟨_, rfl⟩
                  have f6 : Fr none_ w5 w6 := by rw [hw6]; exact (Fr.refl none_ w5).alloc _
                  have B6 : Hid (Blk w6 w5.heap.size 64 #[.string nilS, .int .i64 0]) := hid_ (by rw [hw6]; exact Blk.new w5 _ _)
                  change Code.wp _ _ _ _ (w5.alloc (.cells #[.string nilS, .int .i64 0] 64))
                  rw [← hw6]
                  clear hw6
                  replace F0 := hid_ (F0.out.then_none f6)
                  replace BO := hid_ (BO.out.fr f6 id)
                  clear f6
                  have hso6 := BO.out.lt
                  go_wp2_with (refine wpList_store_mid rfl 81 (.tmp 10) (.tmp 73) rfl (w.heap.size + 1 + 1 + 1) 0 (pnA (pnK 3)) rfl rfl (BO.out.there7 rfl) plan_size (by simp [Value.oneCell']) ?_; have ov := BO.out.over7 (pnA (pnK 3)).toList rfl; obtain ⟨w9, hw9⟩ : ∃ z, z = w6.setCells (w.heap.size + 1 + 1 + 1) 0 (pnA (pnK 3)).toList := ⟨_, rfl⟩; rw [← hw9] at ov; change wpList _ _ _ _ _ (w6.setCells (w.heap.size + 1 + 1 + 1) 0 (pnA (pnK 3)).toList); rw [← hw9]; have OV := hid_ ov; clear hw9 ov)
                  refine bodyPost_ret (results_cell7 _ _ rfl (w.heap.size + 1 + 1 + 1) 0 (pnA (pnK 3)).toList _ rfl (Blk.range7 (l := (pnA (pnK 3)).toList) OV.out.1) Try.underlying81 rfl plan_size) rfl ⟨?_, F0.out.then_only OV.out.2 (.inr (by omega))⟩
                  show Ending.returned (.agg (pnA (pnK 3))) = _
                  rw [HE.out, show decR P key = _ by unfold decR; rw [if_neg (by rw [HL.out]; decide), HC.out]]
end Go.Proofs.Ytpjbncbmdfmlpaa
namespace Go.Proofs.Ytpjbncbmdfmlpaa
open Go.RowKit Go.BigFrame
set_option maxRecDepth 100000
set_option linter.unusedVariables false

/-- A guarded load of a whole struct. -/
theorem wpList_load_midG {P : Program} {ops : Array Oper} {rest : List Oper} {op : Oper} {a : Act} {w : World} {Q : Exit → Act → World → Prop} (hw : Region.wanted op (yielded ops a.tmps) = true) (ty : TypeId) (x : Operand) (ho : op.op = .load ty x)
    (b o : Nat) (hx : a.eval x = .pointer (some ⟨b, o, none⟩)) (cs : List Value) (d : TypeDesc) (hc : w.rangeAt b o cs)
    (hu : P.underlying ty = some d) (hd : d.isRow = true) (hi : (P.info? ty).map (·.size) = some cs.length)
    (h : wpList P ops Q rest (a.put op.dst (.agg cs.toArray)) w) : wpList P ops Q (op :: rest) a w := by
  unfold wpList
  rw [if_pos hw]
  exact .inl (wp_load_mid ty x ho b o hx cs d hc hu hd hi h)
def nmL : List ByteArray := [⟨#[]⟩, ⟨#[100, 111, 119, 110]⟩, ⟨#[97, 99, 114, 111, 115, 115]⟩, ⟨#[97, 103, 97, 105, 110]⟩, ⟨#[112, 111, 115, 116]⟩, ⟨#[104, 101, 108, 112]⟩, ⟨#[116, 105, 100, 121]⟩, ⟨#[115, 112, 108, 105, 116]⟩, ⟨#[103, 114, 111, 119]⟩, ⟨#[104, 111, 108, 100]⟩, ⟨#[97, 99, 116]⟩]
def nameM (k : Int) : ByteArray := if 1 ≤ k ∧ k ≤ 10 then (nmL[k.toNat]?).getD nilS else nilS
theorem ten {k : Int} (h : 1 ≤ k ∧ k ≤ 10) : k = 1 ∨ k = 2 ∨ k = 3 ∨ k = 4 ∨ k = 5 ∨ k = 6 ∨ k = 7 ∨ k = 8 ∨ k = 9 ∨ k = 10 := by omega
set_option maxHeartbeats 4000000 in
theorem name_ok (k : Int) (w : World) : Calls Try.prog 27 #[.int .i64 k] w (RetQ (.string (nameM k)) w) := by
  by_cases h : 1 ≤ k ∧ k ≤ 10
  · rcases ten h with rfl | rfl | rfl | rfl | rfl | rfl | rfl | rfl | rfl | rfl
    · clear h
      go_enter Try.func27, Try.ntmps27
      go_wp2
      go_ret
      exact ⟨rfl, Fr.refl _ _⟩
    · clear h
      go_enter Try.func27, Try.ntmps27
      go_wp2
      go_ret
      exact ⟨rfl, Fr.refl _ _⟩
    · clear h
      go_enter Try.func27, Try.ntmps27
      go_wp2
      go_ret
      exact ⟨rfl, Fr.refl _ _⟩
    · clear h
      go_enter Try.func27, Try.ntmps27
      go_wp2
      go_ret
      exact ⟨rfl, Fr.refl _ _⟩
    · clear h
      go_enter Try.func27, Try.ntmps27
      go_wp2
      go_ret
      exact ⟨rfl, Fr.refl _ _⟩
    · clear h
      go_enter Try.func27, Try.ntmps27
      go_wp2
      go_ret
      exact ⟨rfl, Fr.refl _ _⟩
    · clear h
      go_enter Try.func27, Try.ntmps27
      go_wp2
      go_ret
      exact ⟨rfl, Fr.refl _ _⟩
    · clear h
      go_enter Try.func27, Try.ntmps27
      go_wp2
      go_ret
      exact ⟨rfl, Fr.refl _ _⟩
    · clear h
      go_enter Try.func27, Try.ntmps27
      go_wp2
      go_ret
      exact ⟨rfl, Fr.refl _ _⟩
    · clear h
      go_enter Try.func27, Try.ntmps27
      go_wp2
      go_ret
      exact ⟨rfl, Fr.refl _ _⟩
  · have hn : nameM k = nilS := if_neg h
    have HN := hid_ hn
    have e1 : (k == 1) = false := beq_eq_false_iff_ne.2 (by omega)
    have e2 : (k == 2) = false := beq_eq_false_iff_ne.2 (by omega)
    have e3 : (k == 3) = false := beq_eq_false_iff_ne.2 (by omega)
    have e4 : (k == 4) = false := beq_eq_false_iff_ne.2 (by omega)
    have e5 : (k == 5) = false := beq_eq_false_iff_ne.2 (by omega)
    have e6 : (k == 6) = false := beq_eq_false_iff_ne.2 (by omega)
    have e7 : (k == 7) = false := beq_eq_false_iff_ne.2 (by omega)
    have e8 : (k == 8) = false := beq_eq_false_iff_ne.2 (by omega)
    have e9 : (k == 9) = false := beq_eq_false_iff_ne.2 (by omega)
    have e10 : (k == 10) = false := beq_eq_false_iff_ne.2 (by omega)
    clear h hn
    go_enter Try.func27, Try.ntmps27
    go_wp2
    go_ret
    exact ⟨by rw [HN.out]; rfl, Fr.refl _ _⟩
end Go.Proofs.Ytpjbncbmdfmlpaa

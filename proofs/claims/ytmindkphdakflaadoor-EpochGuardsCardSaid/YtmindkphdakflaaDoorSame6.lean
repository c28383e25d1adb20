/- Layer 6's same: the clock is the document's. -/
import Derived.Test.YtmindkphdakflaaDoorDoes6
import Derived.Test.YtmindkphdakflaaDoorIs
namespace Go.Proofs.YtmindkphdakflaaDoor
open Go.RowKit
set_option maxRecDepth 100000
set_option linter.unusedVariables false

structure Sm6 (w w' : World) (C M : Nat) (now last : Int) (v : Value) (S : List Int) (k : Nat) : Prop where
  b0 : Blk w' w.heap.size 28 #[.int .i64 now, .int .i64 last, v]
  ck : Ck w' C M now last S k
  own : SOwn w' v S
  fr : Fr none_ w w'
theorem Sm6.keep {w w' w2 : World} {C M k : Nat} {now last : Int} {v : Value} {S : List Int} (h : Sm6 w w' C M now last v S k) (hf : Fr none_ w' w2) : Sm6 w w2 C M now last v S k :=
  ⟨h.b0.fr hf id, h.ck.keep hf, own_none h.own hf, h.fr.then_none hf⟩

set_option maxHeartbeats 4000000 in
theorem same6_ok (C M k : Nat) (now last : Int) (A : Option Addr) (cp : Nat) (S : List Int) (w : World) (hk : Ck w C M now last S k) (ho : SOwn w (.slice A S.length cp) S) :
    Calls Tryd.prog 21 #[.pointer (some ⟨C, 0, none⟩), rclk now last (.slice A S.length cp)] w fun e w' => e = .returned (.bool true) ∧ Fr none_ w w' := by
  obtain ⟨bd1, bd2, bd3, bd4, bd5, bd6⟩ := hk.bd
  obtain ⟨w0, hw0⟩ : ∃ w0, w0 = w.alloc (rclkB now last (.slice A S.length cp)) := ⟨_, rfl⟩
  have hf0 : Fr none_ w w0 := by rw [hw0]; exact (Fr.refl none_ w).alloc _
  have M0 : Hid (Sm6 w w0 C M now last (.slice A S.length cp) S k) := hid_ ⟨by rw [hw0]; exact Blk.new w _ _, hk.keep hf0, own_none ho hf0, hf0⟩
  have Bd6 := hid_ bd6
  clear hf0 hk ho bd6
  go_enter Tryd.func21, Tryd.ntmps21
  go_wp2_with fail
  change Code.wp _ _ _ _ (w.alloc (rclkB now last (.slice A S.length cp)))
  rw [← hw0]
  clear hw0
  have c0 : w0.cell? ⟨w.heap.size, 0, none⟩ = some (.int .i64 now) := M0.out.b0.cell' rfl
  have c1 : w0.cell? ⟨w.heap.size, 1, none⟩ = some (.int .i64 last) := M0.out.b0.cell' rfl
  have c2 : w0.cell? ⟨w.heap.size, 2, none⟩ = some (.slice A S.length cp) := M0.out.b0.cell' rfl
  go_region_held3 (fun w' => w'.cell? ⟨w.heap.size, 0, none⟩ = some (.int .i64 now) ∧ w'.cell? ⟨w.heap.size, 1, none⟩ = some (.int .i64 last) ∧ w'.cell? ⟨w.heap.size, 2, none⟩ = some (.slice A S.length cp))
    (first | exact ⟨c0, c1, c2⟩ | exact ⟨M1.out.b0.cell' rfl, M1.out.b0.cell' rfl, M1.out.b0.cell' rfl⟩ | exact ⟨M2.out.b0.cell' rfl, M2.out.b0.cell' rfl, M2.out.b0.cell' rfl⟩)
    (first
      | (go_at_call 12; refine (now_ck (M0.out.keep ((Fr.refl none_ w0).drew)).ck).mono ?_; rintro e w1 ⟨rfl, rfl⟩)
      | (go_at_call 14; refine (oldest_ck (M0.out.keep ((Fr.refl none_ w0).drew)).ck).mono ?_; rintro e w1 ⟨rfl, hf1⟩; have M1 := hid_ (M0.out.keep (((Fr.refl none_ w0).drew).then_none hf1)); clear hf1)
      | (go_at_call 31; refine (roldest_any now last A cp S _ M1.out.own bd2).mono ?_; rintro e w2 ⟨rfl, hf2⟩; have M2 := hid_ (M1.out.keep hf2); clear hf2))
  clear c0 c1 c2
  have c2 : w2.cell? ⟨w.heap.size, 2, none⟩ = some (.slice A S.length cp) := M2.out.b0.cell' rfl
  go_wp2_with fail
  go_loopw [31] (fun i wr => ∃ j : Nat, j ≤ S.length ∧ i = .int .i64 j ∧ Fr none_ w2 wr) (fun i _ => S.length - (intOf i).toNat)
  case atStart => exact ⟨0, Nat.zero_le _, rfl, Fr.refl _ _⟩
  case round =>
    obtain ⟨j, hj, rfl, hF⟩ := hrel
    have F := hid_ hF
    have M3 := hid_ (M2.out.keep hF)
    clear hF
    by_cases hlt : j < S.length
    · obtain ⟨x, hx⟩ : ∃ x, S[j]? = some x := ⟨_, List.getElem?_eq_getElem hlt⟩
      obtain ⟨g, rfl, hgl, d0⟩ := sown_cell M3.out.own hx
      have Hx := hid_ hx
      have hx0 := (Bd6.out x (List.mem_of_getElem? hx)).1
      clear hx
      go_wp2_with fail
      refine (at_ck M3.out.ck Hx.out).mono ?_
      rintro e w4 ⟨rfl, rfl⟩
      by_cases h0 : 0 < x
      · have hd : decide (0 < x) = true := by simpa using h0
        rw [hd]
        clear hd
        go_wp2
        go_roundw
        case rel => exact ⟨j + 1, by omega, by go_num, F.out⟩
        case measure => simp [intOf]; omega
      · have hd : decide (0 < x) = false := by simpa using h0
        rw [hd]
        clear hd
        go_wp2
        go_roundw
        case rel => exact ⟨j + 1, by omega, by go_num, F.out⟩
        case measure => simp [intOf]; omega
    · obtain rfl : j = S.length := by omega
      have c3 : wr.cell? ⟨w.heap.size, 2, none⟩ = some (.slice A S.length cp) := M3.out.b0.cell' rfl
      go_wp2_with fail
      refine (at_ck_no M3.out.ck (t := S.length) (.inr (Int.le_refl _))).mono ?_
      rintro e w4 ⟨rfl, rfl⟩
      go_wp2_with fail
      refine (at_ck_no M3.out.ck (t := -1) (.inl (by omega))).mono ?_
      rintro e w4 ⟨rfl, rfl⟩
      go_wp2_with fail
      refine (isF 1 1 _).mono ?_
      rintro e w4 ⟨rfl, rfl⟩
      go_wp2_with fail
      refine (isF 1 1 _).mono ?_
      rintro e w4 ⟨rfl, rfl⟩
      go_wp2
      go_ret
      exact ⟨rfl, M3.out.fr⟩
end Go.Proofs.YtmindkphdakflaaDoor

/- view, and rowlockref08's Same and SameEntries at views that hold the same, by contract. -/
import Derived.Test.YtfoljojacakkeaaDoorChild
namespace Go.Proofs.YtfoljojacakkeaaDoor
open Go.RowKit Go.BigFrame
set_option maxRecDepth 100000
set_option linter.unusedVariables false

set_option maxHeartbeats 2000000 in
theorem view_ok (V : Vw) (A : Option Addr) (c : Nat) (w : World) : Calls Tryd.prog 39 #[vwV V (.slice A V.ents.length c)] w fun e w' => e = .returned (vwV V (.slice A V.ents.length c)) ∧ Fr none_ w w' := by
  go_enter Tryd.func39, Tryd.ntmps39
  go_wp2
  have K := Blk.new (w.alloc (.cells (vwA V (.slice A V.ents.length c)) 57)) 52 (vwA V (.slice A V.ents.length c))
  rw [World.size_alloc] at K
  have q0 := K.cell' (i := 0) rfl
  have q1 := K.cell' (i := 1) rfl
  have q2 := K.cell' (i := 2) rfl
  have q3 := K.cell' (i := 3) rfl
  have q4 := K.cell' (i := 4) rfl
  have q5 := K.cell' (i := 5) rfl
  have q6 := K.cell' (i := 6) rfl
  have q7 := K.cell' (i := 7) rfl
  have q8 := K.cell' (i := 8) rfl
  have F := ((Fr.refl none_ w).alloc (.cells (vwA V (.slice A V.ents.length c)) 57)).alloc (.cells (vwA V (.slice A V.ents.length c)) 52)
  clear K
  refine bodyPost_ret (v := vwV V (.slice A V.ents.length c)) ?_ rfl ⟨rfl, F⟩
  simp [results, Tryd.results39, go_sem, q0, q1, q2, q3, q4, q5, q6, q7, q8]

set_option maxHeartbeats 2000000 in
theorem sameEntries_ok (L : List Et) (A A2 : Option Addr) (c c2 : Nat) (w : World) (h : Reads w 2 A L.length (etFlat L)) (h2 : Reads w 2 A2 L.length (etFlat L)) (hl : L.length ≤ 2000) :
    Calls Tryd.prog 76 #[.slice A L.length c, .slice A2 L.length c2] w fun e w' => e = .returned (.bool true) ∧ Fr none_ w w' := by
  have H := hid_ (And.intro h h2)
  clear h h2
  go_enter Tryd.func76, Tryd.ntmps76
  go_wp2_with fail
  go_loopw [5] (fun i wr => ∃ k : Nat, k ≤ L.length ∧ i = .int .i64 k ∧ Fr none_ w wr) (fun i _ => L.length - (intOf i).toNat)
  case atStart => exact ⟨0, Nat.zero_le _, rfl, Fr.refl _ _⟩
  case round =>
    obtain ⟨k, hk, rfl, hF⟩ := hrel
    have F := hid_ hF
    have R1 := hid_ (H.out.1.none_fr hF)
    have R2 := hid_ (H.out.2.none_fr hF)
    clear hF
    have hi0 : (0 : Int) ≤ (k : Int) := Int.natCast_nonneg _
    by_cases hlt : k < L.length
    · obtain ⟨p, hp⟩ : ∃ p, L[k]? = some p := ⟨_, List.getElem?_eq_getElem hlt⟩
      obtain ⟨b1, o1, rfl, hb1, d0, d1⟩ := et_at R1.out hp
      obtain ⟨b2, o2, rfl, hb2, e0, e1⟩ := et_at R2.out hp
      have hi1 : (k : Int) < (L.length : Int) := by omega
      clear hp
      go_wp2_with fail
      go_quiet (fail)
      have FQ := hid_ (F.out.drewN nq)
      clear d0 d1 e0 e1
      go_wp2
      go_roundw
      case rel => exact ⟨k + 1, by omega, by go_num, FQ.out⟩
      case measure => simp [intOf]; omega
    · obtain rfl : k = L.length := by omega
      go_wp2
      go_ret
      exact ⟨rfl, F.out⟩
set_option maxHeartbeats 4000000 in
theorem same8_ok (V : Vw) (A A2 : Option Addr) (c c2 : Nat) (w : World) (h : Reads w 2 A V.ents.length (etFlat V.ents)) (h2 : Reads w 2 A2 V.ents.length (etFlat V.ents)) (hl : V.ents.length ≤ 2000) :
    Calls Tryd.prog 38 #[vwV V (.slice A V.ents.length c), vwV V (.slice A2 V.ents.length c2)] w fun e w' => e = .returned (.bool true) ∧ Fr none_ w w' := by
  have F := ((Fr.refl none_ w).alloc (.cells (vwA V (.slice A V.ents.length c)) 52)).alloc (.cells (vwA V (.slice A2 V.ents.length c2)) 52)
  have HF := hid_ F
  have H := hid_ (And.intro (h.none_fr F) (h2.none_fr F))
  clear h h2 F
  go_enter Tryd.func38, Tryd.ntmps38
  go_wp2_with fail
  refine (sameEntries_ok V.ents A A2 c c2 _ H.out.1 H.out.2 hl).mono ?_
  rintro e w1 ⟨rfl, hf1⟩
  have F1 := hid_ (HF.out.then_none hf1)
  clear hf1
  go_wp2_with fail
  go_ret
  exact ⟨rfl, F1.out⟩
end Go.Proofs.YtfoljojacakkeaaDoor

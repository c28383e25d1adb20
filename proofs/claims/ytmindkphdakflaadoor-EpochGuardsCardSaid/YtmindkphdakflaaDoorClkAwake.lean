/- Layer 6's awake. -/
import Derived.Test.YtmindkphdakflaaDoorClk
namespace Go.Proofs.YtmindkphdakflaaDoor
open Go.RowKit
set_option maxRecDepth 100000
set_option linter.unusedVariables false

theorem at_put_same (D : Ins) (hD : Maps.IsMap D) (t a : Int) : IsAt (D.put (kOf t) (.lit (.int .i64 a))) t a := fun zd => Maps.atKey_put_same hD (by trivial) _ _
set_option maxHeartbeats 1000000 in
theorem awake6 (w : World) : Calls Tryd.prog 10 #[] w fun e w' => e = .returned (.bool true) ∧ Fr none_ w w' := by
  go_enter Tryd.func10, Tryd.ntmps10
  go_wp2_with fail
  refine (clkNew_ok 2 9 w (by omega) (by omega) (by omega) (by omega)).mono ?_
  rintro e w1 ⟨C, M, rfl, h1, hf1, hC, hM⟩
  have K1 := hid_ h1
  have F1 := hid_ hf1
  clear h1 hf1
  go_wp2_with fail
  refine (enter_ok w1 K1.out 0 1 rfl (by omega) rfl (by omega) (by omega) (by decide) (by simp [maxLen])).mono ?_
  rintro e w2 ⟨rfl, h2, hf2⟩
  have K2 := hid_ h2
  have F2 := hid_ (F1.out.trans hf2 (fun _ _ e => e) (fun i hi e => by rcases e with e | e <;> omega))
  clear h2 hf2
  go_wp2_with fail
  refine (bump_ok w2 K2.out (by omega) (by omega) (by omega)).mono ?_
  rintro e w3 ⟨rfl, h3, hf3⟩
  have K3 := hid_ h3
  have F3 := hid_ (F2.out.trans hf3 (fun _ _ e => e) (fun i hi e => by rcases e with e | e <;> omega))
  clear h3 hf3
  go_wp2_with fail
  refine (bump_ok w3 K3.out (by omega) (by omega) (by omega)).mono ?_
  rintro e w4 ⟨rfl, h4, hf4⟩
  have K4 := hid_ h4
  have F4 := hid_ (F3.out.trans hf4 (fun _ _ e => e) (fun i hi e => by rcases e with e | e <;> omega))
  clear h4 hf4
  go_wp2_with fail
  refine (oldest_ok w4 K4.out).mono ?_
  rintro e w5 ⟨m, rfl, ho, hf5⟩
  have hat : IsAt ((DataW.map [] : Ins).put (kOf 0) (.lit (.int .i64 1))) 0 1 := at_put_same _ Maps.isMap_empty 0 1
  have hm : m = 1 := by
    have h1 := ho.low 0 1 rfl hat
    rcases ho.hit with h2 | ⟨t, ht, hm⟩
    · omega
    · by_cases h0 : t = 0
      · subst h0
        exact hm.inj hat
      · have h3 := Maps.has_put_other (k' := kOf t) (k := kOf 0) (D := (DataW.map [] : Ins)) (fun e => h0 (by cases e; rfl)) (.lit (.int .i64 1))
        have ht' : Maps.has ((DataW.map [] : Ins).put (kOf 0) (.lit (.int .i64 1))) (kOf t) = true := ht
        rw [h3] at ht'
        cases ht'
  subst hm
  have K5 := hid_ (K4.out.fr hf5 id id)
  have F5 := hid_ (F4.out.then_none hf5)
  clear hf5 ho hat
  go_wp2_with fail
  refine (leave_ok w5 K5.out 0 rfl (by omega) rfl).mono ?_
  rintro e w6 ⟨rfl, h6, hf6⟩
  have K6 := hid_ h6
  have F6 := hid_ (F5.out.trans hf6 (fun _ _ e => e) (fun i hi e => by rcases e with e | e <;> omega))
  clear h6 hf6
  go_wp2_with fail
  refine (oldest_ok w6 K6.out).mono ?_
  rintro e w7 ⟨m, rfl, ho, hf7⟩
  have hm : m = 1 + 1 + 1 := by
    rcases ho.hit with h2 | ⟨t, ht, hm⟩
    · exact h2
    · have ht' : Maps.has (((DataW.map [] : Ins).put (kOf 0) (.lit (.int .i64 1))).del (kOf 0)) (kOf t) = true := ht
      by_cases h0 : t = 0
      · subst h0
        rw [Maps.has_del_same] at ht'
        cases ht'
      · rw [Maps.has_del_other (fun e => h0 (by cases e; rfl)), Maps.has_put_other (fun e => h0 (by cases e; rfl))] at ht'
        cases ht'
  subst hm
  have F7 := hid_ (F6.out.then_none hf7)
  clear hf7 ho
  go_wp2
  go_ret
  exact ⟨rfl, F7.out⟩
end Go.Proofs.YtmindkphdakflaaDoor

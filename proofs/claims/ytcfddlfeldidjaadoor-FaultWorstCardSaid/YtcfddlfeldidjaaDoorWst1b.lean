/- fault.Worst and the document's Worst, by contracts. -/
import Derived.Test.YtcfddlfeldidjaaDoorWst1
import Derived.Test.YtcfddlfeldidjaaDoorQx
import Derived.BigQuiet
namespace Go.Proofs.YtcfddlfeldidjaaDoor
open Go.RowKit Go.ChangeShapes Go.WideShapes
set_option maxRecDepth 100000
set_option linter.unusedVariables false

def VReads (w : World) (A : Option Addr) (n : Nat) (vs : List Value) : Prop := vs.length = n ∧ (0 < n → ∃ g, A = some ⟨g, 0, none⟩ ∧ ∀ j u, vs[j]? = some u → w.cell? ⟨g, j, none⟩ = some u)
theorem VReads.keep {w w' : World} {A : Option Addr} {n : Nat} {vs : List Value} (h : VReads w A n vs) (hf : Fr none_ w w') : VReads w' A n vs :=
  ⟨h.1, fun hn => by
    obtain ⟨g, hA, hc⟩ := h.2 hn
    exact ⟨g, hA, fun j u hu => cellFr (hc j u hu) hf⟩⟩
theorem VReads.nil (w : World) : VReads w none 0 [] := ⟨rfl, fun h => absurd h (by omega)⟩
theorem VReads.of_own {w : World} {base n c : Nat} {A : Option Addr} {t : TypeId} {vs : List Value} (h : w.ownsRow base t 1 (.slice A n c) n vs) (hl : vs.length = n) : VReads w A n vs := by
  obtain ⟨A', c', e, h1, h2, h3⟩ := own_parts h
  cases e
  exact ⟨hl, fun hn => by obtain ⟨g, hg, _, hc⟩ := h3 hn; exact ⟨g, hg, hc⟩⟩
def WorstPost (X : List (Option (Int × Int))) (w : World) (e : Ending) (w' : World) : Prop := ∃ v, e = .returned v ∧ ErO w' (best X) v ∧ Fr none_ w w'
set_option maxHeartbeats 4000000 in
theorem worst_ok (X : List (Option (Int × Int))) (vs : List Value) (A : Option Addr) (c : Nat) (w : World) (hX : X.length ≤ 1000) (hR : VReads w A X.length vs) (hE : EV w X vs) (hL : Laid w) :
    Calls Tryd.prog 13 #[.slice A X.length c] w (WorstPost X w) := by
  have H := hid_ (And.intro hR (And.intro hE hL))
  clear hR hE hL
  go_enter Tryd.func13, Tryd.ntmps13
  go_wp2_with fail
  go_loopw [3, 8] (fun v i wr => ∃ k : Nat, k ≤ X.length ∧ i = .int .i64 k ∧ ErO wr (best (X.take k)) v ∧ Fr none_ w wr) (fun _ i _ => X.length - (intOf i).toNat)
  case atStart => exact ⟨0, Nat.zero_le _, rfl, by rw [List.take_zero]; exact rfl, Fr.refl _ _⟩
  case round =>
    obtain ⟨k, hk, rfl, hv, hfr⟩ := hrel
    have HV := hid_ hv
    have HF := hid_ hfr
    clear hv hfr
    by_cases hlt : k < X.length
    · obtain ⟨x, hx⟩ : ∃ x, X[k]? = some x := ⟨_, List.getElem?_eq_getElem hlt⟩
      have hb := hid_ (best_take hx)
      obtain ⟨u, hu, hxu⟩ := (H.out.2.1.keep HF.out).2 k x hx
      obtain ⟨g, rfl, hc⟩ := (H.out.1.keep HF.out).2 (by omega)
      have c0 : wr.cell? ⟨g, k, none⟩ = some u := hc k u hu
      have hi0 : (0 : Int) ≤ (k : Int) := Int.natCast_nonneg _
      have hi1 : (k : Int) < (X.length : Int) := by omega
      have HX := hid_ hxu
      clear hx hu hxu hc
      cases x with
      | none =>
        obtain rfl : u = .nilIface := HX.out
        go_wp2_with fail
        go_roundw
        case rel => exact ⟨k + 1, by omega, by go_num, by rw [hb.out, bst_none]; exact HV.out, HF.out⟩
        case measure => simp [intOf]; omega
      | some x =>
        obtain ⟨i, d⟩ := x
        obtain ⟨q, ve, rfl, hq, rfl⟩ := HX.out
        clear hq
        cases hbt : best (X.take k) with
        | none =>
          have h0 := HV.out
          rw [hbt] at h0
          have h0 : _ = Value.nilIface := h0
          clear HV
          subst h0
          have hB := hid_ (show best (X.take (k + 1)) = some (i, d) by rw [hb.out, hbt]; rfl)
          clear hbt hb
          go_wp2_with fail
          go_roundw
          case rel => exact ⟨k + 1, by omega, by go_num, by rw [hB.out]; exact HX.out, HF.out⟩
          case measure => simp [intOf]; omega
        | some y =>
          obtain ⟨j, e0⟩ := y
          have h0 := HV.out
          rw [hbt] at h0
          obtain ⟨q2, ve2, h1, -, -⟩ := h0
          subst h1
          have HY : Hid (ErAt wr (.at_ sX1 j (.code e0)) (fltV q2)) := hid_ (by have h := HV.out; rw [hbt] at h; exact h)
          have hB := hid_ (show best (X.take (k + 1)) = if wtM e0 < wtM d then some (i, d) else some (j, e0) by rw [hb.out, hbt]; rfl)
          clear hbt hb HV
          go_wp2_with fail
          refine (codeE _ _ _ HX.out (H.out.2.2.fr HF.out id)).mono ?_
          rintro e w1 ⟨rfl, hf1⟩
          have F1 := hid_ hf1
          rw [show (Er.at_ sX1 i (.code d)).first = d from rfl]
          clear hf1
          go_wp2_with fail
          refine (weight_ok d _).mono ?_
          rintro e w2 ⟨rfl, hf2⟩
          have F2 := hid_ (F1.out.then_none hf2)
          clear hf2
          go_wp2_with fail
          refine (codeE _ _ _ (HY.out.keep F2.out) ((H.out.2.2.fr HF.out id).fr F2.out id)).mono ?_
          rintro e w3 ⟨rfl, hf3⟩
          have F3 := hid_ (F2.out.then_none hf3)
          rw [show (Er.at_ sX1 j (.code e0)).first = e0 from rfl]
          clear hf3
          go_wp2_with fail
          refine (weight_ok e0 _).mono ?_
          rintro e w4 ⟨rfl, hf4⟩
          have F4 := hid_ (F3.out.then_none hf4)
          clear hf4
          by_cases hw : wtM e0 < wtM d
          · have hd : decide (wtM e0 < wtM d) = true := by simpa using hw
            rw [if_pos hw] at hB
            clear hw
            go_wp2_with fail
            go_roundw
            case rel => exact ⟨k + 1, by omega, by go_num, by rw [hB.out]; exact HX.out.keep F4.out, HF.out.then_none F4.out⟩
            case measure => simp [intOf]; omega
          · have hd : decide (wtM e0 < wtM d) = false := by simpa using hw
            rw [if_neg hw] at hB
            clear hw
            go_wp2_with fail
            go_roundw
            case rel => exact ⟨k + 1, by omega, by go_num, by rw [hB.out]; exact HY.out.keep F4.out, HF.out.then_none F4.out⟩
            case measure => simp [intOf]; omega
    · obtain rfl : k = X.length := by omega
      rw [List.take_length] at HV
      go_wp2_with fail
      go_ret
      exact ⟨_, rfl, HV.out, HF.out⟩

def RWorstPost (l : List Int) (w : World) (e : Ending) (w' : World) : Prop := e = .returned (.int .i64 (bestAt l l.length)) ∧ Fr none_ w w'
set_option maxHeartbeats 4000000 in
theorem rworst_ok (l : List Int) (A : Option Addr) (c : Nat) (w : World) (hX : l.length ≤ 1000) (hR : IntReads w A l.length l) :
    Calls Tryd.prog 14 #[.slice A l.length c] w (RWorstPost l w) := by
  have H := hid_ hR
  clear hR
  go_enter Tryd.func14, Tryd.ntmps14
  go_wp2_with fail
  go_loopw [3, 4] (fun v i wr => ∃ k : Nat, k ≤ l.length ∧ i = .int .i64 k ∧ v = .int .i64 (bestAt l k) ∧ Fr none_ w wr) (fun _ i _ => l.length - (intOf i).toNat)
  case atStart => exact ⟨0, Nat.zero_le _, rfl, rfl, Fr.refl _ _⟩
  case round =>
    obtain ⟨k, hk, rfl, rfl, hfr⟩ := hrel
    have HF := hid_ hfr
    clear hfr
    have hi0 : (0 : Int) ≤ (k : Int) := Int.natCast_nonneg _
    by_cases hlt : k < l.length
    · have hi1 : (k : Int) < (l.length : Int) := by omega
      rcases Nat.eq_zero_or_pos k with h0 | h0
      · subst h0
        rw [bestAt_zero]
        go_wp2_with fail
        go_quiet (fail)
        go_wp2_with fail
        go_roundw
        case rel => exact ⟨1, by omega, by go_num, rfl, HF.out.drewN _⟩
        case measure => simp [intOf]; omega
      · obtain ⟨m, hm, hbm, hbn⟩ := bestAt_some (l := l) h0
        have hB := hid_ (bestAt_step hbn)
        have hd0 : decide ((m : Int) < 0) = false := by simp
        obtain ⟨b, off, rfl, hb, q0⟩ := (H.out.fr HF.out).at (show l[k]? = some (codeAt l k) from (List.getElem?_eq_getElem hlt).trans (by simp [codeAt, hlt]))
        obtain ⟨b', off', e', hb', q1⟩ := (H.out.fr HF.out).at (show l[m]? = some (codeAt l m) from (List.getElem?_eq_getElem (by omega)).trans (by simp [codeAt, show m < l.length by omega]))
        cases e'
        have x0 : ∀ x : Wx wr, x.to.cell? ⟨b, off + k, none⟩ = some (.int .i64 (codeAt l k)) := fun x => x.cell q0
        have x1 : ∀ x : Wx wr, x.to.cell? ⟨b, off + m, none⟩ = some (.int .i64 (codeAt l m)) := fun x => x.cell q1
        have X0 : Hid (∀ (z : Int) (x : Wx wr), Calls Tryd.prog 8 #[.int .i64 z] x.to fun e w' => e = .returned (.int .i64 (wtM z)) ∧ Fr none_ x.to w') := hid_ (fun z x => rweight_ok _ _)
        rw [hbm]
        have hm0 : (0 : Int) ≤ (m : Int) := Int.natCast_nonneg _
        have hm1 : (m : Int) < (l.length : Int) := by omega
        clear hbn q0 q1
        by_cases hw : wtM (codeAt l m) < wtM (codeAt l k)
        · have hd : decide (wtM (codeAt l m) < wtM (codeAt l k)) = true := by simpa using hw
          rw [if_pos hw] at hB
          clear hw
          go_wp2_with fail
          refine wp_region_quiet_x (by kernel_rfl) (by kernel_rfl) ?_
          repeat (first | go_big_quiet_step ((go_at_call 8; exact Calls.quiet_x (X0.out _ _))) | quiet_step ((go_at_call 8; exact Calls.quiet_x (X0.out _ _))))
          refine wpQuiet_nil ?_
          intro _ hw'
          obtain ⟨xq, hw''⟩ := hw'
          subst hw''
          have FX := hid_ xq.fr
          go_wp2_with fail
          go_roundw
          case rel => exact ⟨k + 1, by omega, by go_num, by rw [hB.out], HF.out.then_none FX.out⟩
          case measure => simp [intOf]; omega
        · have hd : decide (wtM (codeAt l m) < wtM (codeAt l k)) = false := by simpa using hw
          rw [if_neg hw] at hB
          clear hw
          go_wp2_with fail
          refine wp_region_quiet_x (by kernel_rfl) (by kernel_rfl) ?_
          repeat (first | go_big_quiet_step ((go_at_call 8; exact Calls.quiet_x (X0.out _ _))) | quiet_step ((go_at_call 8; exact Calls.quiet_x (X0.out _ _))))
          refine wpQuiet_nil ?_
          intro _ hw'
          obtain ⟨xq, hw''⟩ := hw'
          subst hw''
          have FX := hid_ xq.fr
          go_wp2_with fail
          go_roundw
          case rel => exact ⟨k + 1, by omega, by go_num, by rw [hB.out], HF.out.then_none FX.out⟩
          case measure => simp [intOf]; omega
    · obtain rfl : k = l.length := by omega
      go_wp2_with fail
      go_ret
      exact ⟨rfl, HF.out⟩
end Go.Proofs.YtcfddlfeldidjaaDoor

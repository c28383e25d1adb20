/- ArenaFills' walk. Written by gen_laws4.py. -/
import Derived.Test.YtbmnphigfkiaeaaArAwake
import Derived.Test.YtbmnphigfkiaeaaLive
namespace Go.Proofs.Ytbmnphigfkiaeaa
open Go.RowKit Go.ChangeShapes Go.WideShapes
set_option maxRecDepth 100000
set_option linter.unusedVariables false

theorem left_none {ss : List Sl} {last : Int} (h : ∀ (j : Nat) s, ss[j]? = some s → s.used = true) : ∀ k, leftTo ss last k = 0
  | 0 => rfl
  | k + 1 => by
    rw [leftTo, left_none h k]
    split
    · rename_i s hs
      simp [h k s hs]
    · rfl
theorem allocErr_all {ss : List Sl} (h : ∀ (j : Nat) s, ss[j]? = some s → s.used = true) : allocErr ss = 3 := by
  unfold allocErr
  rw [if_pos]
  rw [List.all_eq_true]
  intro s hs
  obtain ⟨j, hj⟩ := List.getElem?_of_mem hs
  exact h j s hj
theorem allocErr_some {ss : List Sl} {j : Nat} {s : Sl} (hs : ss[j]? = some s) (h : s.used = false) : allocErr ss = 5 := by
  unfold allocErr
  rw [if_neg]
  intro ha
  have := List.all_eq_true.1 ha s (List.mem_of_getElem? hs)
  rw [h] at this
  cases this
/-- The first k slots are taken. -/
def Filled (n k : Nat) (ss : List Sl) : Prop := ss.length = n ∧ ∀ j s, ss[j]? = some s → (j < k → s.used = true ∧ s.gen = 1) ∧ (k ≤ j → s = Sl.zero)
theorem Filled.next {n k : Nat} {ss : List Sl} (h : Filled n k ss) (R : Rc) (vr ve : Value) : Filled n (k + 1) (ss.set k ⟨Sl.zero.gen + 1, true, R, vr, ve⟩) := by
  refine ⟨by rw [List.length_set]; exact h.1, fun j s hs => ?_⟩
  rw [List.getElem?_set] at hs
  split at hs
  · rename_i e
    subst e
    split at hs
    · obtain rfl := Option.some.inj hs
      exact ⟨fun _ => ⟨rfl, rfl⟩, fun h => by omega⟩
    · cases hs
  · rename_i e
    have := h.2 j s hs
    exact ⟨fun hj => this.1 (by omega), fun hj => this.2 (by omega)⟩
set_option maxHeartbeats 4000000 in
theorem fills4_walk (slots : Int) (R : Rc) (A : Option Addr) (c : Nat) (B : Option Addr) (d : Nat) (w : World) (h : RecReads w R A B) :
    Calls Try.prog 5 #[.int .i64 slots, .agg #[.int .i64 R.kind, .string R.low, .string R.high, .bool R.unb, .int .i64 R.right, .slice A R.rows.length c, .slice B R.ents.length d, .string R.key, .string R.val, .int .i64 R.page, .int .i64 R.hpage, .int .i64 R.hleft, .string R.hkey, .int .i64 R.nslot, .int .i64 R.ngen]] w fun e w' => e = .returned (.bool true) ∧ Fr none_ w w' := by
  have H := hid_ h
  clear h
  obtain ⟨w0, hw0⟩ : ∃ w0, w0 = w.alloc (recB R (.slice A R.rows.length c) (.slice B R.ents.length d)) := ⟨_, rfl⟩
  have F0 : Hid (Fr none_ w w0) := hid_ (by rw [hw0]; exact (Fr.refl none_ w).alloc _)
  have D0 : Hid (Blk w0 w.heap.size 29 (recA R (.slice A R.rows.length c) (.slice B R.ents.length d))) := hid_ (by rw [hw0]; exact Blk.new w _ _)
  by_cases g1 : slots < 1
  · go_enter Try.func5, Try.ntmps5
    go_wp2_with fail
    refine (awake4 _).mono ?_
    rintro e w1 ⟨rfl, hf1⟩
    go_wp2
    go_ret
    exact ⟨rfl, ((Fr.refl none_ w).alloc _).then_none hf1⟩
  by_cases g2 : 60 < slots
  · go_enter Try.func5, Try.ntmps5
    go_wp2_with fail
    refine (awake4 _).mono ?_
    rintro e w1 ⟨rfl, hf1⟩
    go_wp2
    go_ret
    exact ⟨rfl, ((Fr.refl none_ w).alloc _).then_none hf1⟩
  by_cases h1 : 60 < (R.rows.length : Int)
  · go_enter Try.func5, Try.ntmps5
    go_wp2_with fail
    refine (awake4 _).mono ?_
    rintro e w1 ⟨rfl, hf1⟩
    go_wp2
    go_ret
    exact ⟨rfl, ((Fr.refl none_ w).alloc _).then_none hf1⟩
  by_cases h2 : 60 < (R.ents.length : Int)
  · go_enter Try.func5, Try.ntmps5
    go_wp2_with fail
    refine (awake4 _).mono ?_
    rintro e w1 ⟨rfl, hf1⟩
    go_wp2
    go_ret
    exact ⟨rfl, ((Fr.refl none_ w).alloc _).then_none hf1⟩
  obtain ⟨n, rfl⟩ : ∃ n : Nat, slots = n := ⟨slots.toNat, by omega⟩
  have hz : R.rows.length ≤ 1000 ∧ R.ents.length ≤ 1000 := by omega
  have n1 : 1 ≤ n := by omega
  have n2 : n ≤ 60 := by omega
  go_enter Try.func5, Try.ntmps5
  go_wp2_with fail
  refine (arNew_ok n 1 _ n1 (by omega) (by omega) (by omega)).mono ?_
  rw [← hw0]
  clear hw0
  rintro e w1 ⟨a, G, rfl, hA1, hf1, ha, hG⟩
  have K1 := hid_ hA1
  have D1 := hid_ (D0.out.fr hf1 id)
  have F1 := hid_ (F0.out.then_none hf1)
  have hG0 : w.heap.size ≤ G := Nat.le_trans F0.out.size hG
  have hbG : w.heap.size ≠ G := by have := D0.out.lt; omega
  have hfill : Hid (Filled n 0 (List.replicate n Sl.zero)) := hid_ ⟨by simp, fun j s hs => ⟨fun hj => by omega, fun _ => List.eq_of_mem_replicate (List.mem_of_getElem? hs)⟩⟩
  clear hA1 hf1 D0 F0 ha hG
  go_wp2_with fail
  go_loopw [36] (fun i wr => ∃ (k : Nat) (ss : List Sl), k ≤ n ∧ i = .int .i64 k ∧ Filled n k ss ∧ Ar wr a G 1 ss ∧ Blk wr w.heap.size 29 (recA R (.slice A R.rows.length c) (.slice B R.ents.length d)) ∧ Fr none_ w wr) (fun i _ => n - (intOf i).toNat)
  case atStart => exact ⟨0, _, Nat.zero_le _, rfl, hfill.out, K1.out, D1.out, F1.out⟩
  case round =>
    obtain ⟨k, ss, hk, rfl, hfl, hAr, hD, hF⟩ := hrel
    have FL := hid_ hfl
    have K := hid_ hAr
    have DR := hid_ hD
    have F := hid_ hF
    have hlr := hD.lt
    clear hfl hAr hD hF
    by_cases hlt : k < n
    · have r0 : wr.cell? ⟨w.heap.size, 0, none⟩ = some (.int .i64 R.kind) := DR.out.cell' rfl
      have r1 : wr.cell? ⟨w.heap.size, 1, none⟩ = some (.string R.low) := DR.out.cell' rfl
      have r2 : wr.cell? ⟨w.heap.size, 2, none⟩ = some (.string R.high) := DR.out.cell' rfl
      have r3 : wr.cell? ⟨w.heap.size, 3, none⟩ = some (.bool R.unb) := DR.out.cell' rfl
      have r4 : wr.cell? ⟨w.heap.size, 4, none⟩ = some (.int .i64 R.right) := DR.out.cell' rfl
      have r5 : wr.cell? ⟨w.heap.size, 5, none⟩ = some (.slice A R.rows.length c) := DR.out.cell' rfl
      have r6 : wr.cell? ⟨w.heap.size, 6, none⟩ = some (.slice B R.ents.length d) := DR.out.cell' rfl
      have r7 : wr.cell? ⟨w.heap.size, 7, none⟩ = some (.string R.key) := DR.out.cell' rfl
      have r8 : wr.cell? ⟨w.heap.size, 8, none⟩ = some (.string R.val) := DR.out.cell' rfl
      have r9 : wr.cell? ⟨w.heap.size, 9, none⟩ = some (.int .i64 R.page) := DR.out.cell' rfl
      have r10 : wr.cell? ⟨w.heap.size, 10, none⟩ = some (.int .i64 R.hpage) := DR.out.cell' rfl
      have r11 : wr.cell? ⟨w.heap.size, 11, none⟩ = some (.int .i64 R.hleft) := DR.out.cell' rfl
      have r12 : wr.cell? ⟨w.heap.size, 12, none⟩ = some (.string R.hkey) := DR.out.cell' rfl
      have r13 : wr.cell? ⟨w.heap.size, 13, none⟩ = some (.int .i64 R.nslot) := DR.out.cell' rfl
      have r14 : wr.cell? ⟨w.heap.size, 14, none⟩ = some (.int .i64 R.ngen) := DR.out.cell' rfl
      go_wp2_with fail
      refine (alloc_ok R A c B d _ a G 1 ss K.out (H.out.keep F.out) hz).mono ?_
      rintro e w2 h2'
      obtain ⟨s, hs⟩ : ∃ s, ss[k]? = some s := ⟨_, List.getElem?_eq_getElem (by rw [FL.out.1]; exact hlt)⟩
      obtain rfl := (FL.out.2 k s hs).2 (Nat.le_refl _)
      obtain ⟨vr2, ve2, he, hA2, -, hf2⟩ := h2'.first (i := k) (s := Sl.zero) hs rfl (by decide) (fun j t hj ht => .inl ((FL.out.2 j t ht).1 hj).1)
      obtain rfl : e = .returned (.tuple #[.agg #[.int .i64 ((k : Int) + 1), .int .i64 1], .nilIface]) := he
      have K2 := hid_ hA2
      have FL2 := hid_ (FL.out.next R vr2 ve2)
      have D2 := hid_ (DR.out.fr hf2 (only_ne hbG))
      have F2 := hid_ (F.out.then_only hf2 (.inr hG0))
      have hwk : IntKind.i64.wrap ((k : Int) + 1) = (k : Int) + 1 := IntWalk.i64_in _ (by omega)
      clear hA2 hf2 h2' hs r0 r1 r2 r3 r4 r5 r6 r7 r8 r9 r10 r11 r12 r13 r14
      go_wp2_with fail
      go_roundw
      case rel => exact ⟨k + 1, _, by omega, by go_num, FL2.out, K2.out.keep ((Fr.refl none_ w2).alloc _), D2.out.alloc _, F2.out.alloc _⟩
      case measure => simp [intOf]; omega
    · obtain rfl : k = n := by omega
      have hall : ∀ (j : Nat) s, ss[j]? = some s → s.used = true ∧ s.gen = 1 := fun j s hs => (FL.out.2 j s hs).1 (by have := (List.getElem?_eq_some_iff.1 hs).1; rw [FL.out.1] at this; exact this)
      have HA := hid_ hall
      clear hall
      have r0 : wr.cell? ⟨w.heap.size, 0, none⟩ = some (.int .i64 R.kind) := DR.out.cell' rfl
      have r1 : wr.cell? ⟨w.heap.size, 1, none⟩ = some (.string R.low) := DR.out.cell' rfl
      have r2 : wr.cell? ⟨w.heap.size, 2, none⟩ = some (.string R.high) := DR.out.cell' rfl
      have r3 : wr.cell? ⟨w.heap.size, 3, none⟩ = some (.bool R.unb) := DR.out.cell' rfl
      have r4 : wr.cell? ⟨w.heap.size, 4, none⟩ = some (.int .i64 R.right) := DR.out.cell' rfl
      have r5 : wr.cell? ⟨w.heap.size, 5, none⟩ = some (.slice A R.rows.length c) := DR.out.cell' rfl
      have r6 : wr.cell? ⟨w.heap.size, 6, none⟩ = some (.slice B R.ents.length d) := DR.out.cell' rfl
      have r7 : wr.cell? ⟨w.heap.size, 7, none⟩ = some (.string R.key) := DR.out.cell' rfl
      have r8 : wr.cell? ⟨w.heap.size, 8, none⟩ = some (.string R.val) := DR.out.cell' rfl
      have r9 : wr.cell? ⟨w.heap.size, 9, none⟩ = some (.int .i64 R.page) := DR.out.cell' rfl
      have r10 : wr.cell? ⟨w.heap.size, 10, none⟩ = some (.int .i64 R.hpage) := DR.out.cell' rfl
      have r11 : wr.cell? ⟨w.heap.size, 11, none⟩ = some (.int .i64 R.hleft) := DR.out.cell' rfl
      have r12 : wr.cell? ⟨w.heap.size, 12, none⟩ = some (.string R.hkey) := DR.out.cell' rfl
      have r13 : wr.cell? ⟨w.heap.size, 13, none⟩ = some (.int .i64 R.nslot) := DR.out.cell' rfl
      have r14 : wr.cell? ⟨w.heap.size, 14, none⟩ = some (.int .i64 R.ngen) := DR.out.cell' rfl
      go_wp2_with fail
      refine (alloc_ok R A c B d _ a G 1 ss K.out (H.out.keep F.out) hz).mono ?_
      rintro e w2 h2'
      obtain ⟨he, hf2⟩ := h2'.none (fun j t ht => .inl (HA.out j t ht).1)
      rw [allocErr_all (fun j s hs => (HA.out j s hs).1)] at he
      subst he
      have K2 := hid_ (K.out.keep (hf2.alloc (.cells #[.int .i64 0, .int .i64 0] 27)))
      have D2 := hid_ ((DR.out.fr hf2 id).alloc (.cells #[.int .i64 0, .int .i64 0] 27))
      have F2 := hid_ ((F.out.then_none hf2).alloc (.cells #[.int .i64 0, .int .i64 0] 27))
      clear hf2 h2' r0 r1 r2 r3 r4 r5 r6 r7 r8 r9 r10 r11 r12 r13 r14
      go_wp2_with fail
      refine (isF 3 3 _).mono ?_
      rintro e w3 ⟨rfl, rfl⟩
      go_wp2_with fail
      refine (left_ok _ K2.out).mono ?_
      rintro e w3 ⟨rfl, hf3⟩
      rw [left_none (fun j s hs => (HA.out j s hs).1)]
      have K3 := hid_ (K2.out.keep hf3)
      have D3 := hid_ (D2.out.fr hf3 id)
      have F3 := hid_ (F2.out.then_none hf3)
      clear hf3
      obtain ⟨s, hs⟩ : ∃ s, ss[k - 1]? = some s := ⟨_, List.getElem?_eq_getElem (by rw [FL.out.1]; omega)⟩
      have Hs := hid_ hs
      clear hs
      go_wp2_with fail
      refine (free_ok (k : Int) 1 (i := k - 1) (s := s) K3.out Hs.out (by omega) (HA.out _ s Hs.out).1 (HA.out _ s Hs.out).2).mono ?_
      rintro e w4 ⟨rfl, h4, hf4⟩
      have K4 := hid_ h4
      have D4 := hid_ (D3.out.fr hf4 (only_ne hbG))
      have F4 := hid_ (F3.out.then_only hf4 (.inr hG0))
      have hlr4 := D4.out.lt
      clear h4 hf4
      have r0 : w4.cell? ⟨w.heap.size, 0, none⟩ = some (.int .i64 R.kind) := D4.out.cell' rfl
      have r1 : w4.cell? ⟨w.heap.size, 1, none⟩ = some (.string R.low) := D4.out.cell' rfl
      have r2 : w4.cell? ⟨w.heap.size, 2, none⟩ = some (.string R.high) := D4.out.cell' rfl
      have r3 : w4.cell? ⟨w.heap.size, 3, none⟩ = some (.bool R.unb) := D4.out.cell' rfl
      have r4 : w4.cell? ⟨w.heap.size, 4, none⟩ = some (.int .i64 R.right) := D4.out.cell' rfl
      have r5 : w4.cell? ⟨w.heap.size, 5, none⟩ = some (.slice A R.rows.length c) := D4.out.cell' rfl
      have r6 : w4.cell? ⟨w.heap.size, 6, none⟩ = some (.slice B R.ents.length d) := D4.out.cell' rfl
      have r7 : w4.cell? ⟨w.heap.size, 7, none⟩ = some (.string R.key) := D4.out.cell' rfl
      have r8 : w4.cell? ⟨w.heap.size, 8, none⟩ = some (.string R.val) := D4.out.cell' rfl
      have r9 : w4.cell? ⟨w.heap.size, 9, none⟩ = some (.int .i64 R.page) := D4.out.cell' rfl
      have r10 : w4.cell? ⟨w.heap.size, 10, none⟩ = some (.int .i64 R.hpage) := D4.out.cell' rfl
      have r11 : w4.cell? ⟨w.heap.size, 11, none⟩ = some (.int .i64 R.hleft) := D4.out.cell' rfl
      have r12 : w4.cell? ⟨w.heap.size, 12, none⟩ = some (.string R.hkey) := D4.out.cell' rfl
      have r13 : w4.cell? ⟨w.heap.size, 13, none⟩ = some (.int .i64 R.nslot) := D4.out.cell' rfl
      have r14 : w4.cell? ⟨w.heap.size, 14, none⟩ = some (.int .i64 R.ngen) := D4.out.cell' rfl
      go_wp2_with fail
      refine (alloc_ok R A c B d _ a G 1 _ K4.out (H.out.keep F4.out) hz).mono ?_
      rintro e w5 h5'
      obtain ⟨he, hf5⟩ := h5'.none (fun j t ht => by
        rw [List.getElem?_set] at ht
        split at ht
        · split at ht
          · obtain rfl := Option.some.inj ht
            exact .inr (HA.out _ s Hs.out).2
          · cases ht
        · exact .inl (HA.out j t ht).1)
      rw [allocErr_some (j := k - 1) (List.getElem?_set_self (by rw [FL.out.1]; omega)) rfl] at he
      subst he
      have F5 := hid_ ((F4.out.then_none hf5).alloc (.cells #[.int .i64 0, .int .i64 0] 27))
      clear hf5 h5' r0 r1 r2 r3 r4 r5 r6 r7 r8 r9 r10 r11 r12 r13 r14
      go_wp2_with fail
      refine (isF 5 5 _).mono ?_
      rintro e w6 ⟨rfl, rfl⟩
      go_wp2_with fail
      refine (awake4 _).mono ?_
      rintro e w6 ⟨rfl, hf6⟩
      go_wp2
      go_ret
      exact ⟨rfl, F5.out.then_none hf6⟩
theorem fills4_walk_i {H : Type} {enc : TypeId × Value → H} (slots : Int) (wfs : (Lit.int .i64 slots).wf = true) (x0 : Int) (x1 : ByteArray) (x2 : ByteArray) (x3 : Bool) (x4 : Int) (vr : Value) (ve : Value) (x7 : ByteArray) (x8 : ByteArray) (x9 : Int) (x10 : Int) (x11 : Int) (x12 : ByteArray) (x13 : Int) (x14 : Int) (w : World) (w0 : (Lit.int .i64 x0).wf = true) (w1 : x1.size ≤ reachBytes) (w2 : x2.size ≤ reachBytes) (w4 : (Lit.int .i64 x4).wf = true) (hA : Conf enc Try.prog w (.slice 22) vr) (hB : Conf enc Try.prog w (.slice 23) ve) (w7 : x7.size ≤ reachBytes) (w8 : x8.size ≤ reachBytes) (w9 : (Lit.int .i64 x9).wf = true) (w10 : (Lit.int .i64 x10).wf = true) (w11 : (Lit.int .i64 x11).wf = true) (w12 : x12.size ≤ reachBytes) (w13 : (Lit.int .i64 x13).wf = true) (w14 : (Lit.int .i64 x14).wf = true) :
    Calls Try.prog 5 #[.int .i64 slots, .agg #[.int .i64 x0, .string x1, .string x2, .bool x3, .int .i64 x4, vr, ve, .string x7, .string x8, .int .i64 x9, .int .i64 x10, .int .i64 x11, .string x12, .int .i64 x13, .int .i64 x14]] w fun e w' => e = .returned (.bool true) ∧ Fr none_ w w' := by
  obtain ⟨A, n, c, L, rfl, -, -, -, hL⟩ := rows_conf hA
  obtain ⟨B, m, d, M, rfl, -, -, -, hM⟩ := ents_conf hB
  obtain rfl := hL.1
  obtain rfl := hM.1
  exact fills4_walk slots ⟨x0, x1, x2, x3, x4, L, M, x7, x8, x9, x10, x11, x12, x13, x14⟩ A c B d w ⟨hL.reads, hM.reads⟩
end Go.Proofs.Ytbmnphigfkiaeaa

/- A list of steps that came in, and few. Written by gen_few4.py. -/
import Derived.Test.YtfoljojacakkeaaDoorLive
import Derived.Test.YtfoljojacakkeaaDoorTypes4
namespace Go.Proofs.YtfoljojacakkeaaDoor
open Go.RowKit Go.ChangeShapes Go.WideShapes
set_option maxRecDepth 100000
set_option linter.unusedVariables false

structure Dn where
  verb : Int
  R : Rc
  A : Option Addr
  c : Nat
  B : Option Addr
  d : Nat
  sl : Int
  gn : Int
  lst : Bool
  nn : Int
abbrev doL (D : Dn) : List Value := [.int .i64 D.verb, .int .i64 D.R.kind, .string D.R.low, .string D.R.high, .bool D.R.unb, .int .i64 D.R.right, .slice D.A D.R.rows.length D.c, .slice D.B D.R.ents.length D.d, .string D.R.key, .string D.R.val, .int .i64 D.R.page, .int .i64 D.R.hpage, .int .i64 D.R.hleft, .string D.R.hkey, .int .i64 D.R.nslot, .int .i64 D.R.ngen, .int .i64 D.sl, .int .i64 D.gn, .bool D.lst, .int .u8 D.nn]
structure DnOk (w : World) (D : Dn) : Prop where
  rd : RecReads w D.R D.A D.B
  nb : 0 ≤ D.nn ∧ D.nn ≤ 255
  ks : ∀ (j : Nat) (p : Rw), D.R.rows[j]? = some p → p.1.size ≤ 9223372036854775000
theorem DnOk.keep {w w' : World} {D : Dn} (h : DnOk w D) (hf : Fr none_ w w') : DnOk w' D := ⟨h.rd.keep hf, h.nb, h.ks⟩
def DnReads (w : World) (A : Option Addr) (n : Nat) (L : List Dn) : Prop :=
  L.length = n ∧ (0 < n → ∃ b off, A = some ⟨b, off, none⟩ ∧ b < w.heap.size ∧ ∀ (k : Nat) (D : Dn), L[k]? = some D → w.rangeAt b (off + k * 20) (doL D) ∧ DnOk w D)
theorem DnReads.keep {w w' : World} {A : Option Addr} {n : Nat} {L : List Dn} (h : DnReads w A n L) (hf : Fr none_ w w') : DnReads w' A n L :=
  ⟨h.1, fun hn => by
    obtain ⟨b, off, hA, hb, hc⟩ := h.2 hn
    exact ⟨b, off, hA, by have := hf.size; omega, fun k D hD => ⟨fun j v hv => cellFr ((hc k D hD).1 j v hv) hf, (hc k D hD).2.keep hf⟩⟩⟩
theorem DnReads.at_ {w : World} {A : Option Addr} {n : Nat} {L : List Dn} (h : DnReads w A n L) {k : Nat} {D : Dn} (hD : L[k]? = some D) : ∃ b off, A = some ⟨b, off, none⟩ ∧ b < w.heap.size ∧ w.rangeAt b (off + k * 20) (doL D) ∧ DnOk w D := by
  obtain ⟨b, off, hA, hb, hc⟩ := h.2 (by have := (List.getElem?_eq_some_iff.1 hD).1; have := h.1; omega)
  exact ⟨b, off, hA, hb, hc k D hD⟩
set_option maxHeartbeats 1000000 in
theorem dns_of {H : Type} {enc : TypeId × Value → H} {w : World} {A : Option Addr} {n : Nat} (h : Do4At enc w A n) : ∃ L, DnReads w A n L := by
  rcases Nat.eq_zero_or_pos n with h0 | h0
  · subst h0; exact ⟨[], rfl, fun h => absurd h (by omega)⟩
  · obtain ⟨b, off, hA, hb, hc⟩ := h h0
    obtain ⟨L, hl, hL⟩ := choose_list (α := Dn) (P := fun k D => w.rangeAt b (off + k * 20) (doL D) ∧ DnOk w D) n (fun k hk => by
      obtain ⟨x0, x1, x2, x3, x4, x5, x6, x7, x8, x9, x10, x11, x12, x13, x14, x15, x16, x17, x18, x19, w0, w1, w2, w3, w5, w6, w7, w8, w9, w10, w11, w12, w13, w14, w15, w16, w17, w19, h0, h1, h2, h3, h4, h5, h6, h7, h8, h9, h10, h11, h12, h13, h14, h15, h16, h17, h18, h19⟩ := hc k hk
      obtain ⟨A6, n6, c6, L6, rfl, -, -, -, r6⟩ := rows_conf w6
      obtain ⟨A7, n7, c7, L7, rfl, -, -, -, r7⟩ := ents_conf w7
      have ks : ∀ (j : Nat) (p : Rw), L6[j]? = some p → p.1.size ≤ 9223372036854775000 := fun j p hp => by
        obtain ⟨_, _, _, _, hc⟩ := r6.2 (by have := (List.getElem?_eq_some_iff.1 hp).1; have := r6.1; omega)
        have := (hc j p hp).1.1
        unfold reachBytes at this
        omega
      obtain rfl := r6.1
      obtain rfl := r7.1
      refine ⟨⟨x0, ⟨x1, x2, x3, x4, x5, L6, L7, x8, x9, x10, x11, x12, x13, x14, x15⟩, A6, c6, A7, c7, x16, x17, x18, x19⟩, fun j v hv => ?_, ⟨r6.reads, r7.reads⟩, wf_u8 w19, ks⟩
      match j, hv with
      | 0, hv => have e : some (.int .i64 x0) = some v := hv; rw [← Option.some.inj e]; exact h0
      | 1, hv => have e : some (.int .i64 x1) = some v := hv; rw [← Option.some.inj e]; exact h1
      | 2, hv => have e : some (.string x2) = some v := hv; rw [← Option.some.inj e]; exact h2
      | 3, hv => have e : some (.string x3) = some v := hv; rw [← Option.some.inj e]; exact h3
      | 4, hv => have e : some (.bool x4) = some v := hv; rw [← Option.some.inj e]; exact h4
      | 5, hv => have e : some (.int .i64 x5) = some v := hv; rw [← Option.some.inj e]; exact h5
      | 6, hv => have e : some (.slice A6 L6.length c6) = some v := hv; rw [← Option.some.inj e]; exact h6
      | 7, hv => have e : some (.slice A7 L7.length c7) = some v := hv; rw [← Option.some.inj e]; exact h7
      | 8, hv => have e : some (.string x8) = some v := hv; rw [← Option.some.inj e]; exact h8
      | 9, hv => have e : some (.string x9) = some v := hv; rw [← Option.some.inj e]; exact h9
      | 10, hv => have e : some (.int .i64 x10) = some v := hv; rw [← Option.some.inj e]; exact h10
      | 11, hv => have e : some (.int .i64 x11) = some v := hv; rw [← Option.some.inj e]; exact h11
      | 12, hv => have e : some (.int .i64 x12) = some v := hv; rw [← Option.some.inj e]; exact h12
      | 13, hv => have e : some (.string x13) = some v := hv; rw [← Option.some.inj e]; exact h13
      | 14, hv => have e : some (.int .i64 x14) = some v := hv; rw [← Option.some.inj e]; exact h14
      | 15, hv => have e : some (.int .i64 x15) = some v := hv; rw [← Option.some.inj e]; exact h15
      | 16, hv => have e : some (.int .i64 x16) = some v := hv; rw [← Option.some.inj e]; exact h16
      | 17, hv => have e : some (.int .i64 x17) = some v := hv; rw [← Option.some.inj e]; exact h17
      | 18, hv => have e : some (.bool x18) = some v := hv; rw [← Option.some.inj e]; exact h18
      | 19, hv => have e : some (.int .u8 x19) = some v := hv; rw [← Option.some.inj e]; exact h19
      | j + 20, hv => simp at hv)
    exact ⟨L, hl, fun _ => ⟨b, off, hA, hb, hL⟩⟩
abbrev doZ : Array Value := #[.int .i64 0, .int .i64 0, .string ⟨#[]⟩, .string ⟨#[]⟩, .bool false, .int .i64 0, .slice none 0 0, .slice none 0 0, .string ⟨#[]⟩, .string ⟨#[]⟩, .int .i64 0, .int .i64 0, .int .i64 0, .string ⟨#[]⟩, .int .i64 0, .int .i64 0, .int .i64 0, .int .i64 0, .bool false, .int .u8 0]
theorem do_one (D : Dn) : (doL D).toArray.all (·.oneCell') = true := by simp [Value.oneCell']
theorem do_size : (Tryd.prog.info? 42).map (·.size) = some 20 := by kernel_rfl

def FewOk (slots : Int) (L : List Dn) : Prop := L.length ≤ 60 ∧ (slots ≤ 60 ∨ 4096 < slots) ∧ ∀ (k : Nat) (D : Dn), L[k]? = some D → D.R.rows.length ≤ 60 ∧ D.R.ents.length ≤ 60
def FewPost (slots : Int) (L : List Dn) (w : World) (e : Ending) (w' : World) : Prop := ∃ b : Bool, e = .returned (.bool b) ∧ (b = true → FewOk slots L) ∧ Fr none_ w w'
set_option maxHeartbeats 2000000 in
theorem few4_ok (slots : Int) (A : Option Addr) (n cap : Nat) (L : List Dn) (w : World) (h : DnReads w A n L) (hm : n ≤ maxLen) : Calls Tryd.prog 9 #[.int .i64 slots, .slice A n cap] w (FewPost slots L w) := by
  unfold maxLen at hm
  have H := hid_ h
  have hln := h.1
  clear h
  go_enter Tryd.func9, Tryd.ntmps9
  go_wp2_with fail
  go_loopw [9] (fun i wr => ∃ k : Nat, k ≤ n ∧ i = .int .i64 k ∧ (∀ (j : Nat) (D : Dn), j < k → L[j]? = some D → D.R.rows.length ≤ 60 ∧ D.R.ents.length ≤ 60) ∧ Fr none_ w wr) (fun i _ => n - (intOf i).toNat)
  case atStart => exact ⟨0, Nat.zero_le _, rfl, fun j D hj => by omega, Fr.refl _ _⟩
  case round =>
    obtain ⟨k, hk, rfl, hall, hfr⟩ := hrel
    have HA := hid_ hall
    have F := hid_ hfr
    clear hall hfr
    by_cases hlt : k < n
    · obtain ⟨D, hD⟩ : ∃ D, L[k]? = some D := ⟨_, List.getElem?_eq_getElem (by omega)⟩
      obtain ⟨b, off, rfl, hb, hR, hO⟩ := (H.out.keep F.out).at_ hD
      have HR := hid_ hR
      have HD := hid_ hD
      have hi0 : (0 : Int) ≤ (k : Int) := Int.natCast_nonneg _
      have hi1 : (k : Int) < (n : Int) := by omega
      clear hR hO hD
      by_cases h1 : 60 < (D.R.rows.length : Int)
      · go_wp2_with (first | (refine wpList_load_mid rfl 42 (.tmp 11) rfl b (off + k * 20) rfl (doL D) _ HR.out Tryd.underlying42 rfl do_size ?_) | (refine wpList_store_mid rfl 42 (.tmp 6) (.tmp 12) rfl wr.heap.size 0 (doL D).toArray rfl rfl (new_there wr _ doZ) do_size (do_one D) ?_; obtain ⟨w1, hw1⟩ : ∃ w1, w1 = (wr.alloc (.cells doZ 42)).setCells wr.heap.size 0 (doL D) := ⟨_, rfl⟩; change wpList _ _ _ _ _ ((wr.alloc (.cells doZ 42)).setCells wr.heap.size 0 (doL D)); rw [← hw1]; have P1 : Hid (Blk w1 wr.heap.size 42 (doL D).toArray ∧ Fr none_ wr w1) := hid_ (by rw [hw1]; exact new_copy wr _ doZ _ rfl); clear hw1; have b6 : w1.cell? ⟨wr.heap.size, 6, none⟩ = some (.slice D.A D.R.rows.length D.c) := P1.out.1.cell' rfl; have b7 : w1.cell? ⟨wr.heap.size, 7, none⟩ = some (.slice D.B D.R.ents.length D.d) := P1.out.1.cell' rfl))
        go_ret
        exact ⟨false, rfl, (fun h => by cases h), F.out.then_none P1.out.2⟩
      by_cases h2 : 60 < (D.R.ents.length : Int)
      · go_wp2_with (first | (refine wpList_load_mid rfl 42 (.tmp 11) rfl b (off + k * 20) rfl (doL D) _ HR.out Tryd.underlying42 rfl do_size ?_) | (refine wpList_store_mid rfl 42 (.tmp 6) (.tmp 12) rfl wr.heap.size 0 (doL D).toArray rfl rfl (new_there wr _ doZ) do_size (do_one D) ?_; obtain ⟨w1, hw1⟩ : ∃ w1, w1 = (wr.alloc (.cells doZ 42)).setCells wr.heap.size 0 (doL D) := ⟨_, rfl⟩; change wpList _ _ _ _ _ ((wr.alloc (.cells doZ 42)).setCells wr.heap.size 0 (doL D)); rw [← hw1]; have P1 : Hid (Blk w1 wr.heap.size 42 (doL D).toArray ∧ Fr none_ wr w1) := hid_ (by rw [hw1]; exact new_copy wr _ doZ _ rfl); clear hw1; have b6 : w1.cell? ⟨wr.heap.size, 6, none⟩ = some (.slice D.A D.R.rows.length D.c) := P1.out.1.cell' rfl; have b7 : w1.cell? ⟨wr.heap.size, 7, none⟩ = some (.slice D.B D.R.ents.length D.d) := P1.out.1.cell' rfl))
        go_ret
        exact ⟨false, rfl, (fun h => by cases h), F.out.then_none P1.out.2⟩
      go_wp2_with (first | (refine wpList_load_mid rfl 42 (.tmp 11) rfl b (off + k * 20) rfl (doL D) _ HR.out Tryd.underlying42 rfl do_size ?_) | (refine wpList_store_mid rfl 42 (.tmp 6) (.tmp 12) rfl wr.heap.size 0 (doL D).toArray rfl rfl (new_there wr _ doZ) do_size (do_one D) ?_; obtain ⟨w1, hw1⟩ : ∃ w1, w1 = (wr.alloc (.cells doZ 42)).setCells wr.heap.size 0 (doL D) := ⟨_, rfl⟩; change wpList _ _ _ _ _ ((wr.alloc (.cells doZ 42)).setCells wr.heap.size 0 (doL D)); rw [← hw1]; have P1 : Hid (Blk w1 wr.heap.size 42 (doL D).toArray ∧ Fr none_ wr w1) := hid_ (by rw [hw1]; exact new_copy wr _ doZ _ rfl); clear hw1; have b6 : w1.cell? ⟨wr.heap.size, 6, none⟩ = some (.slice D.A D.R.rows.length D.c) := P1.out.1.cell' rfl; have b7 : w1.cell? ⟨wr.heap.size, 7, none⟩ = some (.slice D.B D.R.ents.length D.d) := P1.out.1.cell' rfl))
      go_roundw
      case rel => exact ⟨k + 1, by omega, by go_num, fun j D' hj hD' => by
        rcases Nat.lt_succ_iff_lt_or_eq.1 hj with hj | rfl
        · exact HA.out j D' hj hD'
        · obtain rfl := Option.some.inj (HD.out.symm.trans hD')
          omega, F.out.then_none P1.out.2⟩
      case measure => simp [intOf]; omega
    · obtain rfl : k = n := by omega
      have hall : ∀ (j : Nat) (D : Dn), L[j]? = some D → D.R.rows.length ≤ 60 ∧ D.R.ents.length ≤ 60 := fun j D hD => HA.out j D (by have := (List.getElem?_eq_some_iff.1 hD).1; omega) hD
      have HB := hid_ hall
      clear hall
      by_cases g1 : (k : Int) ≤ 60
      · by_cases g2 : slots ≤ 60
        · go_wp2
          go_ret
          exact ⟨true, rfl, fun _ => ⟨by omega, .inl g2, HB.out⟩, F.out⟩
        · by_cases g3 : 4096 < slots
          · go_wp2
            go_ret
            exact ⟨true, rfl, fun _ => ⟨by omega, .inr g3, HB.out⟩, F.out⟩
          · go_wp2
            go_ret
            exact ⟨false, rfl, (fun h => by cases h), F.out⟩
      · go_wp2
        go_ret
        exact ⟨false, rfl, (fun h => by cases h), F.out⟩
end Go.Proofs.YtfoljojacakkeaaDoor

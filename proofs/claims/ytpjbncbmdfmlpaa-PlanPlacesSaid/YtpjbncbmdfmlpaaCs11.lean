/- A case of the statements of layer 11: its chains, few and made by contract. Written by gen_cs11.py. -/
import Derived.Test.YtpjbncbmdfmlpaaIn8
import Derived.Test.YtpjbncbmdfmlpaaFew7
import Derived.Test.YtpjbncbmdfmlpaaNames11
namespace Go.Proofs.Ytpjbncbmdfmlpaa
open Go.RowKit Go.BigFrame Go.ChangeShapes Go.WideShapes
set_option maxRecDepth 100000
set_option linter.unusedVariables false

set_option maxHeartbeats 1000000 in
theorem ins_of2 {H : Type} {enc : TypeId × Value → H} {w : World} {A : Option Addr} {n : Nat} (h : RecordAt enc w A n) : ∃ L, InReads w A n L ∧ RwIn L := by
  rcases Nat.eq_zero_or_pos n with h0 | h0
  · subst h0; exact ⟨[], ⟨rfl, fun h => absurd h (by omega)⟩, fun C hC => by simp at hC⟩
  · obtain ⟨b, off, hA, hb, hc⟩ := h h0
    obtain ⟨L, hl, hL⟩ := choose_list (α := Ch) (P := fun k C => (w.rangeAt b (off + k * 15) (recL C) ∧ ChIn w C) ∧ (SzOk C.R.val ∧ ∀ p ∈ C.R.rows, SzOk p.1 ∧ SzOk p.2)) n (fun k hk => by
      obtain ⟨x0, x1, x2, x3, x4, x5, x6, x7, x8, x9, x10, x11, x12, x13, x14, w0, w1, w2, w4, w5, w6, w7, w8, w9, w10, w11, w12, w13, w14, h0, h1, h2, h3, h4, h5, h6, h7, h8, h9, h10, h11, h12, h13, h14⟩ := hc k hk
      obtain ⟨A5, n5, c5, L5, rfl, q1, q2, r5⟩ := rows_conf2 w5
      obtain ⟨A6, n6, c6, L6, rfl, p1, p2, -, r6⟩ := ents_conf w6
      have ks : ∀ p ∈ L6, SzOk p.1 := fun p hp => by
        obtain ⟨j, hj⟩ := List.mem_iff_getElem?.1 hp
        obtain ⟨_, _, _, _, hc⟩ := r6.2 (by have := (List.getElem?_eq_some_iff.1 hj).1; have := r6.1; omega)
        exact szOk_of (hc j p hj).1.1
      have kr : ∀ p ∈ L5, SzOk p.1 ∧ SzOk p.2 := fun p hp => by
        obtain ⟨j, hj⟩ := List.mem_iff_getElem?.1 hp
        obtain ⟨_, _, _, _, hc⟩ := r5.2 (by have := (List.getElem?_eq_some_iff.1 hj).1; have := r5.1; omega)
        exact ⟨szOk_of (hc j p hj).1.1, szOk_of (hc j p hj).1.2⟩
      obtain rfl := r5.1
      obtain rfl := r6.1
      refine ⟨⟨⟨x0, x1, x2, x3, x4, L5, L6, x7, x8, x9, x10, x11, x12, x13, x14⟩, A5, c5, A6, c6⟩, ⟨fun j v hv => ?_, ⟨r5.reads, r6.reads⟩, szOk_of w1, szOk_of w2, szOk_of w7, szOk_of w12, ks, p1, p2, by show L5.length ≤ _; omega⟩, szOk_of w8, kr⟩
      match j, hv with
      | 0, hv => have e : some (.int .i64 x0) = some v := hv; rw [← Option.some.inj e]; exact h0
      | 1, hv => have e : some (.string x1) = some v := hv; rw [← Option.some.inj e]; exact h1
      | 2, hv => have e : some (.string x2) = some v := hv; rw [← Option.some.inj e]; exact h2
      | 3, hv => have e : some (.bool x3) = some v := hv; rw [← Option.some.inj e]; exact h3
      | 4, hv => have e : some (.int .i64 x4) = some v := hv; rw [← Option.some.inj e]; exact h4
      | 5, hv => have e : some (.slice A5 L5.length c5) = some v := hv; rw [← Option.some.inj e]; exact h5
      | 6, hv => have e : some (.slice A6 L6.length c6) = some v := hv; rw [← Option.some.inj e]; exact h6
      | 7, hv => have e : some (.string x7) = some v := hv; rw [← Option.some.inj e]; exact h7
      | 8, hv => have e : some (.string x8) = some v := hv; rw [← Option.some.inj e]; exact h8
      | 9, hv => have e : some (.int .i64 x9) = some v := hv; rw [← Option.some.inj e]; exact h9
      | 10, hv => have e : some (.int .i64 x10) = some v := hv; rw [← Option.some.inj e]; exact h10
      | 11, hv => have e : some (.int .i64 x11) = some v := hv; rw [← Option.some.inj e]; exact h11
      | 12, hv => have e : some (.string x12) = some v := hv; rw [← Option.some.inj e]; exact h12
      | 13, hv => have e : some (.int .i64 x13) = some v := hv; rw [← Option.some.inj e]; exact h13
      | 14, hv => have e : some (.int .i64 x14) = some v := hv; rw [← Option.some.inj e]; exact h14
      | j + 15, hv => simp at hv)
    exact ⟨L, ⟨hl, fun _ => ⟨b, off, hA, hb, fun k C hC => (hL k C hC).1⟩⟩, fun C hC => by obtain ⟨k, hk⟩ := List.mem_iff_getElem?.1 hC; exact (hL k C hk).2⟩
theorem recs_conf {H : Type} {enc : TypeId × Value → H} {w : World} {v : Value} (h : Conf enc Try.prog w (.slice 34) v) : ∃ A n c L, v = .slice A n c ∧ n ≤ c ∧ c ≤ maxLen ∧ InReads w A n L ∧ RwIn L := by
  obtain ⟨fuel, d, ps, ht, hlt, hwt⟩ := h
  obtain ⟨A, n, c, rfl, h1, h2, h3, h4, h5⟩ := open_list 6 Try.underlying34 ht hlt hwt (by rw [leaves_Record]; rfl) (by rw [leaves_Record, cells_Record]; rfl)
  obtain ⟨L, hL⟩ := ins_of2 (Record_at h5)
  exact ⟨A, n, c, L, rfl, h1, h2, hL.1, hL.2⟩
structure Cz where
  n : Int
  A1 : Option Addr
  n1 : Nat
  c1 : Nat
  A2 : Option Addr
  n2 : Nat
  c2 : Nat
  some_ : Bool
  key : ByteArray
  l : L6
  writes : Bool
abbrev czA (c : Cz) : Array Value := #[.int .i64 c.n, .slice c.A1 c.n1 c.c1, .slice c.A2 c.n2 c.c2, .bool c.some_, .string c.key, .int .i64 c.l.a0, .int .i64 c.l.a1, .int .i64 c.l.a2, .int .i64 c.l.rows, .int .i64 c.l.chain, .int .i64 c.l.a5, .bool c.writes]
theorem case_size : (Try.prog.info? 75).map (·.size) = some 12 := by kernel_rfl
structure CzIn (w : World) (c : Cz) (L1 L2 : List Ch) : Prop where
  i1 : InReads w c.A1 c.n1 L1
  r1 : RwIn L1
  m1 : c.n1 ≤ maxLen
  i2 : InReads w c.A2 c.n2 L2
  r2 : RwIn L2
  m2 : c.n2 ≤ maxLen
  key : SzOk c.key
theorem CzIn.keep {w w' : World} {c : Cz} {L1 L2 : List Ch} (h : CzIn w c L1 L2) (hf : Fr none_ w w') : CzIn w' c L1 L2 := ⟨h.i1.keep hf, h.r1, h.m1, h.i2.keep hf, h.r2, h.m2, h.key⟩
structure CzFew (c : Cz) (L1 L2 : List Ch) : Prop where
  a : FewOk7 L1
  b : FewOk8 L1
  c : FewOk7 L2
  d : FewOk8 L2
def CfewPost (c : Cz) (L1 L2 : List Ch) (w : World) (e : Ending) (w' : World) : Prop := ∃ b : Bool, e = .returned (.bool b) ∧ (b = true → CzFew c L1 L2) ∧ Fr none_ w w'
set_option maxHeartbeats 8000000 in
theorem cfew_ok (c : Cz) (L1 L2 : List Ch) (w : World) (h : CzIn w c L1 L2) : Calls Try.prog 29 #[.agg (czA c)] w (CfewPost c L1 L2 w) := by
  obtain ⟨w0, hw0⟩ : ∃ z, z = w.alloc (.cells (czA c) 75) := ⟨_, rfl⟩
  have f0 : Fr none_ w w0 := by rw [hw0]; exact (Fr.refl none_ w).alloc _
  have B := hid_ (show Blk w0 w.heap.size 75 (czA c) by rw [hw0]; exact Blk.new w _ _)
  have F := hid_ f0
  have H := hid_ (h.keep f0)
  have hkl := h.key.le
  clear f0 h
  go_enter Try.func29, Try.ntmps29
  go_upto_region 1 with fail
  change Code.wp _ _ _ _ (w.alloc (.cells (czA c) 75))
  rw [← hw0]
  clear hw0
  have v1 : w0.cell? ⟨w.heap.size, 1, none⟩ = some (.slice c.A1 c.n1 c.c1) := B.out.cell' rfl
  go_wp2_with fail
  refine (few7_ok c.A1 c.n1 c.c1 _ w0 H.out.i1 H.out.r1 H.out.m1).mono ?_
  rintro e w1 ⟨b, rfl, hb, hf⟩
  have G0 := hid_ hb
  replace F := hid_ (F.out.then_none hf)
  replace B := hid_ (B.out.fr hf id)
  replace H := hid_ (H.out.keep hf)
  clear hb hf v1
  cases b with
  | false =>
    go_wp2
    go_ret
    exact ⟨false, rfl, (fun h => by cases h), F.out⟩
  | true =>
    have v1 : w1.cell? ⟨w.heap.size, 1, none⟩ = some (.slice c.A1 c.n1 c.c1) := B.out.cell' rfl
    go_wp2_with fail
    refine (few8_ok c.A1 c.n1 c.c1 _ w1 H.out.i1 H.out.m1).mono ?_
    rintro e w2 ⟨b, rfl, hb, hf⟩
    have G1 := hid_ hb
    replace F := hid_ (F.out.then_none hf)
    replace B := hid_ (B.out.fr hf id)
    replace H := hid_ (H.out.keep hf)
    clear hb hf v1
    cases b with
    | false =>
      go_wp2
      go_ret
      exact ⟨false, rfl, (fun h => by cases h), F.out⟩
    | true =>
      have v2 : w2.cell? ⟨w.heap.size, 2, none⟩ = some (.slice c.A2 c.n2 c.c2) := B.out.cell' rfl
      go_wp2_with fail
      refine (few7_ok c.A2 c.n2 c.c2 _ w2 H.out.i2 H.out.r2 H.out.m2).mono ?_
      rintro e w3 ⟨b, rfl, hb, hf⟩
      have G2 := hid_ hb
      replace F := hid_ (F.out.then_none hf)
      replace B := hid_ (B.out.fr hf id)
      replace H := hid_ (H.out.keep hf)
      clear hb hf v2
      cases b with
      | false =>
        go_wp2
        go_ret
        exact ⟨false, rfl, (fun h => by cases h), F.out⟩
      | true =>
        have v2 : w3.cell? ⟨w.heap.size, 2, none⟩ = some (.slice c.A2 c.n2 c.c2) := B.out.cell' rfl
        go_wp2_with fail
        refine (few8_ok c.A2 c.n2 c.c2 _ w3 H.out.i2 H.out.m2).mono ?_
        rintro e w4 ⟨b, rfl, hb, hf⟩
        have G3 := hid_ hb
        replace F := hid_ (F.out.then_none hf)
        replace B := hid_ (B.out.fr hf id)
        replace H := hid_ (H.out.keep hf)
        clear hb hf v2
        cases b with
        | false =>
          go_wp2
          go_ret
          exact ⟨false, rfl, (fun h => by cases h), F.out⟩
        | true =>
          have v4 : w4.cell? ⟨w.heap.size, 4, none⟩ = some (.string c.key) := B.out.cell' rfl
          by_cases hk : (c.key.size : Int) ≤ 100
          · have e1 : decide ((c.key.size : Int) ≤ 100) = true := decide_eq_true hk
            clear hk
            go_wp2
            go_ret
            exact ⟨true, rfl, (fun h => ⟨G0.out (by simp), G1.out (by simp), G2.out (by simp), G3.out (by simp)⟩), F.out⟩
          · have e1 : decide ((c.key.size : Int) ≤ 100) = false := decide_eq_false hk
            clear hk
            go_wp2
            go_ret
            exact ⟨false, rfl, (fun h => by cases h), F.out⟩
end Go.Proofs.Ytpjbncbmdfmlpaa

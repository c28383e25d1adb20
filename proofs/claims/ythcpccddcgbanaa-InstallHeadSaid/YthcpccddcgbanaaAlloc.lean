/- Alloc, by contract. Written by gen_alloc4.py. -/
import Derived.Test.YthcpccddcgbanaaAr
import Derived.Deep.MidRow
namespace Go.Proofs.Ythcpccddcgbanaa
open Go.RowKit
set_option maxRecDepth 100000
set_option linter.unusedVariables false

theorem Ar.there {w : World} {a G : Nat} {last : Int} {ss : List Sl} (h : Ar w a G last ss) {i : Nat} (hi : i < ss.length) {o n : Nat} (ho : i * 17 ≤ o) (hn : o + n ≤ i * 17 + 17) : w.there G o n := by
  obtain ⟨cs, hG, hc⟩ := h.hG
  intro j hj
  refine ⟨?_, hG.frozen _⟩
  rw [hG.cell, Array.getElem?_eq_getElem (by rw [hc.1]; omega)]
  rfl
theorem slot_size : (Try.prog.info? 113).map (·.size) = some 17 := by kernel_rfl
theorem rec_size : (Try.prog.info? 44).map (·.size) = some 15 := by kernel_rfl
theorem box2 {w1 : World} {b : Nat} {t : TypeId} {c0 c1 : Value} (h : Blk w1 b t #[c0, c1]) (x0 x1 : Value) : Blk ((w1.setCell ⟨b, 0, none⟩ x0).setCell ⟨b, 1, none⟩ x1) b t #[x0, x1] ∧ Fr (only b) w1 ((w1.setCell ⟨b, 0, none⟩ x0).setCell ⟨b, 1, none⟩ x1) :=
  ⟨(h.set_ 0 x0).set_ 1 x1, ((Fr.refl (only b) w1).setCell (p := ⟨b, 0, none⟩) (.inl (Eq.refl _)) x0).setCell (p := ⟨b, 1, none⟩) (.inl (Eq.refl _)) x1⟩

def allocErr (ss : List Sl) : Int := if ss.all (·.used) then 3 else 5
theorem allocErr_used {ss : List Sl} {k : Nat} {s : Sl} (hs : ss[k]? = some s) (hu : s.used = true) : allocErr (ss.take (k + 1)) = allocErr (ss.take k) := by
  unfold allocErr
  rw [List.take_add_one, hs]
  simp [hu]
theorem allocErr_worn {ss : List Sl} {k : Nat} {s : Sl} (hs : ss[k]? = some s) (hu : s.used = false) : allocErr (ss.take (k + 1)) = 5 := by
  unfold allocErr
  rw [List.take_add_one, hs]
  simp [hu]
def AllocPost (w : World) (a G : Nat) (last : Int) (ss : List Sl) (R : Rc) (e : Ending) (w' : World) : Prop :=
  (∃ (i : Nat) (s : Sl) (vr ve : Value), ss[i]? = some s ∧ (s.used = false ∧ s.gen ≠ last) ∧ (∀ j t, j < i → ss[j]? = some t → t.used = true ∨ t.gen = last) ∧ e = .returned (.tuple #[.agg #[.int .i64 ((i : Int) + 1), .int .i64 (s.gen + 1)], .nilIface]) ∧ Ar w' a G last (ss.set i ⟨s.gen + 1, true, R, vr, ve⟩) ∧ RecOwn w' w.heap.size R vr ve ∧ Fr (only G) w w') ∨
  ((∀ (j : Nat) t, ss[j]? = some t → t.used = true ∨ t.gen = last) ∧ e = .returned (.tuple #[.agg #[.int .i64 0, .int .i64 0], errV (allocErr ss)]) ∧ Fr none_ w w')

theorem alloc_nil (R : Rc) (vr ve : Value) (w : World) : Calls Try.prog 33 #[.pointer none, recV R vr ve] w fun e w' => e = .returned (.tuple #[.agg #[.int .i64 0, .int .i64 0], errV 1]) ∧ Fr none_ w w' := by
  go_enter Try.func33, Try.ntmps33
  go_wp2_with fail
  have K := Blk.new (w.alloc (recB R vr ve)) 34 #[.int .i64 0, .int .i64 0]
  rw [World.size_alloc] at K
  have x0 := K.cell' (i := 0) rfl
  have x1 := K.cell' (i := 1) rfl
  refine bodyPost_ret (v := .tuple #[.agg #[.int .i64 0, .int .i64 0], errV 1]) ?_ rfl ⟨rfl, ((Fr.refl none_ w).alloc _).alloc _⟩
  simp [results, Try.results33, go_sem, x0, x1]

set_option maxHeartbeats 4000000 in
theorem alloc_ok (R : Rc) (A : Option Addr) (c : Nat) (B : Option Addr) (d : Nat) (w : World) (a G : Nat) (last : Int) (ss : List Sl) (h : Ar w a G last ss) (hr : RecReads w R A B) (hz : R.rows.length ≤ 1000 ∧ R.ents.length ≤ 1000) :
    Calls Try.prog 33 #[.pointer (some ⟨a, 0, none⟩), recV R (.slice A R.rows.length c) (.slice B R.ents.length d)] w (AllocPost w a G last ss R) := by
  have hlen := h.len
  have hl40 := h.l40
  obtain ⟨w0, hw0⟩ : ∃ w0, w0 = (w.alloc (recB R (.slice A R.rows.length c) (.slice B R.ents.length d))).alloc (.cells #[.int .i64 0, .int .i64 0] 34) := ⟨_, rfl⟩
  have f0 : Fr none_ w w0 := by rw [hw0]; exact ((Fr.refl none_ w).alloc _).alloc _
  have F0 := hid_ f0
  have X0 := hid_ (h.keep f0)
  have R0 := hid_ (hr.keep f0)
  have P0 : Hid (Blk w0 w.heap.size 44 (recA R (.slice A R.rows.length c) (.slice B R.ents.length d))) := hid_ (by rw [hw0]; exact (Blk.new w _ _).alloc _)
  have Q0 : Hid (Blk w0 (w.heap.size + 1) 34 #[.int .i64 0, .int .i64 0]) := hid_ (by have := Blk.new (w.alloc (recB R (.slice A R.rows.length c) (.slice B R.ents.length d))) 34 #[.int .i64 0, .int .i64 0]; rw [World.size_alloc] at this; rw [hw0]; exact this)
  have hltA := h.ltA
  have hltG := h.ltG
  have lA : a < w.heap.size + 1 := by omega
  have lA2 : a < w.heap.size + 1 + 1 := by omega
  have c0 : w.cell? ⟨a, 0, none⟩ = some (.slice (some ⟨G, 0, none⟩) ss.length ss.length) := h.hA.cell' rfl
  clear f0 h hr
  go_enter Try.func33, Try.ntmps33
  go_wp2_with fail
  change Code.wp _ _ _ _ ((w.alloc (recB R (.slice A R.rows.length c) (.slice B R.ents.length d))).alloc (.cells #[.int .i64 0, .int .i64 0] 34))
  rw [← hw0]
  clear hw0 c0
  go_loopw [19, 6] (fun i e wr => ∃ (k : Nat) (ek : Int), k ≤ ss.length ∧ i = .int .i64 k ∧ e = errV ek ∧ ek = allocErr (ss.take k) ∧ (∀ j t, j < k → ss[j]? = some t → t.used = true ∨ t.gen = last) ∧ Fr none_ w0 wr) (fun i _ _ => ss.length - (intOf i).toNat)
  case atStart => exact ⟨0, 3, Nat.zero_le _, rfl, rfl, by simp [allocErr], fun j t hj => by omega, Fr.refl _ _⟩
  case round =>
    obtain ⟨k, ek, hk, rfl, rfl, hek, hno, hF⟩ := hrel
    have Hek := hid_ hek
    have Hno := hid_ hno
    have F := hid_ (F0.out.then_none hF)
    have FL := hid_ hF
    have X := hid_ (X0.out.keep hF)
    have R1 := hid_ (R0.out.keep hF)
    have P := hid_ (P0.out.fr hF id)
    have Q := hid_ (Q0.out.fr hF id)
    clear hek hno hF
    by_cases hlt : k < ss.length
    · obtain ⟨s, hs⟩ : ∃ s, ss[k]? = some s := ⟨_, List.getElem?_eq_getElem hlt⟩
      have hi0 : (0 : Int) ≤ (k : Int) := Int.natCast_nonneg _
      have hi1 : (k : Int) < (ss.length : Int) := by omega
      have a0 : wr.cell? ⟨a, 0, none⟩ = some (.slice (some ⟨G, 0, none⟩) ss.length ss.length) := X.out.hA.cell' rfl
      have a1 : wr.cell? ⟨a, 1, none⟩ = some (.int .i64 last) := X.out.hA.cell' rfl
      have g0 : wr.cell? ⟨G, k * 17, none⟩ = some (.int .i64 s.gen) := X.out.cell hs 0 rfl
      have Hs := hid_ hs
      have hgl := X.out.gen s (List.mem_of_getElem? hs)
      clear hs
      by_cases hu : s.used = true
      · have g1 : wr.cell? ⟨G, k * 17 + 1, none⟩ = some (.bool true) := by rw [← hu]; exact X.out.cell Hs.out 1 rfl
        go_wp2_with fail
        go_roundw
        case rel => exact ⟨k + 1, ek, by omega, by go_num, rfl, by rw [allocErr_used Hs.out hu]; exact Hek.out, fun j t hj ht => by
          rcases Nat.lt_succ_iff_lt_or_eq.1 hj with hj | rfl
          · exact Hno.out j t hj ht
          · obtain rfl := Option.some.inj (Hs.out.symm.trans ht)
            exact .inl hu, FL.out⟩
        case measure => simp [intOf]; omega
      have hu : s.used = false := by simpa using hu
      have g1 : wr.cell? ⟨G, k * 17 + 1, none⟩ = some (.bool false) := by rw [← hu]; exact X.out.cell Hs.out 1 rfl
      by_cases hw : s.gen = last
      · have hwb : (s.gen == last) = true := by simpa using hw
        have Hw := hid_ hw
        clear hw
        go_wp2_with fail
        go_quiet (fail)
        have FQ := hid_ (FL.out.drewN nq)
        clear g0 g1 a0 a1
        go_wp2
        go_roundw
        case rel => exact ⟨k + 1, 5, by omega, by go_num, rfl, by rw [allocErr_worn Hs.out hu], fun j t hj ht => by
          rcases Nat.lt_succ_iff_lt_or_eq.1 hj with hj | rfl
          · exact Hno.out j t hj ht
          · obtain rfl := Option.some.inj (Hs.out.symm.trans ht)
            exact .inr Hw.out, FQ.out⟩
        case measure => simp [intOf]; omega
      · have hwb : (s.gen == last) = false := by simpa using hw
        have Hw := hid_ hw
        have hgt : s.gen < last := by omega
        clear hw
        go_wp2_with fail
        go_quiet (fail)
        obtain ⟨wq, hwq⟩ : ∃ wq, wq = wr.drewN nq := ⟨_, rfl⟩
        rw [← hwq]
        have hfq : Fr none_ wr wq := by rw [hwq]; exact (Fr.refl none_ wr).drewN nq
        have XQ := hid_ (X.out.keep hfq)
        have RQ := hid_ (R1.out.keep hfq)
        have PQ := hid_ (P.out.fr hfq id)
        have QQ := hid_ (Q.out.fr hfq id)
        have FQ := hid_ (F.out.then_none hfq)
        clear g0 g1 a0 a1 hwq hfq
        have hw : IntKind.i64.wrap (s.gen + 1) = s.gen + 1 := IntWalk.i64_in _ (by omega)
        go_wp2_with fail
        have hS0 : (fun w' : World => w'.cell? ⟨G, k * 17, none⟩ = some (.int .i64 s.gen) ∧ w'.cell? ⟨w.heap.size, 0, none⟩ = some (.int .i64 R.kind) ∧ w'.cell? ⟨w.heap.size, 1, none⟩ = some (.string R.low) ∧ w'.cell? ⟨w.heap.size, 2, none⟩ = some (.string R.high) ∧ w'.cell? ⟨w.heap.size, 3, none⟩ = some (.bool R.unb) ∧ w'.cell? ⟨w.heap.size, 4, none⟩ = some (.int .i64 R.right) ∧ w'.cell? ⟨w.heap.size, 5, none⟩ = some (.slice A R.rows.length c) ∧ w'.cell? ⟨w.heap.size, 6, none⟩ = some (.slice B R.ents.length d) ∧ w'.cell? ⟨w.heap.size, 7, none⟩ = some (.string R.key) ∧ w'.cell? ⟨w.heap.size, 8, none⟩ = some (.string R.val) ∧ w'.cell? ⟨w.heap.size, 9, none⟩ = some (.int .i64 R.page) ∧ w'.cell? ⟨w.heap.size, 10, none⟩ = some (.int .i64 R.hpage) ∧ w'.cell? ⟨w.heap.size, 11, none⟩ = some (.int .i64 R.hleft) ∧ w'.cell? ⟨w.heap.size, 12, none⟩ = some (.string R.hkey) ∧ w'.cell? ⟨w.heap.size, 13, none⟩ = some (.int .i64 R.nslot) ∧ w'.cell? ⟨w.heap.size, 14, none⟩ = some (.int .i64 R.ngen)) wq.drew := ⟨XQ.out.cell Hs.out 0 rfl, PQ.out.cell' rfl, PQ.out.cell' rfl, PQ.out.cell' rfl, PQ.out.cell' rfl, PQ.out.cell' rfl, PQ.out.cell' rfl, PQ.out.cell' rfl, PQ.out.cell' rfl, PQ.out.cell' rfl, PQ.out.cell' rfl, PQ.out.cell' rfl, PQ.out.cell' rfl, PQ.out.cell' rfl, PQ.out.cell' rfl, PQ.out.cell' rfl⟩
        refine wp_region_T (m := 10) (S := fun w' : World => w'.cell? ⟨G, k * 17, none⟩ = some (.int .i64 s.gen) ∧ w'.cell? ⟨w.heap.size, 0, none⟩ = some (.int .i64 R.kind) ∧ w'.cell? ⟨w.heap.size, 1, none⟩ = some (.string R.low) ∧ w'.cell? ⟨w.heap.size, 2, none⟩ = some (.string R.high) ∧ w'.cell? ⟨w.heap.size, 3, none⟩ = some (.bool R.unb) ∧ w'.cell? ⟨w.heap.size, 4, none⟩ = some (.int .i64 R.right) ∧ w'.cell? ⟨w.heap.size, 5, none⟩ = some (.slice A R.rows.length c) ∧ w'.cell? ⟨w.heap.size, 6, none⟩ = some (.slice B R.ents.length d) ∧ w'.cell? ⟨w.heap.size, 7, none⟩ = some (.string R.key) ∧ w'.cell? ⟨w.heap.size, 8, none⟩ = some (.string R.val) ∧ w'.cell? ⟨w.heap.size, 9, none⟩ = some (.int .i64 R.page) ∧ w'.cell? ⟨w.heap.size, 10, none⟩ = some (.int .i64 R.hpage) ∧ w'.cell? ⟨w.heap.size, 11, none⟩ = some (.int .i64 R.hleft) ∧ w'.cell? ⟨w.heap.size, 12, none⟩ = some (.string R.hkey) ∧ w'.cell? ⟨w.heap.size, 13, none⟩ = some (.int .i64 R.nslot) ∧ w'.cell? ⟨w.heap.size, 14, none⟩ = some (.int .i64 R.ngen)) (by kernel_rfl) ?_
        refine wpAnyT_take (i := 0) (v := _) rfl (by kernel_rfl) (by kernel_rfl) (by kernel_rfl) (by kernel_rfl) (fun _ _ _ h => h) (.inl ⟨by simp [Region.wanted], fun w' hS => by obtain ⟨s0, s1, s2, s3, s4, s5, s6, s7, s8, s9, s10, s11, s12, s13, s14, s15⟩ := hS; go_simp; rfl⟩) hS0 ?_
        refine wpAnyT_take (i := 1) (v := _) rfl (by kernel_rfl) (by kernel_rfl) (by kernel_rfl) (by kernel_rfl) (fun _ _ _ h => h) (.inl ⟨by simp [Region.wanted], fun w' hS => by obtain ⟨s0, s1, s2, s3, s4, s5, s6, s7, s8, s9, s10, s11, s12, s13, s14, s15⟩ := hS; go_simp; rfl⟩) hS0 ?_
        refine wpAnyT_take (i := 2) (v := _) rfl (by kernel_rfl) (by kernel_rfl) (by kernel_rfl) (by kernel_rfl) (fun _ _ _ h => h) (.inl ⟨by simp [Region.wanted], fun w' hS => by obtain ⟨s0, s1, s2, s3, s4, s5, s6, s7, s8, s9, s10, s11, s12, s13, s14, s15⟩ := hS; go_simp; rfl⟩) hS0 ?_
        refine wpAnyT_take (i := 3) (v := _) rfl (by kernel_rfl) (by kernel_rfl) (by kernel_rfl) (by kernel_rfl) (fun _ _ _ h => h) (.inl ⟨by simp [Region.wanted], fun w' hS => by obtain ⟨s0, s1, s2, s3, s4, s5, s6, s7, s8, s9, s10, s11, s12, s13, s14, s15⟩ := hS; go_simp; rfl⟩) hS0 ?_
        refine wpAnyT_take (i := 4) (v := _) rfl (by kernel_rfl) (by kernel_rfl) (by kernel_rfl) (by kernel_rfl) (fun _ _ _ h => h) (.inl ⟨by simp [Region.wanted], fun w' hS => by obtain ⟨s0, s1, s2, s3, s4, s5, s6, s7, s8, s9, s10, s11, s12, s13, s14, s15⟩ := hS; go_simp; rfl⟩) hS0 ?_
        refine wpAnyT_take (i := 5) (v := _) rfl (by kernel_rfl) (by kernel_rfl) (by kernel_rfl) (by kernel_rfl) (fun _ _ _ h => h) (.inl ⟨by simp [Region.wanted], fun w' hS => by obtain ⟨s0, s1, s2, s3, s4, s5, s6, s7, s8, s9, s10, s11, s12, s13, s14, s15⟩ := hS; go_simp; rfl⟩) hS0 ?_
        refine wpAnyT_take (i := 6) (v := _) rfl (by kernel_rfl) (by kernel_rfl) (by kernel_rfl) (by kernel_rfl) (fun _ _ _ h => h) (.inl ⟨by simp [Region.wanted], fun w' hS => by obtain ⟨s0, s1, s2, s3, s4, s5, s6, s7, s8, s9, s10, s11, s12, s13, s14, s15⟩ := hS; go_simp; rfl⟩) hS0 ?_
        have s0 : wq.drew.cell? ⟨G, k * 17, none⟩ = some (.int .i64 s.gen) := XQ.out.cell Hs.out 0 rfl
        have s1 : wq.drew.cell? ⟨w.heap.size, 0, none⟩ = some (.int .i64 R.kind) := PQ.out.cell' rfl
        have s2 : wq.drew.cell? ⟨w.heap.size, 1, none⟩ = some (.string R.low) := PQ.out.cell' rfl
        have s3 : wq.drew.cell? ⟨w.heap.size, 2, none⟩ = some (.string R.high) := PQ.out.cell' rfl
        have s4 : wq.drew.cell? ⟨w.heap.size, 3, none⟩ = some (.bool R.unb) := PQ.out.cell' rfl
        have s5 : wq.drew.cell? ⟨w.heap.size, 4, none⟩ = some (.int .i64 R.right) := PQ.out.cell' rfl
        have s6 : wq.drew.cell? ⟨w.heap.size, 5, none⟩ = some (.slice A R.rows.length c) := PQ.out.cell' rfl
        have s7 : wq.drew.cell? ⟨w.heap.size, 6, none⟩ = some (.slice B R.ents.length d) := PQ.out.cell' rfl
        have s8 : wq.drew.cell? ⟨w.heap.size, 7, none⟩ = some (.string R.key) := PQ.out.cell' rfl
        have s9 : wq.drew.cell? ⟨w.heap.size, 8, none⟩ = some (.string R.val) := PQ.out.cell' rfl
        have s10 : wq.drew.cell? ⟨w.heap.size, 9, none⟩ = some (.int .i64 R.page) := PQ.out.cell' rfl
        have s11 : wq.drew.cell? ⟨w.heap.size, 10, none⟩ = some (.int .i64 R.hpage) := PQ.out.cell' rfl
        have s12 : wq.drew.cell? ⟨w.heap.size, 11, none⟩ = some (.int .i64 R.hleft) := PQ.out.cell' rfl
        have s13 : wq.drew.cell? ⟨w.heap.size, 12, none⟩ = some (.string R.hkey) := PQ.out.cell' rfl
        have s14 : wq.drew.cell? ⟨w.heap.size, 13, none⟩ = some (.int .i64 R.nslot) := PQ.out.cell' rfl
        have s15 : wq.drew.cell? ⟨w.heap.size, 14, none⟩ = some (.int .i64 R.ngen) := PQ.out.cell' rfl
        clear hS0
        refine wpAnyT_one (i := 7) rfl rfl (by kernel_rfl) ?_
        go_simp
        go_at_call 41
        refine (clone_ok R A c B d _ (RQ.out.keep ((Fr.refl none_ wq).drew)) hz.1 hz.2).mono ?_
        rintro e w5 ⟨A5, c5, B5, d5, rfl, hown, hf5⟩
        have hf5 : Fr none_ wq w5 := ((Fr.refl none_ wq).drew).then_none hf5
        have O5 := hid_ hown
        have X5 := hid_ (XQ.out.keep hf5)
        have P5 := hid_ (PQ.out.fr hf5 id)
        have Q5 := hid_ (QQ.out.fr hf5 id)
        have F5 := hid_ (FQ.out.then_none hf5)
        clear hown hf5 s0 s1 s2 s3 s4 s5 s6 s7 s8 s9 s10 s11 s12 s13 s14 s15
        have s0 : w5.cell? ⟨G, k * 17, none⟩ = some (.int .i64 s.gen) := X5.out.cell Hs.out 0 rfl
        have s1 : w5.cell? ⟨w.heap.size, 0, none⟩ = some (.int .i64 R.kind) := P5.out.cell' rfl
        have s2 : w5.cell? ⟨w.heap.size, 1, none⟩ = some (.string R.low) := P5.out.cell' rfl
        have s3 : w5.cell? ⟨w.heap.size, 2, none⟩ = some (.string R.high) := P5.out.cell' rfl
        have s4 : w5.cell? ⟨w.heap.size, 3, none⟩ = some (.bool R.unb) := P5.out.cell' rfl
        have s5 : w5.cell? ⟨w.heap.size, 4, none⟩ = some (.int .i64 R.right) := P5.out.cell' rfl
        have s6 : w5.cell? ⟨w.heap.size, 5, none⟩ = some (.slice A R.rows.length c) := P5.out.cell' rfl
        have s7 : w5.cell? ⟨w.heap.size, 6, none⟩ = some (.slice B R.ents.length d) := P5.out.cell' rfl
        have s8 : w5.cell? ⟨w.heap.size, 7, none⟩ = some (.string R.key) := P5.out.cell' rfl
        have s9 : w5.cell? ⟨w.heap.size, 8, none⟩ = some (.string R.val) := P5.out.cell' rfl
        have s10 : w5.cell? ⟨w.heap.size, 9, none⟩ = some (.int .i64 R.page) := P5.out.cell' rfl
        have s11 : w5.cell? ⟨w.heap.size, 10, none⟩ = some (.int .i64 R.hpage) := P5.out.cell' rfl
        have s12 : w5.cell? ⟨w.heap.size, 11, none⟩ = some (.int .i64 R.hleft) := P5.out.cell' rfl
        have s13 : w5.cell? ⟨w.heap.size, 12, none⟩ = some (.string R.hkey) := P5.out.cell' rfl
        have s14 : w5.cell? ⟨w.heap.size, 13, none⟩ = some (.int .i64 R.nslot) := P5.out.cell' rfl
        have s15 : w5.cell? ⟨w.heap.size, 14, none⟩ = some (.int .i64 R.ngen) := P5.out.cell' rfl
        refine ⟨⟨s0, s1, s2, s3, s4, s5, s6, s7, s8, s9, s10, s11, s12, s13, s14, s15⟩, ?_⟩
        refine wpAnyT_one (i := 8) rfl rfl (by kernel_rfl) ?_
        go_simp
        refine wpAnyT_one (i := 9) rfl rfl (by kernel_rfl) ?_
        go_simp
        clear s0 s1 s2 s3 s4 s5 s6 s7 s8 s9 s10 s11 s12 s13 s14 s15
        refine wpAnyT_one (i := 10) rfl rfl (by kernel_rfl) ?_
        refine wp_store_mid 113 (.tmp 51) (.tmp 50) rfl G (k * 17) (slL ⟨s.gen + 1, true, R, .slice A5 R.rows.length c5, .slice B5 R.ents.length d5⟩).toArray rfl rfl (X5.out.there hlt (Nat.le_refl _) (Nat.le_refl _)) slot_size (by simp [slL, Value.oneCell']) ?_
        refine ⟨.inl rfl, ?_⟩
        refine wpAnyT_done (by kernel_rfl) ?_ _
        obtain ⟨w9, hw9⟩ : ∃ w9, w9 = w5.setCells G (k * 17) (slL ⟨s.gen + 1, true, R, .slice A5 R.rows.length c5, .slice B5 R.ents.length d5⟩) := ⟨_, rfl⟩
        change Exit.then _ _ _ _ (w5.setCells G (k * 17) (slL ⟨s.gen + 1, true, R, .slice A5 R.rows.length c5, .slice B5 R.ents.length d5⟩))
        rw [← hw9]
        have h9 : Fr (only G) w5 w9 := by rw [hw9]; exact Fr.setCells _ _ _ (Fr.refl _ _) (.inl (Eq.refl _))
        have hG5 : ∃ cs, Blk w5 G 113 cs := by obtain ⟨cs, hG, hc⟩ := X5.out.hG; exact ⟨cs, hG⟩
        obtain ⟨cs5, hG5⟩ := hG5
        have o9 : RecOwn w9 wq.heap.size R (.slice A5 R.rows.length c5) (.slice B5 R.ents.length d5) := O5.out.only h9 hG5 (by decide) (by decide)
        have X9 := hid_ (X5.out.put (s := ⟨s.gen + 1, true, R, .slice A5 R.rows.length c5, .slice B5 R.ents.length d5⟩) hlt h9 (fun cs hb => by rw [hw9]; exact Blk.setCells _ _ _ _ hb) (o9.base (Nat.zero_le _)) ⟨by show 0 ≤ s.gen + 1; omega, by show s.gen + 1 ≤ last; omega⟩ hz)
        have O9 := hid_ (o9.base FQ.out.size)
        have Q9 := hid_ (Q5.out.fr h9 (only_ne (Ne.symm (Blk.ne_ hG5 Q5.out (by decide)))))
        have F9 : Hid (Fr (only G) w w9) := hid_ ((F5.out.mono (fun _ _ e => e.elim)).then_only h9 (.inl (Eq.refl _)))
        clear hw9 h9 hG5 o9
        have g9 : w9.cell? ⟨G, k * 17, none⟩ = some (.int .i64 (s.gen + 1)) := X9.out.cell (List.getElem?_set_self hlt) 0 rfl
        have y0 : w9.cell? ⟨w.heap.size + 1, 0, none⟩ = some (.int .i64 0) := Q9.out.cell' rfl
        have y1 : w9.cell? ⟨w.heap.size + 1, 1, none⟩ = some (.int .i64 0) := Q9.out.cell' rfl
        have f0 := Q9.out.frozen 0
        have f1 := Q9.out.frozen 1
        have hwk : IntKind.i64.wrap ((k : Int) + 1) = (k : Int) + 1 := IntWalk.i64_in _ (by omega)
        go_wp2_with fail
        clear g9 y0 y1 f0 f1
        obtain ⟨qb, qf⟩ := box2 Q9.out (.int .i64 ((k : Int) + 1)) (.int .i64 (s.gen + 1))
        have x0 := qb.cell' (i := 0) rfl
        have x1 := qb.cell' (i := 1) rfl
        have hnG : G ≠ w.heap.size + 1 := by omega
        have hnA : a ≠ w.heap.size + 1 := by omega
        refine bodyPost_ret (v := .tuple #[.agg #[.int .i64 ((k : Int) + 1), .int .i64 (s.gen + 1)], .nilIface]) ?_ rfl (.inl ⟨k, s, _, _, Hs.out, ⟨hu, Hw.out⟩, Hno.out, rfl, X9.out.beside qf Q9.out (by decide) (by decide) hnA hnG, O9.out.only qf Q9.out (by decide) (by decide), F9.out.then_only qf (.inr (by omega))⟩)
        simp [results, Try.results33, go_sem, x0, x1]
    · obtain rfl : k = ss.length := by omega
      have y0 : wr.cell? ⟨w.heap.size + 1, 0, none⟩ = some (.int .i64 0) := Q.out.cell' rfl
      have y1 : wr.cell? ⟨w.heap.size + 1, 1, none⟩ = some (.int .i64 0) := Q.out.cell' rfl
      have f0 := Q.out.frozen 0
      have f1 := Q.out.frozen 1
      go_wp2_with fail
      clear y0 y1 f0 f1
      obtain ⟨qb, qf⟩ := box2 Q.out (.int .i64 0) (.int .i64 0)
      have x0 := qb.cell' (i := 0) rfl
      have x1 := qb.cell' (i := 1) rfl
      have hek := Hek.out
      rw [List.take_length] at hek
      refine bodyPost_ret (v := .tuple #[.agg #[.int .i64 0, .int .i64 0], errV ek]) ?_ rfl (.inr ⟨fun j t ht => Hno.out j t (List.getElem?_eq_some_iff.1 ht).1 ht, by rw [hek], F.out.then_only qf (.inr (by omega))⟩)
      simp [results, Try.results33, go_sem, x0, x1]
end Go.Proofs.Ythcpccddcgbanaa

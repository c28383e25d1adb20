/- (first part) Contracts of package epoch's Clock: a clock in memory is its three numbers and a map of its own. -/
import Derived.Test.YtobmkolgjdgeiaaErr
import Derived.Maps.OwnOps
import Derived.Maps.OwnSet
import Derived.Maps.RangeWalk
import Derived.IntWalk
namespace Go.Proofs.Ytobmkolgjdgeiaa
open Go.RowKit
open Go.Maps (Keyed int_keyed keyOf_int_mk)
set_option maxRecDepth 100000
set_option linter.unusedVariables false

/-- What is kept of where threads are inside. -/
abbrev Ins := DataW Unit
abbrev kOf (t : Int) : Lit := .int .i64 t
theorem int_law : Keyed Try.prog 3 := int_keyed Try.underlying3
theorem zero_int (w : World) : (zeroValue 3).run Try.prog w = .ok (.int .i64 0) w := by kernel_rfl

structure Clk (w : World) (C M : Nat) (now last threads : Int) (n : Nat) (D : Ins) : Prop where
  hC : Blk w C 105 #[.int .i64 now, .int .i64 last, .int .i64 threads, .map (some M)]
  hM : w.ownsMap Try.prog 3 (plainElem (H := Unit) Try.prog 3) M n D

theorem map_fr {w w' : World} {S : Nat → Prop} {M n : Nat} {D : Ins} (h : w.ownsMap Try.prog 3 (plainElem (H := Unit) Try.prog 3) M n D) (hf : Fr S w w') (hS : ¬ S M) : w'.ownsMap Try.prog 3 (plainElem (H := Unit) Try.prog 3) M n D := by
  have hl := h.lt
  obtain ⟨es, clock, hb, r⟩ := h
  exact ⟨es, clock, (hf.block M hl hS).trans hb, r⟩
theorem Clk.fr {w w' : World} {S : Nat → Prop} {C M n : Nat} {now last threads : Int} {D : Ins} (h : Clk w C M now last threads n D) (hf : Fr S w w') (hC : ¬ S C) (hM : ¬ S M) : Clk w' C M now last threads n D :=
  ⟨h.hC.fr hf hC, map_fr h.hM hf hM⟩
theorem Clk.ne {w : World} {C M n : Nat} {now last threads : Int} {D : Ins} (h : Clk w C M now last threads n D) : C ≠ M := by
  rintro rfl
  obtain ⟨es, clock, hb, r⟩ := h.hM
  have := h.hC
  unfold Blk at this
  rw [this] at hb
  cases hb

def NewClk (threads last : Int) (w : World) (e : Ending) (w' : World) : Prop :=
  ∃ C M, e = .returned (.pointer (some ⟨C, 0, none⟩)) ∧ Clk w' C M 1 last threads 0 (.map []) ∧ Fr none_ w w' ∧ w.heap.size ≤ C ∧ w.heap.size ≤ M

set_option maxHeartbeats 1000000 in
theorem clkNew_ok (threads last : Int) (w : World) (h1 : 1 ≤ threads) (h2 : threads ≤ 64) (h3 : 1 ≤ last) (h4 : last ≤ 1099511627776) : Calls Try.prog 35 #[.int .i64 threads, .int .i64 last] w (NewClk threads last w) := by
  have hmm := @run_makeMap Try.prog
  have d1 : decide (threads < 1) = false := by simp; omega
  have d2 : decide (64 < threads) = false := by simp; omega
  have d3 : decide (last < 1) = false := by simp; omega
  go_enter Try.func35, Try.ntmps35
  go_wp2_with fail
  go_ret
  refine ⟨w.heap.size + 1, w.heap.size, rfl, ⟨?_, (World.ownsMap_made w _ _ _).alloc _⟩, ((Fr.refl none_ w).alloc _).alloc _, by omega, Nat.le_refl _⟩
  have := Blk.new (w.alloc (.map #[] 0)) 105 #[.int .i64 1, .int .i64 last, .int .i64 threads, .map (some w.heap.size)]
  simpa using this

theorem clkNew_no (threads last : Int) (w : World) (h : threads < 1 ∨ 64 < threads ∨ last < 1 ∨ 1099511627776 < last) : Calls Try.prog 35 #[.int .i64 threads, .int .i64 last] w fun e w' => e = .returned (.pointer none) ∧ w = w' := by
  by_cases h1 : threads < 1
  · clear h
    go_enter Try.func35, Try.ntmps35
    go_wp2
    go_ret
    exact ⟨rfl, rfl⟩
  by_cases h2 : 64 < threads
  · clear h
    go_enter Try.func35, Try.ntmps35
    go_wp2
    go_ret
    exact ⟨rfl, rfl⟩
  by_cases h3 : last < 1
  · clear h
    go_enter Try.func35, Try.ntmps35
    go_wp2
    go_ret
    exact ⟨rfl, rfl⟩
  have h4 : 1099511627776 < last := by omega
  clear h
  go_enter Try.func35, Try.ntmps35
  go_wp2
  go_ret
  exact ⟨rfl, rfl⟩

theorem now_ok {C M n : Nat} {now last threads : Int} {D : Ins} (w : World) (h : Clk w C M now last threads n D) : Calls Try.prog 46 #[.pointer (some ⟨C, 0, none⟩)] w fun e w' => e = .returned (.int .i64 now) ∧ w = w' := by
  have c0 : w.cell? ⟨C, 0, none⟩ = some (.int .i64 now) := h.hC.cell' rfl
  go_enter Try.func46, Try.ntmps46
  go_wp2
  go_ret
  exact ⟨rfl, rfl⟩
theorem now_nil (w : World) : Calls Try.prog 46 #[.pointer none] w fun e w' => e = .returned (.int .i64 0) ∧ w = w' := by
  go_enter Try.func46, Try.ntmps46
  go_wp2
  go_ret
  exact ⟨rfl, rfl⟩
def isB (threads t : Int) : Bool := decide (0 ≤ t) && decide (t < threads)
theorem is_ok {C M n : Nat} {now last threads : Int} {D : Ins} (w : World) (h : Clk w C M now last threads n D) (t : Int) : Calls Try.prog 61 #[.pointer (some ⟨C, 0, none⟩), .int .i64 t] w fun e w' => e = .returned (.bool (isB threads t)) ∧ w = w' := by
  have c2 : w.cell? ⟨C, 2, none⟩ = some (.int .i64 threads) := h.hC.cell' rfl
  by_cases h1 : 0 ≤ t
  · by_cases h2 : t < threads
    · have hb : isB threads t = true := by simp [isB, h1, h2]
      rw [hb]
      go_enter Try.func61, Try.ntmps61
      go_wp2
      go_ret
      exact ⟨rfl, rfl⟩
    · have hb : isB threads t = false := by simp [isB, h2]
      rw [hb]
      go_enter Try.func61, Try.ntmps61
      go_wp2
      go_ret
      exact ⟨rfl, rfl⟩
  · have hb : isB threads t = false := by simp [isB, h1]
    rw [hb]
    go_enter Try.func61, Try.ntmps61
    go_wp2
    go_ret
    exact ⟨rfl, rfl⟩
theorem is_nil (t : Int) (w : World) : Calls Try.prog 61 #[.pointer none, .int .i64 t] w fun e w' => e = .returned (.bool false) ∧ w = w' := by
  go_enter Try.func61, Try.ntmps61
  go_wp2
  go_ret
  exact ⟨rfl, rfl⟩

/-! ### Bump -/
def either (a b : Nat) : Nat → Prop := fun k => k = a ∨ k = b
theorem either_ne {a b k : Nat} (h1 : k ≠ a) (h2 : k ≠ b) : ¬ either a b k := fun e => e.elim h1 h2
theorem bump_nil (w : World) : Calls Try.prog 40 #[.pointer none] w fun e w' => e = .returned (.tuple #[.int .i64 0, errV 1]) ∧ w = w' := by
  go_enter Try.func40, Try.ntmps40
  go_wp2
  go_ret2
  exact ⟨rfl, rfl⟩
theorem bump_end {C M n : Nat} {now last threads : Int} {D : Ins} (w : World) (h : Clk w C M now last threads n D) (he : now = last) : Calls Try.prog 40 #[.pointer (some ⟨C, 0, none⟩)] w fun e w' => e = .returned (.tuple #[.int .i64 now, errV 5]) ∧ Fr none_ w w' := by
  subst he
  have H := hid_ h
  have c0 : w.cell? ⟨C, 0, none⟩ = some (.int .i64 now) := h.hC.cell' rfl
  have c1 : w.cell? ⟨C, 1, none⟩ = some (.int .i64 now) := h.hC.cell' rfl
  clear h
  go_enter Try.func40, Try.ntmps40
  go_wp2_with fail
  go_quiet (fail)
  obtain ⟨wq, hwq⟩ : ∃ wq, wq = w.drewN nq := ⟨_, rfl⟩
  rw [← hwq]
  have Hq : Hid (Fr none_ w wq) := hid_ (by rw [hwq]; exact (Fr.refl none_ w).drewN nq)
  clear hwq c0 c1
  have c0 : wq.cell? ⟨C, 0, none⟩ = some (.int .i64 now) := (H.out.fr Hq.out id id).hC.cell' rfl
  go_wp2
  go_ret2
  exact ⟨rfl, Hq.out⟩
theorem bump_ok {C M n : Nat} {now last threads : Int} {D : Ins} (w : World) (h : Clk w C M now last threads n D) (he : now < last) (hl : last ≤ 1099511627776) (h1 : 1 ≤ now) : Calls Try.prog 40 #[.pointer (some ⟨C, 0, none⟩)] w fun e w' => e = .returned (.tuple #[.int .i64 (now + 1), .nilIface]) ∧ Clk w' C M (now + 1) last threads n D ∧ Fr (either C M) w w' := by
  have H := hid_ h
  have c0 : w.cell? ⟨C, 0, none⟩ = some (.int .i64 now) := h.hC.cell' rfl
  have c1 : w.cell? ⟨C, 1, none⟩ = some (.int .i64 last) := h.hC.cell' rfl
  have hne : (now == last) = false := by simp; omega
  clear h
  go_enter Try.func40, Try.ntmps40
  go_wp2_with fail
  go_quiet (fail)
  obtain ⟨wq, hwq⟩ : ∃ wq, wq = w.drewN nq := ⟨_, rfl⟩
  rw [← hwq]
  have Hq : Hid (Fr none_ w wq) := hid_ (by rw [hwq]; exact (Fr.refl none_ w).drewN nq)
  clear hwq c0 c1
  have K := hid_ (H.out.fr Hq.out id id)
  have c0 : wq.cell? ⟨C, 0, none⟩ = some (.int .i64 now) := K.out.hC.cell' rfl
  have f0 : wq.frozen? ⟨C, 0, none⟩ = false := K.out.hC.frozen 0
  have hw : IntKind.i64.wrap (now + 1) = now + 1 := IntWalk.i64_in _ (by omega)
  go_wp2
  go_ret2
  have hf : Fr (only C) wq (wq.setCell ⟨C, 0, none⟩ (.int .i64 (now + 1))) := (Fr.refl (only C) wq).setCell (p := ⟨C, 0, none⟩) (.inl (Eq.refl _)) _
  exact ⟨rfl, ⟨K.out.hC.set_ 0 _, map_fr K.out.hM hf (only_ne (Ne.symm K.out.ne))⟩, Hq.out.trans hf (fun _ _ e => e.elim) (fun i _ e => .inl e)⟩

/-! ### Enter, Leave, At -/
abbrev hasT (D : Ins) (t : Int) : Bool := Maps.has D (kOf t)
theorem isB_in {threads t : Int} (h : isB threads t = true) (h2 : threads ≤ 64) : 0 ≤ t ∧ t < threads ∧ (Lit.int .i64 t).wf = true := by
  unfold isB at h
  simp at h
  refine ⟨h.1, h.2, ?_⟩
  simp [Lit.wf, IntKind.min, IntKind.max, IntKind.signed, IntKind.bits]
  omega
theorem enter_arg {C M n : Nat} {now last threads : Int} {D : Ins} (w : World) (h : Clk w C M now last threads n D) (t a : Int) (hb : isB threads t = false) : Calls Try.prog 42 #[.pointer (some ⟨C, 0, none⟩), .int .i64 t, .int .i64 a] w fun e w' => e = .returned (errV 1) ∧ w = w' := by
  go_enter Try.func42, Try.ntmps42
  go_wp2_with fail
  refine (is_ok w h t).mono ?_
  rintro e w1 ⟨rfl, rfl⟩
  rw [hb]
  go_wp2
  go_ret
  exact ⟨rfl, rfl⟩
theorem enter_nil (t a : Int) (w : World) : Calls Try.prog 42 #[.pointer none, .int .i64 t, .int .i64 a] w fun e w' => e = .returned (errV 1) ∧ w = w' := by
  go_enter Try.func42, Try.ntmps42
  go_wp2_with fail
  refine (is_nil t w).mono ?_
  rintro e w1 ⟨rfl, rfl⟩
  go_wp2
  go_ret
  exact ⟨rfl, rfl⟩
theorem enter_state {C M n : Nat} {now last threads : Int} {D : Ins} (w : World) (h : Clk w C M now last threads n D) (t a : Int) (hb : isB threads t = true) (ht : threads ≤ 64) (hh : hasT D t = true) : Calls Try.prog 42 #[.pointer (some ⟨C, 0, none⟩), .int .i64 t, .int .i64 a] w fun e w' => e = .returned (errV 13) ∧ w = w' := by
  obtain ⟨i1, i2, hwf⟩ := isB_in hb ht
  have H := hid_ h
  have hkey := keyOf_int_mk (P := Try.prog) Try.underlying3 hwf
  have c3 : w.cell? ⟨C, 3, none⟩ = some (.map (some M)) := h.hC.cell' rfl
  have c0 : w.cell? ⟨C, 0, none⟩ = some (.int .i64 now) := h.hC.cell' rfl
  clear h
  go_enter Try.func42, Try.ntmps42
  go_wp2_with fail
  refine (is_ok w H.out t).mono ?_
  rintro e w1 ⟨rfl, rfl⟩
  rw [hb]
  go_wp2_with (at_lookup; refine wpList_lookup_own_ok_int _ rfl _ _ 103 rfl 3 3 .i64 int_law Try.underlying103 Try.underlying3 (zero_int _) M n D rfl H.out.hM _ _ rfl hkey ?_; intro c hat hwc)
  go_ret
  exact ⟨rfl, rfl⟩
theorem enter_range {C M n : Nat} {now last threads : Int} {D : Ins} (w : World) (h : Clk w C M now last threads n D) (t a : Int) (hb : isB threads t = true) (ht : threads ≤ 64) (hh : hasT D t = false) (ha : a < 1 ∨ now < a) : Calls Try.prog 42 #[.pointer (some ⟨C, 0, none⟩), .int .i64 t, .int .i64 a] w fun e w' => e = .returned (errV 2) ∧ w = w' := by
  obtain ⟨i1, i2, hwf⟩ := isB_in hb ht
  have H := hid_ h
  have hkey := keyOf_int_mk (P := Try.prog) Try.underlying3 hwf
  have c3 : w.cell? ⟨C, 3, none⟩ = some (.map (some M)) := h.hC.cell' rfl
  have c0 : w.cell? ⟨C, 0, none⟩ = some (.int .i64 now) := h.hC.cell' rfl
  clear h
  go_enter Try.func42, Try.ntmps42
  go_wp2_with fail
  refine (is_ok w H.out t).mono ?_
  rintro e w1 ⟨rfl, rfl⟩
  rw [hb]
  by_cases ha1 : a < 1
  · clear ha
    go_wp2_with (at_lookup; refine wpList_lookup_own_ok_int _ rfl _ _ 103 rfl 3 3 .i64 int_law Try.underlying103 Try.underlying3 (zero_int _) M n D rfl H.out.hM _ _ rfl hkey ?_; intro c hat hwc)
    go_ret
    exact ⟨rfl, rfl⟩
  · have ha2 : now < a := by omega
    clear ha
    go_wp2_with (at_lookup; refine wpList_lookup_own_ok_int _ rfl _ _ 103 rfl 3 3 .i64 int_law Try.underlying103 Try.underlying3 (zero_int _) M n D rfl H.out.hM _ _ rfl hkey ?_; intro c hat hwc)
    go_ret
    exact ⟨rfl, rfl⟩
theorem enter_ok {C M n : Nat} {now last threads : Int} {D : Ins} (w : World) (h : Clk w C M now last threads n D) (t a : Int) (hb : isB threads t = true) (ht : threads ≤ 64) (hh : hasT D t = false) (ha : 1 ≤ a) (ha2 : a ≤ now) (hwa : (Lit.int .i64 a).wf = true) (hn : n < maxLen) : Calls Try.prog 42 #[.pointer (some ⟨C, 0, none⟩), .int .i64 t, .int .i64 a] w fun e w' => e = .returned .nilIface ∧ Clk w' C M now last threads (n + 1) (D.put (kOf t) (.lit (.int .i64 a))) ∧ Fr (either C M) w w' := by
  obtain ⟨i1, i2, hwf⟩ := isB_in hb ht
  have H := hid_ h
  have hkey := keyOf_int_mk (P := Try.prog) Try.underlying3 hwf
  have c3 : w.cell? ⟨C, 3, none⟩ = some (.map (some M)) := h.hC.cell' rfl
  have c0 : w.cell? ⟨C, 0, none⟩ = some (.int .i64 now) := h.hC.cell' rfl
  clear h
  go_enter Try.func42, Try.ntmps42
  go_wp2_with fail
  refine (is_ok w H.out t).mono ?_
  rintro e w1 ⟨rfl, rfl⟩
  rw [hb]
  go_wp2_with (first
    | (at_lookup; refine wpList_lookup_own_ok_int _ rfl _ _ 103 rfl 3 3 .i64 int_law Try.underlying103 Try.underlying3 (zero_int _) M n D rfl H.out.hM _ _ rfl hkey ?_; intro c hat hwc)
    | (at_mapUpdate; refine wpList_mapUpdate_own _ rfl _ _ _ 103 rfl 3 3 int_law Try.underlying103 _ M n _ rfl H.out.hM hn _ _ _ rfl rfl hkey _ [] (plainElem_int Try.underlying3 hwa) ?_; intro w2 hown2 hgrow2))
  have hf : Fr (only M) w w2 := (Fr.refl (only M) w).grown hgrow2 (fun k hk => .inl (show k = M by simpa using hk.symm))
  go_ret
  exact ⟨rfl, ⟨H.out.hC.fr hf (only_ne H.out.ne), hown2⟩, hf.mono (fun i _ e => .inr e)⟩

theorem leave_arg {C M n : Nat} {now last threads : Int} {D : Ins} (w : World) (h : Clk w C M now last threads n D) (t : Int) (hb : isB threads t = false) : Calls Try.prog 44 #[.pointer (some ⟨C, 0, none⟩), .int .i64 t] w fun e w' => e = .returned (errV 1) ∧ w = w' := by
  go_enter Try.func44, Try.ntmps44
  go_wp2_with fail
  refine (is_ok w h t).mono ?_
  rintro e w1 ⟨rfl, rfl⟩
  rw [hb]
  go_wp2
  go_ret
  exact ⟨rfl, rfl⟩
theorem leave_nil (t : Int) (w : World) : Calls Try.prog 44 #[.pointer none, .int .i64 t] w fun e w' => e = .returned (errV 1) ∧ w = w' := by
  go_enter Try.func44, Try.ntmps44
  go_wp2_with fail
  refine (is_nil t w).mono ?_
  rintro e w1 ⟨rfl, rfl⟩
  go_wp2
  go_ret
  exact ⟨rfl, rfl⟩
theorem leave_state {C M n : Nat} {now last threads : Int} {D : Ins} (w : World) (h : Clk w C M now last threads n D) (t : Int) (hb : isB threads t = true) (ht : threads ≤ 64) (hh : hasT D t = false) : Calls Try.prog 44 #[.pointer (some ⟨C, 0, none⟩), .int .i64 t] w fun e w' => e = .returned (errV 13) ∧ w = w' := by
  obtain ⟨i1, i2, hwf⟩ := isB_in hb ht
  have H := hid_ h
  have hkey := keyOf_int_mk (P := Try.prog) Try.underlying3 hwf
  have c3 : w.cell? ⟨C, 3, none⟩ = some (.map (some M)) := h.hC.cell' rfl
  have c0 : w.cell? ⟨C, 0, none⟩ = some (.int .i64 now) := h.hC.cell' rfl
  clear h
  go_enter Try.func44, Try.ntmps44
  go_wp2_with fail
  refine (is_ok w H.out t).mono ?_
  rintro e w1 ⟨rfl, rfl⟩
  rw [hb]
  go_wp2_with (at_lookup; refine wpList_lookup_own_ok_int _ rfl _ _ 103 rfl 3 3 .i64 int_law Try.underlying103 Try.underlying3 (zero_int _) M n D rfl H.out.hM _ _ rfl hkey ?_; intro c hat hwc)
  go_ret
  exact ⟨rfl, rfl⟩
theorem leave_ok {C M n : Nat} {now last threads : Int} {D : Ins} (w : World) (h : Clk w C M now last threads n D) (t : Int) (hb : isB threads t = true) (ht : threads ≤ 64) (hh : hasT D t = true) : Calls Try.prog 44 #[.pointer (some ⟨C, 0, none⟩), .int .i64 t] w fun e w' => e = .returned .nilIface ∧ Clk w' C M now last threads n (D.del (kOf t)) ∧ Fr (either C M) w w' := by
  obtain ⟨i1, i2, hwf⟩ := isB_in hb ht
  have H := hid_ h
  have hkey := keyOf_int_mk (P := Try.prog) Try.underlying3 hwf
  have c3 : w.cell? ⟨C, 3, none⟩ = some (.map (some M)) := h.hC.cell' rfl
  have c0 : w.cell? ⟨C, 0, none⟩ = some (.int .i64 now) := h.hC.cell' rfl
  clear h
  go_enter Try.func44, Try.ntmps44
  go_wp2_with fail
  refine (is_ok w H.out t).mono ?_
  rintro e w1 ⟨rfl, rfl⟩
  rw [hb]
  go_wp2_with (first
    | (at_lookup; refine wpList_lookup_own_ok_int _ rfl _ _ 103 rfl 3 3 .i64 int_law Try.underlying103 Try.underlying3 (zero_int _) M n D rfl H.out.hM _ _ rfl hkey ?_; intro c hat hwc)
    | (at_delete; refine wpList_delete_own _ rfl _ _ 103 3 rfl 3 int_law Try.underlying103 _ M n D rfl H.out.hM _ _ rfl hkey ?_; intro w2 hown2 hturn2))
  have hf : Fr (only M) w w2 := (Fr.refl (only M) w).grown hturn2.grown (fun k hk => .inl (show k = M by simpa using hk.symm))
  go_ret
  exact ⟨rfl, ⟨H.out.hC.fr hf (only_ne H.out.ne), hown2⟩, hf.mono (fun i _ e => .inr e)⟩

theorem clkAt_arg {C M n : Nat} {now last threads : Int} {D : Ins} (w : World) (h : Clk w C M now last threads n D) (t : Int) (hb : isB threads t = false) : Calls Try.prog 45 #[.pointer (some ⟨C, 0, none⟩), .int .i64 t] w fun e w' => e = .returned (.tuple #[.int .i64 0, .bool false, errV 1]) ∧ w = w' := by
  go_enter Try.func45, Try.ntmps45
  go_wp2_with fail
  refine (is_ok w h t).mono ?_
  rintro e w1 ⟨rfl, rfl⟩
  rw [hb]
  go_wp2
  exact bodyPost_ret (v := .tuple #[.int .i64 0, .bool false, errV 1]) (by simp [results, Try.results45, go_sem]) rfl ⟨rfl, rfl⟩
theorem clkAt_nil (t : Int) (w : World) : Calls Try.prog 45 #[.pointer none, .int .i64 t] w fun e w' => e = .returned (.tuple #[.int .i64 0, .bool false, errV 1]) ∧ w = w' := by
  go_enter Try.func45, Try.ntmps45
  go_wp2_with fail
  refine (is_nil t w).mono ?_
  rintro e w1 ⟨rfl, rfl⟩
  go_wp2
  exact bodyPost_ret (v := .tuple #[.int .i64 0, .bool false, errV 1]) (by simp [results, Try.results45, go_sem]) rfl ⟨rfl, rfl⟩
def ClkAtPost (D : Ins) (t : Int) (w : World) (e : Ending) (w' : World) : Prop :=
  ∃ c : Int, e = .returned (.tuple #[.int .i64 c, .bool (hasT D t), .nilIface]) ∧ D.atKey (kOf t) (.lit (.int .i64 0)) = .lit (.int .i64 c) ∧ w = w'
theorem clkAt_ok {C M n : Nat} {now last threads : Int} {D : Ins} (w : World) (h : Clk w C M now last threads n D) (t : Int) (hb : isB threads t = true) (ht : threads ≤ 64) : Calls Try.prog 45 #[.pointer (some ⟨C, 0, none⟩), .int .i64 t] w (ClkAtPost D t w) := by
  obtain ⟨i1, i2, hwf⟩ := isB_in hb ht
  have H := hid_ h
  have hkey := keyOf_int_mk (P := Try.prog) Try.underlying3 hwf
  have c3 : w.cell? ⟨C, 3, none⟩ = some (.map (some M)) := h.hC.cell' rfl
  clear h
  go_enter Try.func45, Try.ntmps45
  go_wp2_with fail
  refine (is_ok w H.out t).mono ?_
  rintro e w1 ⟨rfl, rfl⟩
  rw [hb]
  go_wp2_with (at_lookup; refine wpList_lookup_own_ok_int _ rfl _ _ 103 rfl 3 3 .i64 int_law Try.underlying103 Try.underlying3 (zero_int _) M n D rfl H.out.hM _ _ rfl hkey ?_; intro c hat hwc)
  exact bodyPost_ret (v := .tuple #[.int .i64 c, .bool (hasT D t), .nilIface]) (by simp [results, Try.results45, go_sem]) rfl ⟨c, rfl, hat, rfl⟩

/-! ### Oldest -/
def IsAt (D : Ins) (t x : Int) : Prop := ∀ zd, D.atKey (kOf t) zd = .lit (.int .i64 x)
structure IsOld (D : Ins) (now m : Int) : Prop where
  le : m ≤ now
  low : ∀ t x, hasT D t = true → IsAt D t x → m ≤ x
  hit : m = now ∨ ∃ t, hasT D t = true ∧ IsAt D t m
/-- .. with some entries still to come. -/
structure OldSo (D : Ins) (now : Int) (left : Lit → Bool) (m : Int) : Prop where
  le : m ≤ now
  low : ∀ t x, hasT D t = true → left (kOf t) = false → IsAt D t x → m ≤ x
  hit : m = now ∨ ∃ t, hasT D t = true ∧ IsAt D t m
  sub : ∀ kl, left kl = true → Maps.has D kl = true
theorem OldSo.done {D : Ins} {now m : Int} {left : Lit → Bool} (h : OldSo D now left m) (hl : ∀ kl, left kl = false) : IsOld D now m :=
  ⟨h.le, fun t x hh => h.low t x hh (hl _), h.hit⟩
theorem IsAt.inj {D : Ins} {t x y : Int} (h : IsAt D t x) (h' : IsAt D t y) : x = y := by
  have := (h (.lit (.bool true))).symm.trans (h' _)
  cases this
  rfl
theorem OldSo.next {D : Ins} {now m x c : Int} {left : Lit → Bool} (h : OldSo D now left m) (hx : left (kOf x) = true) (hc : IsAt D x c) : OldSo D now (fun z => left z && !z.sameKey (kOf x)) (if c < m then c else m) := by
  refine ⟨by have := h.le; split <;> omega, fun t y hh hl hy => ?_, ?_, fun kl e => ?_⟩
  · by_cases ht : t = x
    · subst ht
      obtain rfl := hy.inj hc
      split <;> omega
    · have h1 : (kOf t).sameKey (kOf x) = false := Maps.sameKey_ne (fun e => ht (by cases e; rfl))
      simp only [h1, Bool.not_false, Bool.and_true] at hl
      have := h.low t y hh hl hy
      split <;> omega
  · split
    · exact .inr ⟨x, h.sub _ hx, hc⟩
    · exact h.hit
  · simp only [Bool.and_eq_true] at e
    exact h.sub kl e.1
theorem at_put_same (D : Ins) (hD : Maps.IsMap D) (t a : Int) : IsAt (D.put (kOf t) (.lit (.int .i64 a))) t a := fun zd => Maps.atKey_put_same hD (by trivial) _ _
end Go.Proofs.Ytobmkolgjdgeiaa

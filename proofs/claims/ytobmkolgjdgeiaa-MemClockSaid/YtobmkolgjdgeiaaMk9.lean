/- A memory's clock: tick, Bump, Enter, Leave, At, Now. -/
import Derived.Test.YtobmkolgjdgeiaaMem9
import Derived.Test.YtobmkolgjdgeiaaRef60
namespace Go.Proofs.Ytobmkolgjdgeiaa
open Go.RowKit
set_option maxRecDepth 100000
set_option linter.unusedVariables false

/-- A memory as its clock sees it. -/
structure Mk (w : World) (m : Nat) (k : Int) (l : Lm) (x : St) (now : Int) (S : List Int) (n : Nat) : Prop where
  b : Blk w m 89 (mmA k l x)
  ck : Ck w x.C x.M now l.n S n
def mset (m : Nat) (x : St) : Nat → Prop := fun i => i = m ∨ i = x.C ∨ i = x.M
section
variable {w w' : World} {m : Nat} {k : Int} {l : Lm} {x : St} {now : Int} {S : List Int} {n : Nat}
theorem Mk.ne (h : Mk w m k l x now S n) : m ≠ x.C ∧ m ≠ x.M := by
  obtain ⟨cs, hc⟩ := h.ck.blkC
  obtain ⟨es, cl, hm⟩ := h.ck.objM
  refine ⟨Blk.ne_ h.b hc (by decide), ?_⟩
  rintro e
  have hb := h.b
  unfold Blk at hb
  rw [e, hm] at hb
  cases hb
theorem Mk.keep (h : Mk w m k l x now S n) (hf : Fr none_ w w') : Mk w' m k l x now S n := ⟨h.b.fr hf id, h.ck.keep hf⟩
theorem Mk.tick (h : Mk w m k l x now S n) (k' : Int) : Mk (w.setCell ⟨m, 0, none⟩ (.int .i64 k')) m k' l x now S n :=
  ⟨h.b.set_ 0 _, h.ck.fr (Fr.only1 w ⟨m, 0, none⟩ _) (only_ne (Ne.symm h.ne.1)) (only_ne (Ne.symm h.ne.2))⟩
theorem Mk.step (h : Mk w m k l x now S n) {now' : Int} {S' : List Int} {n' : Nat} (hf : Fr (either x.C x.M) w w') (hc : Ck w' x.C x.M now' l.n S' n') : Mk w' m k l x now' S' n' :=
  ⟨h.b.fr hf (either_ne h.ne.1 h.ne.2), hc⟩
theorem mset_tick (m : Nat) (x : St) (w : World) (v : Value) : Fr (mset m x) w (w.setCell ⟨m, 0, none⟩ v) := (Fr.refl _ w).setCell (p := ⟨m, 0, none⟩) (.inl (.inl rfl)) v
theorem mset_step {w w1 w2 : World} {m : Nat} {x : St} (h : Fr (mset m x) w w1) (hf : Fr (either x.C x.M) w1 w2) : Fr (mset m x) w w2 :=
  h.trans hf (fun _ _ => id) (fun i _ e => .inr e)
end
theorem tick_ok (m : Nat) (k : Int) (l : Lm) (x : St) (w : World) (h : Blk w m 89 (mmA k l x)) (h0 : 0 ≤ k) (h1 : k ≤ 1000) : Calls Try.prog 39 #[.pointer (some ⟨m, 0, none⟩)] w fun e w' => e = .returned (.tuple #[]) ∧ w' = w.setCell ⟨m, 0, none⟩ (.int .i64 (k + 1)) := by
  have c0 : w.cell? ⟨m, 0, none⟩ = some (.int .i64 k) := h.cell' rfl
  have y0 := h.frozen 0
  clear h
  go_enter Try.func39, Try.ntmps39
  go_wp2
  exact bodyPost_end (v := .tuple #[]) (by simp [results, Try.results39, go_sem]) rfl ⟨rfl, rfl⟩
theorem fat_nil (p : ByteArray) (s : Int) (w : World) : Calls Try.prog 41 #[.string p, .int .i64 s, .nilIface] w fun e w' => e = .returned .nilIface ∧ w = w' := by
  go_enter Try.func41, Try.ntmps41
  go_wp2
  go_ret
  exact ⟨rfl, rfl⟩
theorem fat_any (p : ByteArray) (s k : Int) (w : World) : Calls Try.prog 41 #[.string p, .int .i64 s, errOf k] w fun e w' => (∃ v, e = .returned v) ∧ Fr none_ w w' := by
  by_cases h : k = 0
  · subst h
    exact (fat_nil p s w).mono fun e w' h => ⟨⟨_, h.1⟩, by rw [← h.2]; exact Fr.refl _ _⟩
  · rw [errOf_pos h]
    clear h
    go_enter Try.func41, Try.ntmps41
    go_wp2
    go_ret
    exact ⟨⟨_, rfl⟩, (Fr.refl none_ w).alloc _⟩
def MkPost (m : Nat) (k : Int) (l : Lm) (x : St) (now : Int) (S : List Int) (n : Nat) (w : World) (e : Ending) (w' : World) : Prop := (∃ v, e = .returned v) ∧ Mk w' m k l x now S n ∧ Fr (mset m x) w w'
section
variable (m : Nat) (k : Int) (l : Lm) (x : St) (now : Int) (S : List Int) (n : Nat) (w : World)
theorem memBump_ok (h : Mk w m k l x now S n) (h0 : 0 ≤ k) (h1 : k ≤ 1000) : Calls Try.prog 10 #[.pointer (some ⟨m, 0, none⟩)] w (MkPost m (k + 1) l x (bumpN now l.n) S (n + 1) w) := by
  have H := hid_ h
  clear h
  go_enter Try.func10, Try.ntmps10
  go_wp2_with fail
  refine (tick_ok m k l x w H.out.b h0 h1).mono ?_
  rintro e w1 ⟨rfl, hw1⟩
  have M1 : Hid (Mk w1 m (k + 1) l x now S n) := hid_ (by rw [hw1]; exact H.out.tick _)
  have F1 : Hid (Fr (mset m x) w w1) := hid_ (by rw [hw1]; exact mset_tick m x w _)
  have c9 : w1.cell? ⟨m, 9, none⟩ = some (.pointer (some ⟨x.C, 0, none⟩)) := M1.out.b.cell' rfl
  clear hw1
  go_wp2_with fail
  refine (bump_ck M1.out.ck).mono ?_
  rintro e w2 ⟨rfl, hc, hf⟩
  have M2 := hid_ (M1.out.step hf hc)
  have F2 := hid_ (mset_step F1.out hf)
  clear hc hf c9
  go_wp2_with fail
  refine (fat_any _ _ _ _).mono ?_
  rintro e w3 ⟨⟨v, rfl⟩, hf⟩
  have M3 := hid_ (M2.out.keep hf)
  have F3 := hid_ (F2.out.then_none hf)
  clear hf
  go_wp2_with fail
  go_ret2
  exact ⟨⟨_, rfl⟩, M3.out, F3.out⟩
theorem memEnter_ok (h : Mk w m k l x now S n) (h0 : 0 ≤ k) (h1 : k ≤ 1000) (hn : n ≤ 1000) (t a : Int) (hwa : (Lit.int .i64 a).wf = true) : Calls Try.prog 12 #[.pointer (some ⟨m, 0, none⟩), .int .i64 t, .int .i64 a] w (MkPost m (k + 1) l x now (enterS now S t a) (n + 1) w) := by
  have H := hid_ h
  clear h
  go_enter Try.func12, Try.ntmps12
  go_wp2_with fail
  refine (tick_ok m k l x w H.out.b h0 h1).mono ?_
  rintro e w1 ⟨rfl, hw1⟩
  have M1 : Hid (Mk w1 m (k + 1) l x now S n) := hid_ (by rw [hw1]; exact H.out.tick _)
  have F1 : Hid (Fr (mset m x) w w1) := hid_ (by rw [hw1]; exact mset_tick m x w _)
  have c9 : w1.cell? ⟨m, 9, none⟩ = some (.pointer (some ⟨x.C, 0, none⟩)) := M1.out.b.cell' rfl
  clear hw1
  go_wp2_with fail
  refine (enter_ck M1.out.ck hn t a hwa).mono ?_
  rintro e w2 ⟨rfl, hc, hf⟩
  have M2 := hid_ (M1.out.step hf hc)
  have F2 := hid_ (mset_step F1.out hf)
  clear hc hf c9
  go_wp2_with fail
  refine (fat_any _ _ _ _).mono ?_
  rintro e w3 ⟨⟨v, rfl⟩, hf⟩
  have M3 := hid_ (M2.out.keep hf)
  have F3 := hid_ (F2.out.then_none hf)
  clear hf
  go_wp2_with fail
  go_ret
  exact ⟨⟨_, rfl⟩, M3.out, F3.out⟩
theorem memLeave_ok (h : Mk w m k l x now S n) (h0 : 0 ≤ k) (h1 : k ≤ 1000) (t : Int) : Calls Try.prog 14 #[.pointer (some ⟨m, 0, none⟩), .int .i64 t] w (MkPost m (k + 1) l x now (leaveS S t) (n + 1) w) := by
  have H := hid_ h
  clear h
  go_enter Try.func14, Try.ntmps14
  go_wp2_with fail
  refine (tick_ok m k l x w H.out.b h0 h1).mono ?_
  rintro e w1 ⟨rfl, hw1⟩
  have M1 : Hid (Mk w1 m (k + 1) l x now S n) := hid_ (by rw [hw1]; exact H.out.tick _)
  have F1 : Hid (Fr (mset m x) w w1) := hid_ (by rw [hw1]; exact mset_tick m x w _)
  have c9 : w1.cell? ⟨m, 9, none⟩ = some (.pointer (some ⟨x.C, 0, none⟩)) := M1.out.b.cell' rfl
  clear hw1
  go_wp2_with fail
  refine (leave_ck M1.out.ck t).mono ?_
  rintro e w2 ⟨rfl, hc, hf⟩
  have M2 := hid_ (M1.out.step hf hc)
  have F2 := hid_ (mset_step F1.out hf)
  clear hc hf c9
  go_wp2_with fail
  refine (fat_any _ _ _ _).mono ?_
  rintro e w3 ⟨⟨v, rfl⟩, hf⟩
  have M3 := hid_ (M2.out.keep hf)
  have F3 := hid_ (F2.out.then_none hf)
  clear hf
  go_wp2_with fail
  go_ret
  exact ⟨⟨_, rfl⟩, M3.out, F3.out⟩
theorem memAt_ok (h : Mk w m k l x now S n) (h0 : 0 ≤ k) (h1 : k ≤ 1000) {i : Nat} {y : Int} (hi : S[i]? = some y) : Calls Try.prog 16 #[.pointer (some ⟨m, 0, none⟩), .int .i64 i] w fun e w' => e = .returned (.tuple #[.int .i64 y, .bool (decide (0 < y)), .nilIface]) ∧ Mk w' m (k + 1) l x now S n ∧ Fr (mset m x) w w' := by
  have H := hid_ h
  clear h
  go_enter Try.func16, Try.ntmps16
  go_wp2_with fail
  refine (tick_ok m k l x w H.out.b h0 h1).mono ?_
  rintro e w1 ⟨rfl, hw1⟩
  have M1 : Hid (Mk w1 m (k + 1) l x now S n) := hid_ (by rw [hw1]; exact H.out.tick _)
  have F1 : Hid (Fr (mset m x) w w1) := hid_ (by rw [hw1]; exact mset_tick m x w _)
  have c9 : w1.cell? ⟨m, 9, none⟩ = some (.pointer (some ⟨x.C, 0, none⟩)) := M1.out.b.cell' rfl
  clear hw1
  go_wp2_with fail
  refine (at_ck M1.out.ck hi).mono ?_
  rintro e w2 ⟨rfl, rfl⟩
  go_wp2_with fail
  refine (fat_nil _ _ _).mono ?_
  rintro e w3 ⟨rfl, rfl⟩
  go_wp2_with fail
  go_ret3
  exact ⟨rfl, M1.out, F1.out⟩
theorem memNow_ok (h : Mk w m k l x now S n) (h0 : 0 ≤ k) (h1 : k ≤ 1000) : Calls Try.prog 17 #[.pointer (some ⟨m, 0, none⟩)] w fun e w' => e = .returned (.int .i64 now) ∧ Mk w' m (k + 1) l x now S n ∧ Fr (mset m x) w w' := by
  have H := hid_ h
  clear h
  go_enter Try.func17, Try.ntmps17
  go_wp2_with fail
  refine (tick_ok m k l x w H.out.b h0 h1).mono ?_
  rintro e w1 ⟨rfl, hw1⟩
  have M1 : Hid (Mk w1 m (k + 1) l x now S n) := hid_ (by rw [hw1]; exact H.out.tick _)
  have F1 : Hid (Fr (mset m x) w w1) := hid_ (by rw [hw1]; exact mset_tick m x w _)
  have c9 : w1.cell? ⟨m, 9, none⟩ = some (.pointer (some ⟨x.C, 0, none⟩)) := M1.out.b.cell' rfl
  clear hw1
  go_wp2_with fail
  refine (now_ck M1.out.ck).mono ?_
  rintro e w2 ⟨rfl, rfl⟩
  go_wp2_with fail
  go_ret
  exact ⟨rfl, M1.out, F1.out⟩
end
end Go.Proofs.Ytobmkolgjdgeiaa

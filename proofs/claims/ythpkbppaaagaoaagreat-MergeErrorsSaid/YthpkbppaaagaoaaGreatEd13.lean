/- Helpers that end with an error, and one that is not there. -/
import Derived.Test.YthpkbppaaagaoaaGreatMhN
import Derived.Test.YthpkbppaaagaoaaGreatEc13
namespace Go.Proofs.YthpkbppaaagaoaaGreat
open Go.RowKit Go.BigFrame
set_option maxRecDepth 100000
set_option linter.unusedVariables false

theorem mover_nil (w : World) : Calls Tryz.prog 28 #[.pointer none] w fun e w' => e = .returned (.bool true) ∧ w = w' := by
  go_enter Tryz.func28, Tryz.ntmps28
  go_wp2
  go_ret
  exact ⟨rfl, rfl⟩
theorem mstep_nil (v : Value) (w : World) : Calls Tryz.prog 18 #[.pointer none, v] w fun e w' => e = .returned (.bool true) ∧ w = w' := by
  go_enter Tryz.func18, Tryz.ntmps18
  go_wp2_with fail
  refine (mover_nil _).mono ?_
  rintro e w0 ⟨rfl, rfl⟩
  go_wp2_with fail
  go_ret
  exact ⟨rfl, rfl⟩
theorem mdone_nil (w : World) : Calls Tryz.prog 24 #[.pointer none] w fun e w' => e = .returned (.tuple #[.bool false, errV 1]) ∧ w = w' := by
  go_enter Tryz.func24, Tryz.ntmps24
  go_wp2
  go_ret2
  exact ⟨rfl, rfl⟩
set_option maxHeartbeats 2000000 in
theorem mgone_nil (w : World) : Calls Tryz.prog 33 #[.pointer none] w fun e w' => e = .returned (.tuple #[.agg #[.int .i64 0, .int .i64 0], .int .i64 (-1)]) ∧ Fr none_ w w' := by
  obtain ⟨w0, hw0⟩ : ∃ z, z = w.alloc (.cells #[.int .i64 0, .int .i64 0] 36) := ⟨_, rfl⟩
  have f0 : Fr none_ w w0 := by rw [hw0]; exact (Fr.refl none_ w).alloc _
  have B0 : Hid (Blk w0 w.heap.size 36 #[.int .i64 0, .int .i64 0]) := hid_ (by rw [hw0]; exact Blk.new w _ _)
  have F0 := hid_ f0
  have r0 := B0.out.cell' (i := 0) rfl
  have r1 := B0.out.cell' (i := 1) rfl
  have z0 := B0.out.frozen 0
  have z1 := B0.out.frozen 1
  clear f0
  go_enter Tryz.func33, Tryz.ntmps33
  go_upto_region 1 with fail
  change Code.wp _ _ _ _ (w.alloc (.cells #[.int .i64 0, .int .i64 0] 36))
  rw [← hw0]
  clear hw0
  go_wp2_with fail
  obtain ⟨w2, hw2⟩ : ∃ z, z = (w0.setCell ⟨w.heap.size, 0, none⟩ (.int .i64 0)).setCell ⟨w.heap.size, 1, none⟩ (.int .i64 0) := ⟨_, rfl⟩
  change bodyPost _ _ _ _ _ ((w0.setCell ⟨w.heap.size, 0, none⟩ (.int .i64 0)).setCell ⟨w.heap.size, 1, none⟩ (.int .i64 0))
  rw [← hw2]
  have B1 : Blk ((w0.setCell ⟨w.heap.size, 0, none⟩ (.int .i64 0)).setCell ⟨w.heap.size, 1, none⟩ (.int .i64 0)) w.heap.size 36 #[.int .i64 0, .int .i64 0] := (B0.out.set_ 0 (.int .i64 0)).set_ 1 (.int .i64 0)
  have f1 : Fr (only w.heap.size) w0 ((w0.setCell ⟨w.heap.size, 0, none⟩ (.int .i64 0)).setCell ⟨w.heap.size, 1, none⟩ (.int .i64 0)) := frO13 (Fr.only1 _ ⟨w.heap.size, 0, none⟩ _) _
  have B2 : Blk w2 w.heap.size 36 #[.int .i64 0, .int .i64 0] := by rw [hw2]; exact B1
  have F2 : Fr none_ w w2 := F0.out.then_only (by rw [hw2]; exact f1) (.inr (Nat.le_refl _))
  have q0 := B2.cell' (i := 0) rfl
  have q1 := B2.cell' (i := 1) rfl
  clear hw2 B1 f1
  refine bodyPost_ret (v := .tuple #[.agg #[.int .i64 0, .int .i64 0], .int .i64 (-1)]) ?_ rfl ⟨rfl, F2⟩
  simp [results, Tryz.results33, go_sem, q0, q1]
def EndE (h : Nat) (H : Hm) (v : Value) (w : World) (e : Ending) (w' : World) : Prop := e = .returned (.bool true) ∧ HpB w' h { H with over := true, done := false, ev := v } ∧ Fr (only h) w w'
set_option maxHeartbeats 4000000 in
theorem loaded_err {w : World} {h g : Nat} {H : Hm} (t : TypeId) (u : Value) (hb : HpB w h H) (hl : H.lv = .pointer (some ⟨g, 0, none⟩))
    (hp : Calls Tryz.prog 79 #[.pointer (some ⟨g, 0, none⟩)] w fun e w' => e = .returned (.tuple #[.agg pgZ, .iface t u]) ∧ Fr none_ w w') :
    Calls Tryz.prog 46 #[.pointer (some ⟨h, 0, none⟩)] w (EndE h H (.iface t u) w) := by
  have HB := hid_ hb
  have HP := hid_ hp
  have c7 : w.cell? ⟨h, 7, none⟩ = some (.pointer (some ⟨g, 0, none⟩)) := by rw [← hl]; exact hb.cell' rfl
  clear hb hl hp
  go_enter Tryz.func46, Tryz.ntmps46
  go_wp2_with fail
  refine HP.out.mono ?_
  rintro e w1 ⟨rfl, hf1⟩
  have HB1 := hid_ (HB.out.fr hf1 id)
  have F1 := hid_ hf1
  clear hf1 c7
  go_upto_region 2 with (refine wpList_store_mid rfl 140 (.tmp 3) (.tmp 11) rfl w1.heap.size 0 pgZ rfl rfl (new_there w1 _ pgZ) page_size (by simp [Value.oneCell']) ?_; obtain ⟨w2, hw2⟩ : ∃ z, z = (w1.alloc (.cells pgZ 140)).setCells w1.heap.size 0 pgZ.toList := ⟨_, rfl⟩; change wpList _ _ _ _ _ ((w1.alloc (.cells pgZ 140)).setCells w1.heap.size 0 pgZ.toList); rw [← hw2]; have P2 : Hid (Blk w2 w1.heap.size 140 pgZ ∧ Fr none_ w1 w2) := hid_ (by rw [hw2]; exact new_copy w1 _ pgZ pgZ.toList rfl); clear hw2)
  have HB2 := hid_ (HB1.out.fr P2.out.2 id)
  have F2 := hid_ (F1.out.then_none P2.out.2)
  clear P2 HB1 F1
  go_wp2_with fail
  refine (mend_ok false (.iface t u) (.inr ⟨t, u, rfl⟩) HB2.out).mono ?_
  rintro e w3 ⟨rfl, h3, f3⟩
  have X := hid_ (And.intro h3 f3)
  clear h3 f3
  go_wp2_with fail
  go_ret
  exact ⟨rfl, X.out.1, (F2.out.mono (fun _ _ e => e.elim)).then_only X.out.2 (.inl rfl)⟩
set_option maxHeartbeats 4000000 in
theorem loaded_kind {w : World} {h g : Nat} {H : Hm} {s : LdS} (hb : HpB w h H) (hl : H.lv = .pointer (some ⟨g, 0, none⟩))
    (hp : Calls Tryz.prog 79 #[.pointer (some ⟨g, 0, none⟩)] w fun e w' => ∃ v, e = .returned v ∧ LdMadeI s w v w') :
    Calls Tryz.prog 46 #[.pointer (some ⟨h, 0, none⟩)] w (EndE h H (errV 9) w) := by
  have HB := hid_ hb
  have HP := hid_ hp
  have c7 : w.cell? ⟨h, 7, none⟩ = some (.pointer (some ⟨g, 0, none⟩)) := by rw [← hl]; exact hb.cell' rfl
  clear hb hl hp
  go_enter Tryz.func46, Tryz.ntmps46
  go_wp2_with fail
  refine HP.out.mono ?_
  rintro e w1 ⟨v, rfl, ⟨V, C, nc, x, D, nr, y, A, c, rfl⟩, hf1⟩
  have HB1 := hid_ (HB.out.fr hf1 id)
  have F1 := hid_ hf1
  clear hf1 c7
  go_upto_region 2 with (refine wpList_store_mid rfl 140 (.tmp 3) (.tmp 11) rfl w1.heap.size 0 (pgA s.n s.hs s.hg (.slice C nc x) (.slice D nr y) false Lw.zero (.slice none 0 0) V (.slice A V.ents.length c)) rfl rfl (new_there w1 _ pgZ) page_size (by simp [Value.oneCell']) ?_; obtain ⟨w2, hw2⟩ : ∃ z, z = (w1.alloc (.cells pgZ 140)).setCells w1.heap.size 0 (pgA s.n s.hs s.hg (.slice C nc x) (.slice D nr y) false Lw.zero (.slice none 0 0) V (.slice A V.ents.length c)).toList := ⟨_, rfl⟩; change wpList _ _ _ _ _ ((w1.alloc (.cells pgZ 140)).setCells w1.heap.size 0 (pgA s.n s.hs s.hg (.slice C nc x) (.slice D nr y) false Lw.zero (.slice none 0 0) V (.slice A V.ents.length c)).toList); rw [← hw2]; have P2 : Hid (Blk w2 w1.heap.size 140 (pgA s.n s.hs s.hg (.slice C nc x) (.slice D nr y) false Lw.zero (.slice none 0 0) V (.slice A V.ents.length c)) ∧ Fr none_ w1 w2) := hid_ (by rw [hw2]; exact new_copy w1 _ pgZ (pgA s.n s.hs s.hg (.slice C nc x) (.slice D nr y) false Lw.zero (.slice none 0 0) V (.slice A V.ents.length c)).toList rfl); clear hw2)
  have HB2 := hid_ (HB1.out.fr P2.out.2 id)
  have F2 := hid_ (F1.out.then_none P2.out.2)
  have p5 : w2.cell? ⟨w1.heap.size, 5, none⟩ = some (.bool false) := P2.out.1.cell' rfl
  clear P2 HB1 F1
  go_wp2_with fail
  refine (mend_ok false (errV 9) (.inr ⟨_, _, rfl⟩) HB2.out).mono ?_
  rintro e w3 ⟨rfl, h3, f3⟩
  have X := hid_ (And.intro h3 f3)
  clear h3 f3
  go_wp2_with fail
  go_ret
  exact ⟨rfl, X.out.1, (F2.out.mono (fun _ _ e => e.elim)).then_only X.out.2 (.inl rfl)⟩
set_option maxHeartbeats 4000000 in
/-- A helper that ends behind n + 1 accesses runs to its end. -/
theorem runs_by {m h : Nat} (n : Nat) (hn : n ≤ 100) (I : Nat → World → Prop) (Q : World → Prop) {w : World} {A cap : Nat} (hI : I n w) (hc : w.cell? ⟨A, 0, none⟩ = some (.pointer (some ⟨h, 0, none⟩)))
    (hstep : ∀ (i : Nat) (w : World), I i w → Calls Tryz.prog 18 #[.pointer (some ⟨h, 0, none⟩), .pointer (some ⟨m, 0, none⟩)] w fun e w' => (i = 0 ∧ e = .returned (.bool true) ∧ Q w') ∨ (∃ j, i = j + 1 ∧ e = .returned (.bool false) ∧ I j w')) :
    Calls Tryz.prog 27 #[.slice (some ⟨A, 0, none⟩) 1 cap, .pointer (some ⟨m, 0, none⟩)] w fun e w' => e = .returned (.bool true) ∧ Q w' := by
  have HI := hid_ hI
  have HS := hid_ hstep
  clear hI hstep
  go_enter Tryz.func27, Tryz.ntmps27
  go_wp2_with fail
  go_loopw [10] (fun v wr => (v = .int .i64 0 ∧ wr = w) ∨ (v = .int .i64 1 ∧ Q wr)) (fun v _ => 1 - (intOf v).toNat)
  case atStart => exact .inl ⟨rfl, rfl⟩
  case round =>
    rcases hrel with ⟨rfl, rfl⟩ | ⟨rfl, hq⟩
    · obtain ⟨wo, rfl⟩ : ∃ wo : World, wo = wr := ⟨_, rfl⟩
      go_wp2_with fail
      go_loopw [7] (fun v wr => ∃ (k i : Nat), k + i = n ∧ v = .int .i64 k ∧ I i wr) (fun v _ => 100 - (intOf v).toNat)
      case atStart => exact ⟨0, n, by omega, rfl, HI.out⟩
      case round =>
        obtain ⟨k, i, hk, rfl, hi⟩ := hrel
        have hst := hid_ (HS.out i _ hi)
        have hn0 : (0 : Int) ≤ (k : Int) := Int.natCast_nonneg _
        clear hi
        go_wp2_with fail
        refine hst.out.mono ?_
        rintro e w2 (⟨rfl, rfl, hq⟩ | ⟨j, rfl, rfl, hi⟩)
        · have HQ := hid_ hq
          clear hst hq
          go_wp2_with fail
          go_roundw
          case rel => exact .inr ⟨by go_num, HQ.out⟩
          case measure => simp [intOf]
        · have HI2 := hid_ hi
          clear hst hi
          have hn2 : ¬ ((k : Int) > 200) := by omega
          go_wp2_with fail
          go_roundw
          case rel => exact ⟨k + 1, j, by omega, by go_num, HI2.out⟩
          case measure => simp [intOf]; omega
    · have HQ := hid_ hq
      clear hq
      go_wp2_with fail
      go_ret
      exact ⟨rfl, HQ.out⟩
end Go.Proofs.YthpkbppaaagaoaaGreat

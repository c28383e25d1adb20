/- The memory of all threads: how it lies, and New. Written by gen_mem9.py. -/
import Derived.Test.YthcpccddcgbanaaArFirst
import Derived.Test.YthcpccddcgbanaaMap3
import Derived.Test.YthcpccddcgbanaaClkN
import Derived.Test.YthcpccddcgbanaaHeldU
import Derived.Deep.Cut
namespace Go.Proofs.Ythcpccddcgbanaa
open Go.RowKit
set_option maxRecDepth 100000
set_option linter.unusedVariables false

section
variable {P : Program} {md : Region.Mode} {ops : Array Oper} {Q : Exit → Act → World → Prop} {S : World → Prop}
/-- The one operation that is ready, guarded or not. -/
theorem wpAnyU_oneW {m i : Nat} {oi : Oper} {fuel : Nat} {listed : Array Bool} {a : Act} {w : World} (hi : ops[i]? = some oi) (hw : Region.wanted oi (yielded ops a.tmps) = true) (hr : Region.ready md ops listed = [i])
    (h : Oper.wp P oi a w (fun a' w' => (m ≤ i ∨ S w') ∧ wpAnyU P md ops Q S m fuel (listed.setIfInBounds i true) a' w') Q) : wpAnyU P md ops Q S m (fuel + 1) listed a w := by
  refine wpAnyU_all hr (by simp) (fun j hj => ?_)
  obtain rfl : j = i := by simpa using hj
  unfold wpOp
  simp only [hi, hw, if_true]
  exact .inl h
end
structure Lm where
  s : Nat
  p : Nat
  t : Int
  r : Int
  c : Int
  n : Int
abbrev lmA (l : Lm) : Array Value := #[.int .i64 (l.s : Int), .int .i64 (l.p : Int), .int .i64 l.t, .int .i64 l.r, .int .i64 l.c, .int .i64 l.n]
structure Lm.Right (l : Lm) : Prop where
  s : 4 ≤ (l.s : Int) ∧ (l.s : Int) ≤ 4096
  p : 3 ≤ (l.p : Int) ∧ (l.p : Int) ≤ 256
  t : 1 ≤ l.t ∧ l.t ≤ 64
  r : 2 ≤ l.r ∧ l.r ≤ 64
  c : 2 ≤ l.c ∧ l.c ≤ 64
  n : 8 ≤ l.n ∧ l.n ≤ 1099511627776
/-- What a memory's parts hold, and where they lie. -/
structure St where
  a : Nat
  G : Nat
  ss : List Sl
  T : Nat
  H : Nat
  ps : List Pg
  C : Nat
  M : Nat
  now : Int
  n : Nat
  D : Ins
abbrev mmA (k : Int) (l : Lm) (x : St) : Array Value := #[.int .i64 k, .int .i64 (l.s : Int), .int .i64 (l.p : Int), .int .i64 l.t, .int .i64 l.r, .int .i64 l.c, .int .i64 l.n, .pointer (some ⟨x.a, 0, none⟩), .pointer (some ⟨x.T, 0, none⟩), .pointer (some ⟨x.C, 0, none⟩)]
structure Mm (w : World) (m : Nat) (k : Int) (l : Lm) (x : St) : Prop where
  b : Blk w m 85 (mmA k l x)
  ar : Ar w x.a x.G l.n x.ss
  tb : Tbl w x.T x.H x.ps
  ck : Clk w x.C x.M x.now l.n l.t x.n x.D
theorem Tbl.keep {w w' : World} {T G : Nat} {ps : List Pg} (h : Tbl w T G ps) (hf : Fr none_ w w') : Tbl w' T G ps := h.fr hf id id
theorem Clk.keep {w w' : World} {C M n : Nat} {now last threads : Int} {D : Ins} (h : Clk w C M now last threads n D) (hf : Fr none_ w w') : Clk w' C M now last threads n D := h.fr hf id id
theorem Mm.keep {w w' : World} {m : Nat} {k : Int} {l : Lm} {x : St} (h : Mm w m k l x) (hf : Fr none_ w w') : Mm w' m k l x := ⟨h.b.fr hf id, h.ar.keep hf, h.tb.keep hf, h.ck.keep hf⟩
section
variable {w w' : World} {m : Nat} {k : Int} {l : Lm} {x : St}
theorem Ar.gne {a G : Nat} {last : Int} {ss : List Sl} (h : Ar w a G last ss) {g : Nat} {t : TypeId} {cs : Array Value} (hb : Blk w g t cs) (ht : 113 ≠ t) : g ≠ G := by
  obtain ⟨cs', hG, _⟩ := h.hG
  exact (Blk.ne_ hG hb ht).symm
theorem Clk.mne {C M n : Nat} {now last threads : Int} {D : Ins} (h : Clk w C M now last threads n D) {g : Nat} {t : TypeId} {cs : Array Value} (hb : Blk w g t cs) : M ≠ g := by
  rintro rfl
  obtain ⟨es, clock, hm, r⟩ := h.hM
  unfold Blk at hb
  rw [hb] at hm
  cases hm
/-- The arena alone was turned. -/
theorem Mm.arPut (h : Mm w m k l x) {ss' : List Sl} (hA : Ar w' x.a x.G l.n ss') (hf : Fr (only x.G) w w') : Mm w' m k l { x with ss := ss' } := by
  obtain ⟨cs, hG, _⟩ := h.ar.hG
  obtain ⟨cap, cur, hT, hH, _⟩ := id h.tb
  exact ⟨h.b.fr hf (only_ne (h.ar.gne h.b (by decide))), hA, h.tb.fr hf (only_ne (h.ar.gne hT (by decide))) (only_ne (h.ar.gne hH (by decide))), h.ck.fr hf (only_ne (h.ar.gne h.ck.hC (by decide))) (only_ne (h.ck.mne hG))⟩
/-- The table alone was turned. -/
theorem Mm.tbPut (h : Mm w m k l x) {ps' : List Pg} (hT : Tbl w' x.T x.H ps') (hf : Fr (only x.H) w w') : Mm w' m k l { x with ps := ps' } := by
  obtain ⟨cs, hG, _⟩ := h.ar.hG
  obtain ⟨cap, cur, hT0, hH, _⟩ := id h.tb
  exact ⟨h.b.fr hf (only_ne (Blk.ne_ h.b hH (by decide))), h.ar.beside hf hH (by decide) (by decide) (Blk.ne_ h.ar.hA hH (by decide)) (Blk.ne_ hG hH (by decide)), hT, h.ck.fr hf (only_ne (Blk.ne_ h.ck.hC hH (by decide))) (only_ne (h.ck.mne hH))⟩
/-- One more access. -/
theorem Mm.count (h : Mm w m k l x) (k' : Int) : Mm (w.setCell ⟨m, 0, none⟩ (.int .i64 k')) m k' l x := by
  obtain ⟨cs, hG, _⟩ := h.ar.hG
  obtain ⟨cap, cur, hT0, hH, _⟩ := id h.tb
  have hf := Fr.only1 w ⟨m, 0, none⟩ (.int .i64 k')
  exact ⟨h.b.set_ 0 _, h.ar.beside hf h.b (by decide) (by decide) (Blk.ne_ h.ar.hA h.b (by decide)) (Blk.ne_ hG h.b (by decide)), h.tb.fr hf (only_ne (Blk.ne_ hT0 h.b (by decide))) (only_ne (Blk.ne_ hH h.b (by decide))), h.ck.fr hf (only_ne (Blk.ne_ h.ck.hC h.b (by decide))) (only_ne (h.ck.mne h.b))⟩
end
theorem rep_set {α : Type} {n : Nat} (h : 0 < n) (z y : α) : (List.replicate n z).set 0 y = y :: List.replicate (n - 1) z := by
  cases n with
  | zero => omega
  | succ n => simp [List.replicate_succ]
theorem rep_get {α : Type} {n : Nat} (h : 0 < n) (z : α) : (List.replicate n z)[0]? = some z := by
  cases n with
  | zero => omega
  | succ n => simp [List.replicate_succ]
abbrev leafR : Rc := ⟨1, nilS, nilS, true, 0, [], [], nilS, nilS, 0, 0, 0, nilS, 0, 0⟩
theorem reads_leaf (w : World) : RecReads w leafR none none := ⟨⟨rfl, fun h => absurd h (Nat.lt_irrefl 0)⟩, ⟨rfl, fun h => absurd h (Nat.lt_irrefl 0)⟩⟩
/-- A memory as it is at first. -/
def NewMem (l : Lm) (w : World) (e : Ending) (w' : World) : Prop :=
  ∃ (m a G : Nat) (vr ve : Value) (T H C M : Nat), e = .returned (.tuple #[.pointer (some ⟨m, 0, none⟩), .nilIface]) ∧ Mm w' m 0 l ⟨a, G, ⟨1, true, leafR, vr, ve⟩ :: List.replicate (l.s - 1) Sl.zero, T, H, (true, 1, 1) :: List.replicate (l.p - 1) (false, 0, 0), C, M, 1, 0, .map []⟩ ∧ Fr none_ w w' ∧ w.heap.size ≤ m ∧ w.heap.size ≤ C ∧ w.heap.size ≤ M ∧ w.heap.size ≤ G ∧ w.heap.size ≤ H
theorem within_yes (n a b : Int) (w : World) (h1 : a ≤ n) (h2 : n ≤ b) : Calls Try.prog 50 #[.int .i64 n, .int .i64 a, .int .i64 b] w fun e w' => e = .returned (.bool true) ∧ w = w' := by
  have d1 : decide (a ≤ n) = true := by simpa using h1
  have d2 : decide (n ≤ b) = true := by simpa using h2
  clear h1 h2
  go_enter Try.func50, Try.ntmps50
  go_wp2
  go_ret
  exact ⟨rfl, rfl⟩
set_option maxHeartbeats 4000000 in
theorem right_yes (l : Lm) (w : World) (hl : l.Right) : Calls Try.prog 29 #[.agg (lmA l)] w fun e w' => e = .returned (.bool true) ∧ Fr none_ w w' := by
  have HL := hid_ hl
  clear hl
  go_enter Try.func29, Try.ntmps29
  go_wp2_with fail
  refine (within_yes _ _ _ _ HL.out.s.1 HL.out.s.2).mono ?_
  rintro e w1 ⟨rfl, rfl⟩
  go_wp2_with fail
  refine (within_yes _ _ _ _ HL.out.p.1 HL.out.p.2).mono ?_
  rintro e w1 ⟨rfl, rfl⟩
  go_wp2_with fail
  refine (within_yes _ _ _ _ HL.out.t.1 HL.out.t.2).mono ?_
  rintro e w1 ⟨rfl, rfl⟩
  go_wp2_with fail
  refine (within_yes _ _ _ _ HL.out.r.1 HL.out.r.2).mono ?_
  rintro e w1 ⟨rfl, rfl⟩
  go_wp2_with fail
  refine (within_yes _ _ _ _ HL.out.c.1 HL.out.c.2).mono ?_
  rintro e w1 ⟨rfl, rfl⟩
  go_wp2_with fail
  refine (within_yes _ _ _ _ HL.out.n.1 HL.out.n.2).mono ?_
  rintro e w1 ⟨rfl, rfl⟩
  go_wp2_with fail
  go_ret
  exact ⟨rfl, (Fr.refl none_ w).alloc _⟩
set_option maxHeartbeats 8000000 in
theorem memNew_ok (l : Lm) (w : World) (hl : l.Right) : Calls Try.prog 9 #[.agg (lmA l)] w (NewMem l w) := by
  have HL := hid_ hl
  clear hl
  have F := hid_ (Fr.refl none_ w)
  go_enter Try.func9, Try.ntmps9
  go_upto_region 1 with fail
  obtain ⟨w0, hw0⟩ : ∃ z, z = w.alloc (.cells (lmA l) 23) := ⟨_, rfl⟩
  have fw0 : Fr none_ w w0 := by rw [hw0]; exact (Fr.refl none_ w).alloc _
  have BL : Hid (Blk w0 w.heap.size 23 (lmA l)) := hid_ (by rw [hw0]; exact Blk.new w _ _)
  replace F := hid_ (F.out.then_none fw0)
  change Code.wp _ _ _ _ (w.alloc (.cells (lmA l) 23))
  rw [← hw0]
  clear hw0 fw0
  have v0 : w0.cell? ⟨w.heap.size, 0, none⟩ = some (.int .i64 (l.s : Int)) := BL.out.cell' rfl
  have v1 : w0.cell? ⟨w.heap.size, 1, none⟩ = some (.int .i64 (l.p : Int)) := BL.out.cell' rfl
  have v2 : w0.cell? ⟨w.heap.size, 2, none⟩ = some (.int .i64 l.t) := BL.out.cell' rfl
  have v3 : w0.cell? ⟨w.heap.size, 3, none⟩ = some (.int .i64 l.r) := BL.out.cell' rfl
  have v4 : w0.cell? ⟨w.heap.size, 4, none⟩ = some (.int .i64 l.c) := BL.out.cell' rfl
  have v5 : w0.cell? ⟨w.heap.size, 5, none⟩ = some (.int .i64 l.n) := BL.out.cell' rfl
  go_wp2_with fail
  refine (right_yes l _ HL.out).mono ?_
  rintro e w1 ⟨rfl, hf1⟩
  replace F := hid_ (F.out.then_none hf1)
  replace BL := hid_ (BL.out.fr hf1 id)
  clear hf1
  clear v0 v1 v2 v3 v4 v5
  have v0 : w1.cell? ⟨w.heap.size, 0, none⟩ = some (.int .i64 (l.s : Int)) := BL.out.cell' rfl
  have v1 : w1.cell? ⟨w.heap.size, 1, none⟩ = some (.int .i64 (l.p : Int)) := BL.out.cell' rfl
  have v2 : w1.cell? ⟨w.heap.size, 2, none⟩ = some (.int .i64 l.t) := BL.out.cell' rfl
  have v3 : w1.cell? ⟨w.heap.size, 3, none⟩ = some (.int .i64 l.r) := BL.out.cell' rfl
  have v4 : w1.cell? ⟨w.heap.size, 4, none⟩ = some (.int .i64 l.c) := BL.out.cell' rfl
  have v5 : w1.cell? ⟨w.heap.size, 5, none⟩ = some (.int .i64 l.n) := BL.out.cell' rfl
  go_upto_region 3 with fail
  have hS0 : (fun w' : World => Fr none_ w1 w') w1.drew := (Fr.refl none_ w1).drew
  refine wp_region_U (m := 14) (S := fun w' : World => Fr none_ w1 w') (by kernel_rfl) ?_
  refine wpAnyU_take2 (i := 0) (v := _) rfl (by kernel_rfl) (by kernel_rfl) (by kernel_rfl) (by kernel_rfl) (fun _ _ _ h => h) (.inl ⟨by kernel_rfl, fun w' hS => by have s_0 := cellFr v0 hS; have s_1 := cellFr v1 hS; have s_2 := cellFr v2 hS; have s_3 := cellFr v3 hS; have s_4 := cellFr v4 hS; have s_5 := cellFr v5 hS; go_simp; rfl⟩) hS0 ?_
  refine wpAnyU_take2 (i := 1) (v := _) rfl (by kernel_rfl) (by kernel_rfl) (by kernel_rfl) (by kernel_rfl) (fun _ _ _ h => h) (.inl ⟨by kernel_rfl, fun w' hS => by go_simp; rfl⟩) hS0 ?_
  refine wpAnyU_take2 (i := 2) (v := _) rfl (by kernel_rfl) (by kernel_rfl) (by kernel_rfl) (by kernel_rfl) (fun _ _ _ h => h) (.inl ⟨by kernel_rfl, fun w' hS => by have s_0 := cellFr v0 hS; have s_1 := cellFr v1 hS; have s_2 := cellFr v2 hS; have s_3 := cellFr v3 hS; have s_4 := cellFr v4 hS; have s_5 := cellFr v5 hS; go_simp; rfl⟩) hS0 ?_
  refine wpAnyU_take2 (i := 3) (v := _) rfl (by kernel_rfl) (by kernel_rfl) (by kernel_rfl) (by kernel_rfl) (fun _ _ _ h => h) (.inl ⟨by kernel_rfl, fun w' hS => by go_simp; rfl⟩) hS0 ?_
  refine wpAnyU_take2 (i := 4) (v := _) rfl (by kernel_rfl) (by kernel_rfl) (by kernel_rfl) (by kernel_rfl) (fun _ _ _ h => h) (.inl ⟨by kernel_rfl, fun w' hS => by have s_0 := cellFr v0 hS; have s_1 := cellFr v1 hS; have s_2 := cellFr v2 hS; have s_3 := cellFr v3 hS; have s_4 := cellFr v4 hS; have s_5 := cellFr v5 hS; go_simp; rfl⟩) hS0 ?_
  refine wpAnyU_take2 (i := 6) (v := _) rfl (by kernel_rfl) (by kernel_rfl) (by kernel_rfl) (by kernel_rfl) (fun _ _ _ h => h) (.inl ⟨by kernel_rfl, fun w' hS => by go_simp; rfl⟩) hS0 ?_
  refine wpAnyU_take2 (i := 7) (v := _) rfl (by kernel_rfl) (by kernel_rfl) (by kernel_rfl) (by kernel_rfl) (fun _ _ _ h => h) (.inl ⟨by kernel_rfl, fun w' hS => by have s_0 := cellFr v0 hS; have s_1 := cellFr v1 hS; have s_2 := cellFr v2 hS; have s_3 := cellFr v3 hS; have s_4 := cellFr v4 hS; have s_5 := cellFr v5 hS; go_simp; rfl⟩) hS0 ?_
  refine wpAnyU_take2 (i := 9) (v := _) rfl (by kernel_rfl) (by kernel_rfl) (by kernel_rfl) (by kernel_rfl) (fun _ _ _ h => h) (.inl ⟨by kernel_rfl, fun w' hS => by go_simp; rfl⟩) hS0 ?_
  refine wpAnyU_take2 (i := 10) (v := _) rfl (by kernel_rfl) (by kernel_rfl) (by kernel_rfl) (by kernel_rfl) (fun _ _ _ h => h) (.inl ⟨by kernel_rfl, fun w' hS => by have s_0 := cellFr v0 hS; have s_1 := cellFr v1 hS; have s_2 := cellFr v2 hS; have s_3 := cellFr v3 hS; have s_4 := cellFr v4 hS; have s_5 := cellFr v5 hS; go_simp; rfl⟩) hS0 ?_
  refine wpAnyU_take2 (i := 11) (v := _) rfl (by kernel_rfl) (by kernel_rfl) (by kernel_rfl) (by kernel_rfl) (fun _ _ _ h => h) (.inl ⟨by kernel_rfl, fun w' hS => by go_simp; rfl⟩) hS0 ?_
  refine wpAnyU_take2 (i := 12) (v := _) rfl (by kernel_rfl) (by kernel_rfl) (by kernel_rfl) (by kernel_rfl) (fun _ _ _ h => h) (.inl ⟨by kernel_rfl, fun w' hS => by have s_0 := cellFr v0 hS; have s_1 := cellFr v1 hS; have s_2 := cellFr v2 hS; have s_3 := cellFr v3 hS; have s_4 := cellFr v4 hS; have s_5 := cellFr v5 hS; go_simp; rfl⟩) hS0 ?_
  refine wpAnyU_oneW (i := 5) rfl (by kernel_rfl) (by kernel_rfl) ?_
  go_simp
  refine (arNew_ok l.s l.n _ (by have := HL.out.s; omega) (by have := HL.out.s; omega) (by have := HL.out.n; omega) HL.out.n.2).mono ?_
  rintro e w2 ⟨a, G, rfl, hA, hf2, ha, hG⟩
  have HGw := hid_ (show w.heap.size ≤ G by have := F.out.size; simp at hG; omega)
  have HHw := hid_ (show w.heap.size ≤ w2.heap.size by have := F.out.size; have := hf2.size; simp at this; omega)
  have fS := (Fr.refl none_ w1).drew.then_none hf2
  refine ⟨fS, ?_⟩
  have A1 := hid_ hA
  clear hA hf2 hS0
  clear v0 v1 v2 v3 v4 v5
  refine wpAnyU_oneW (i := 8) rfl (by kernel_rfl) (by kernel_rfl) ?_
  go_simp
  refine (mapNew_ok l.p _ (by have := HL.out.p; omega) (by have := HL.out.p; omega)).mono ?_
  rintro e w3 ⟨rfl, hT, hf3, -⟩
  have fS := fS.then_none hf3
  refine ⟨fS, ?_⟩
  replace A1 := hid_ (A1.out.keep hf3)
  have T1 := hid_ hT
  clear hT hf3
  refine wpAnyU_oneW (i := 13) rfl (by kernel_rfl) (by kernel_rfl) ?_
  go_simp
  refine (clkNew_ok l.t l.n _ HL.out.t.1 HL.out.t.2 (by have := HL.out.n; omega) HL.out.n.2).mono ?_
  rintro e w4 ⟨C, M, rfl, hC, hf4, hc1, hc2⟩
  have HCw := hid_ (show w.heap.size ≤ C ∧ w.heap.size ≤ M by have := F.out.size; have := fS.size; omega)
  have fS := fS.then_none hf4
  refine ⟨fS, ?_⟩
  replace A1 := hid_ (A1.out.keep hf4)
  replace T1 := hid_ (T1.out.keep hf4)
  have C1 := hid_ hC
  clear hC hf4
  refine wpAnyU_oneW (i := 14) rfl (by kernel_rfl) (by kernel_rfl) ?_
  go_simp
  refine wpAnyU_oneW (i := 15) rfl (by kernel_rfl) (by kernel_rfl) ?_
  go_simp
  refine wpAnyU_oneW (i := 16) rfl (by kernel_rfl) (by kernel_rfl) ?_
  go_simp
  refine wpAnyU_done (by kernel_rfl) ?_ _
  replace F := hid_ (F.out.then_none fS)
  clear fS
  go_upto_region 4 with fail
  have HMw := hid_ F.out.size
  obtain ⟨w5, hw5⟩ : ∃ z, z = w4.alloc (.cells #[.int .i64 0, .int .i64 (l.s : Int), .int .i64 (l.p : Int), .int .i64 l.t, .int .i64 l.r, .int .i64 l.c, .int .i64 l.n, .pointer (some ⟨a, 0, none⟩), .pointer (some ⟨w2.heap.size + 1, 0, none⟩), .pointer (some ⟨C, 0, none⟩)] 85) := ⟨_, rfl⟩
  have fw5 : Fr none_ w4 w5 := by rw [hw5]; exact (Fr.refl none_ w4).alloc _
  have BM : Hid (Blk w5 w4.heap.size 85 (#[.int .i64 0, .int .i64 (l.s : Int), .int .i64 (l.p : Int), .int .i64 l.t, .int .i64 l.r, .int .i64 l.c, .int .i64 l.n, .pointer (some ⟨a, 0, none⟩), .pointer (some ⟨w2.heap.size + 1, 0, none⟩), .pointer (some ⟨C, 0, none⟩)])) := hid_ (by rw [hw5]; exact Blk.new w4 _ _)
  replace F := hid_ (F.out.then_none fw5)
  replace A1 := hid_ (A1.out.keep fw5)
  replace T1 := hid_ (T1.out.keep fw5)
  replace C1 := hid_ (C1.out.keep fw5)
  change Code.wp _ _ _ _ (w4.alloc (.cells #[.int .i64 0, .int .i64 (l.s : Int), .int .i64 (l.p : Int), .int .i64 l.t, .int .i64 l.r, .int .i64 l.c, .int .i64 l.n, .pointer (some ⟨a, 0, none⟩), .pointer (some ⟨w2.heap.size + 1, 0, none⟩), .pointer (some ⟨C, 0, none⟩)] 85))
  rw [← hw5]
  clear hw5 fw5
  have M5 : Hid (Mm w5 w4.heap.size 0 l ⟨a, G, List.replicate l.s Sl.zero, w2.heap.size + 1, w2.heap.size, List.replicate l.p (false, 0, 0), C, M, 1, 0, .map []⟩) := hid_ ⟨BM.out, A1.out, T1.out, C1.out⟩
  have hw1 := F.out.size
  have m7 : w5.cell? ⟨w4.heap.size, 7, none⟩ = some (.pointer (some ⟨a, 0, none⟩)) := BM.out.cell' rfl
  go_wp2_with fail
  refine (alloc_ok leafR none 0 none 0 _ a G l.n _ M5.out.ar (reads_leaf _) ⟨by decide, by decide⟩).mono ?_
  rintro e w6 h6
  obtain ⟨vr, ve, rfl, hA6, -, hf6⟩ := h6.first (i := 0) (s := Sl.zero) (rep_get (by have := HL.out.s; omega) _) rfl (by show (0 : Int) ≠ l.n; have := HL.out.n; omega) (fun j t hj => by omega)
  rw [rep_set (by have := HL.out.s; omega)] at hA6
  have M6 : Hid (Mm w6 w4.heap.size 0 l ⟨a, G, ⟨1, true, leafR, vr, ve⟩ :: List.replicate (l.s - 1) Sl.zero, w2.heap.size + 1, w2.heap.size, List.replicate l.p (false, 0, 0), C, M, 1, 0, .map []⟩) := hid_ (M5.out.arPut hA6 hf6)
  have F6 := hid_ (F.out.then_only hf6 (.inr HGw.out))
  clear h6 hA6 hf6 m7 M5 BM A1 T1 C1 F
  go_upto_region 5 with fail
  obtain ⟨w7, hw7⟩ : ∃ z, z = w6.alloc (.cells #[.int .i64 1, .int .i64 1] 34) := ⟨_, rfl⟩
  have fw7 : Fr none_ w6 w7 := by rw [hw7]; exact (Fr.refl none_ w6).alloc _
  have BX : Hid (Blk w7 w6.heap.size 34 (#[.int .i64 1, .int .i64 1])) := hid_ (by rw [hw7]; exact Blk.new w6 _ _)
  replace F6 := hid_ (F6.out.then_none fw7)
  replace M6 := hid_ (M6.out.keep fw7)
  change Code.wp _ _ _ _ (w6.alloc (.cells #[.int .i64 1, .int .i64 1] 34))
  rw [← hw7]
  clear hw7 fw7
  have m8 : w7.cell? ⟨w4.heap.size, 8, none⟩ = some (.pointer (some ⟨w2.heap.size + 1, 0, none⟩)) := M6.out.b.cell' rfl
  go_wp2_with fail
  refine (mtake_ok _ _ _ 0 0 0 _ M6.out.tb (rep_get (by have := HL.out.p; omega) _) (fun j p hj => by omega)).mono ?_
  rintro e w8 ⟨rfl, h8⟩
  have hT8 : Tbl w8 (w2.heap.size + 1) w2.heap.size ((List.replicate l.p (false, 0, 0)).set 0 (true, 0, 0)) := by rw [h8]; exact M6.out.tb.set_ (by simp; have := HL.out.p; omega) _
  have hf8 : Fr (only w2.heap.size) w7 w8 := by rw [h8]; exact setPg_only _ _ _ _
  rw [rep_set (by have := HL.out.p; omega)] at hT8
  replace BX := hid_ (BX.out.fr hf8 (only_ne (by obtain ⟨cap, cur, hT0, hH, _⟩ := id M6.out.tb; exact Blk.ne_ BX.out hH (by decide))))
  replace M6 := hid_ (M6.out.tbPut hT8 hf8)
  replace F6 := hid_ (F6.out.then_only hf8 (.inr HHw.out))
  clear h8 hT8 hf8 m8
  have m8 : w8.cell? ⟨w4.heap.size, 8, none⟩ = some (.pointer (some ⟨w2.heap.size + 1, 0, none⟩)) := M6.out.b.cell' rfl
  have x0 : w8.cell? ⟨w6.heap.size, 0, none⟩ = some (.int .i64 1) := BX.out.cell' rfl
  have x1 : w8.cell? ⟨w6.heap.size, 1, none⟩ = some (.int .i64 1) := BX.out.cell' rfl
  go_upto_region 10 with fail
  have nH : ¬ only w2.heap.size w4.heap.size ∧ ¬ only w2.heap.size w6.heap.size := by
    obtain ⟨cap, cur, hT0, hH, _⟩ := id M6.out.tb
    exact ⟨only_ne (Blk.ne_ M6.out.b hH (by decide)), only_ne (Blk.ne_ BX.out hH (by decide))⟩
  have hS1 : (fun w' : World => Fr (only w2.heap.size) w8 w') w8.drew := (Fr.refl _ w8).drew
  refine wp_region_U (m := 13) (S := fun w' : World => Fr (only w2.heap.size) w8 w') (by kernel_rfl) ?_
  refine wpAnyU_take2 (i := 0) (v := _) rfl (by kernel_rfl) (by kernel_rfl) (by kernel_rfl) (by kernel_rfl) (fun _ _ _ h => h) (.inl ⟨by kernel_rfl, fun w' hS => by go_simp; rfl⟩) hS1 ?_
  refine wpAnyU_take2 (i := 1) (v := _) rfl (by kernel_rfl) (by kernel_rfl) (by kernel_rfl) (by kernel_rfl) (fun _ _ _ h => h) (.inl ⟨by kernel_rfl, fun w' hS => by go_simp; rfl⟩) hS1 ?_
  refine wpAnyU_take2 (i := 2) (v := _) rfl (by kernel_rfl) (by kernel_rfl) (by kernel_rfl) (by kernel_rfl) (fun _ _ _ h => h) (.inl ⟨by kernel_rfl, fun w' hS => by go_simp; rfl⟩) hS1 ?_
  refine wpAnyU_take2 (i := 3) (v := _) rfl (by kernel_rfl) (by kernel_rfl) (by kernel_rfl) (by kernel_rfl) (fun _ _ _ h => h) (.inl ⟨by kernel_rfl, fun w' hS => by have s_8 := cellFrS m8 hS nH.1; go_simp; rfl⟩) hS1 ?_
  refine wpAnyU_take2 (i := 4) (v := _) rfl (by kernel_rfl) (by kernel_rfl) (by kernel_rfl) (by kernel_rfl) (fun _ _ _ h => h) (.inl ⟨by kernel_rfl, fun w' hS => by go_simp; rfl⟩) hS1 ?_
  refine wpAnyU_take2 (i := 5) (v := _) rfl (by kernel_rfl) (by kernel_rfl) (by kernel_rfl) (by kernel_rfl) (fun _ _ _ h => h) (.inl ⟨by kernel_rfl, fun w' hS => by go_simp; rfl⟩) hS1 ?_
  refine wpAnyU_take2 (i := 6) (v := _) rfl (by kernel_rfl) (by kernel_rfl) (by kernel_rfl) (by kernel_rfl) (fun _ _ _ h => h) (.inl ⟨by kernel_rfl, fun w' hS => by have s_0 := cellFrS x0 hS nH.2; have s_1 := cellFrS x1 hS nH.2; go_simp; rfl⟩) hS1 ?_
  clear m8 x0 x1
  refine wpAnyU_oneW (i := 7) rfl (by kernel_rfl) (by kernel_rfl) ?_
  go_simp
  refine (swap_ok _ _ _ 0 0 0 0 0 1 1 _ (M6.out.tb.keep (Fr.refl none_ _).drew) rfl).mono ?_
  rintro e w9 ⟨rfl, hT9, hf9⟩
  have hT9' : Tbl w9 (w2.heap.size + 1) w2.heap.size ((true, 1, 1) :: List.replicate (l.p - 1) (false, 0, 0)) := by simpa using hT9
  have M9 := hid_ ((M6.out.keep (Fr.refl none_ w8).drew).tbPut hT9' hf9)
  have fS9 : (fun w' : World => Fr (only w2.heap.size) w8 w') w9 := (Fr.refl (only w2.heap.size) w8).drew.then_only hf9 (.inl (Eq.refl _))
  have F9 := hid_ (F6.out.drew.then_only hf9 (.inr HHw.out))
  clear hT9 hT9' hf9 hS1
  simp only [beq_self_eq_true, Bool.and_self]
  refine ⟨fS9, ?_⟩
  refine wpAnyU_take2 (i := 8) (v := _) rfl (by kernel_rfl) (by kernel_rfl) (by kernel_rfl) (by kernel_rfl) (fun _ _ _ h => h) (.inl ⟨by kernel_rfl, fun w' hS => by go_simp; rfl⟩) fS9 ?_
  refine wpAnyU_take2 (i := 9) (v := _) rfl (by kernel_rfl) (by kernel_rfl) (by kernel_rfl) (by kernel_rfl) (fun _ _ _ h => h) (.inl ⟨by kernel_rfl, fun w' hS => by go_simp; rfl⟩) fS9 ?_
  refine wpAnyU_take2 (i := 10) (v := _) rfl (by kernel_rfl) (by kernel_rfl) (by kernel_rfl) (by kernel_rfl) (fun _ _ _ h => h) (.inl ⟨by kernel_rfl, fun w' hS => by go_simp; rfl⟩) fS9 ?_
  refine wpAnyU_take2 (i := 11) (v := _) rfl (by kernel_rfl) (by kernel_rfl) (by kernel_rfl) (by kernel_rfl) (fun _ _ _ h => h) (.inl ⟨by kernel_rfl, fun w' hS => by go_simp; rfl⟩) fS9 ?_
  refine wpAnyU_take2 (i := 12) (v := _) rfl (by kernel_rfl) (by kernel_rfl) (by kernel_rfl) (by kernel_rfl) (fun _ _ _ h => h) (.inl ⟨by kernel_rfl, fun w' hS => by go_simp; rfl⟩) fS9 ?_
  refine wpAnyU_done (by kernel_rfl) ?_ _
  go_wp2_with fail
  go_ret2
  exact ⟨_, _, _, _, _, _, _, _, _, rfl, M9.out, F9.out, HMw.out, HCw.out.1, HCw.out.2, HGw.out, HHw.out⟩
end Go.Proofs.Ythcpccddcgbanaa

/- Texts of one proof, merged: ArFirst, Map2, ClkN, Mem9, Chain9, ErrOf, Acc9, Mc9, Ldr10, LdrA10, Uv, LdrB10, LdrC10, LdrD10, Aw10, Cwb11, As, Code. -/
import Derived.LaidEql
import Derived.Stop.Asserts
import Derived.RowKitTokens
import Derived.Maps.OwnOps
import Derived.Maps.OwnSet
import Derived.Maps.RangeWalk
import Derived.IntWalk
import Derived.Deep.Cut
import Derived.Deep.DeepCutAuto
import Derived.BigRegion
import Derived.Test.YtfihfjbakfadkaaGreatDoorMnA
import Derived.Test.YtfihfjbakfadkaaGreatDoorMnD
import Derived.Test.YtfihfjbakfadkaaGreatDoorMnF
import Derived.Test.YtfihfjbakfadkaaGreatDoorMnJ
import Derived.Test.YtfihfjbakfadkaaGreatDoorMnK
import Derived.Test.YtfihfjbakfadkaaGreatDoorMnM
import Derived.Test.YtfihfjbakfadkaaGreatDoorMnR
import Derived.Test.YtfihfjbakfadkaaGreatDoorMnS
namespace Go.Proofs.YtfihfjbakfadkaaGreatDoor
open Go.RowKit
set_option maxRecDepth 100000
set_option linter.unusedVariables false

theorem AllocPost.first {w w' : World} {a G : Nat} {last : Int} {ss : List Sl} {R : Rc} {e : Ending} (h : AllocPost w a G last ss R e w') {i : Nat} {s : Sl} (hs : ss[i]? = some s) (hu : s.used = false) (hg : s.gen ≠ last) (hno : ∀ j t, j < i → ss[j]? = some t → t.used = true ∨ t.gen = last) :
    ∃ vr ve, e = .returned (.tuple #[.agg #[.int .i64 ((i : Int) + 1), .int .i64 (s.gen + 1)], .nilIface]) ∧ Ar w' a G last (ss.set i ⟨s.gen + 1, true, R, vr, ve⟩) ∧ RecOwn w' w.heap.size R vr ve ∧ Fr (only G) w w' := by
  rcases h with ⟨k, t, vr, ve, ht, ⟨h1, h2⟩, h3, he, hA, hO, hF⟩ | ⟨h1, _⟩
  · obtain rfl : k = i := by
      rcases Nat.lt_trichotomy k i with hl | hl | hl
      · rcases hno k t hl ht with h | h
        · rw [h1] at h; cases h
        · exact absurd h h2
      · exact hl
      · rcases h3 i s hl hs with h | h
        · rw [hu] at h; cases h
        · exact absurd h hg
    obtain rfl := Option.some.inj (hs.symm.trans ht)
    exact ⟨vr, ve, he, hA, hO, hF⟩
  · rcases h1 i s hs with h | h
    · rw [hu] at h; cases h
    · exact absurd h hg
theorem AllocPost.none {w w' : World} {a G : Nat} {last : Int} {ss : List Sl} {R : Rc} {e : Ending} (h : AllocPost w a G last ss R e w') (hno : ∀ (j : Nat) t, ss[j]? = some t → t.used = true ∨ t.gen = last) :
    e = .returned (.tuple #[.agg #[.int .i64 0, .int .i64 0], errV (allocErr ss)]) ∧ Fr none_ w w' := by
  rcases h with ⟨k, t, vr, ve, ht, ⟨h1, h2⟩, _⟩ | ⟨_, h2⟩
  · rcases hno k t ht with h | h
    · rw [h1] at h; cases h
    · exact absurd h h2
  · exact h2
end Go.Proofs.YtfihfjbakfadkaaGreatDoor
namespace Go.Proofs.YtfihfjbakfadkaaGreatDoor
open Go.RowKit

theorem page_info : (Tryz.prog.info? 190).map (fun i => (i.zero, i.size, i.bytes)) = some (some (.agg #[.bool false, .int .i64 0, .int .i64 0]), 3, 24) := by kernel_rfl

theorem run_make_rowN {P : Program} (t e : TypeId) (i : TypeInfo) (z : Value) (ht : P.underlying t = some (.slice e)) (hi : P.info? e = some i) (hz : i.zero = some z)
    (kl kc : IntKind) (n c : Nat) (hnc : n ≤ c) (hbytes : i.bytes * c ≤ 281474976710656) (h63 : c ≤ 9223372036854775807) (w : World) :
    (Instr.makeSlice t (.int kl (n : Int)) (.int kc (c : Int))).run P w = .ok (.slice (some ⟨w.heap.size, 0, none⟩) n c) (w.alloc (.cells (madeCells z.cells (c * i.size)) e)) := by
  have hb : (i.bytes : Int) * (c : Int) ≤ 281474976710656 := by
    have h : ((i.bytes * c : Nat) : Int) ≤ 281474976710656 := by omega
    rwa [Int.natCast_mul] at h
  have hr := run_make (P := P) w t e i z ht hi hz kl kc n c (by omega) (by omega) hb (by omega)
  simp only [Int.toNat_natCast] at hr
  exact hr

theorem madeCells3 (a b c : Value) (n i : Nat) (hi : i < n) : (madeCells #[a, b, c] (n * 3))[i * 3]? = some a ∧ (madeCells #[a, b, c] (n * 3))[i * 3 + 1]? = some b ∧ (madeCells #[a, b, c] (n * 3))[i * 3 + 1 + 1]? = some c := by
  have h0 : i * 3 < n * 3 := by omega
  have h1 : i * 3 + 1 < n * 3 := by omega
  have h2 : i * 3 + 1 + 1 < n * 3 := by omega
  refine ⟨?_, ?_, ?_⟩
  · simp [madeCells, h0]
  · have : (i * 3 + 1) % 3 = 1 := by omega
    simp [madeCells, h1, this]
  · have : (i * 3 + 1 + 1) % 3 = 2 := by omega
    simp [madeCells, h2, this]

def NewPost (n : Nat) (w : World) (e : Ending) (w' : World) : Prop :=
  e = .returned (.pointer (some ⟨w.heap.size + 1, 0, none⟩)) ∧ Tbl w' (w.heap.size + 1) w.heap.size (List.replicate n (false, 0, 0)) ∧ Fr none_ w w' ∧ w'.heap.size = w.heap.size + 2

theorem mapNew_ok (n : Nat) (w : World) (h1 : 1 ≤ n) (h2 : n ≤ 256) : Calls Tryz.prog 46 #[.int .i64 n] w (NewPost n w) := by
  have hfin : NewPost n w (.returned (.pointer (some ⟨w.heap.size + 1, 0, none⟩))) ((w.alloc (.cells (madeCells #[.bool false, .int .i64 0, .int .i64 0] (n * 3)) 190)).alloc (.cells #[.slice (some ⟨w.heap.size, 0, none⟩) n n] 182)) := by
    refine ⟨rfl, ⟨n, madeCells #[.bool false, .int .i64 0, .int .i64 0] (n * 3), ?_, ?_, by simpa using h2, by simp, by unfold maxLen; omega, by simp [size_madeCells], ?_⟩, ((Fr.refl _ _).alloc _).alloc _, by simp⟩
    · have := Blk.new (w.alloc (.cells (madeCells #[.bool false, .int .i64 0, .int .i64 0] (n * 3)) 190)) 182 #[.slice (some ⟨w.heap.size, 0, none⟩) n n]
      simpa using this
    · exact (Blk.new w _ _).alloc _
    · intro i p hi
      obtain ⟨hlt, rfl⟩ : i < n ∧ p = (false, 0, 0) := by
        rw [List.getElem?_replicate] at hi
        split at hi
        · exact ⟨by assumption, by simpa using hi.symm⟩
        · cases hi
      exact madeCells3 _ _ _ n i hlt
  obtain ⟨i0, hi0, hz0, hs0, hb0⟩ := info_parts page_info
  have hmk := fun W => run_make_rowN (P := Tryz.prog) 180 190 i0 _ Tryz.underlying180 hi0 hz0 .i64 .i64 n n (Nat.le_refl _) (by rw [hb0]; omega) (by omega) W
  rw [hs0] at hmk
  simp only [Value.cells] at hmk
  have H := hid_ hfin
  clear hfin hi0 hz0 hs0 hb0
  go_enter Tryz.func46, Tryz.ntmps46
  go_wp2
  go_ret
  exact H.out

theorem mtake_ok (T G : Nat) (ps : List Pg) (n : Nat) (s g : Int) (w : World) (h : Tbl w T G ps) (hn : ps[n]? = some (false, s, g)) (hu : ∀ (j : Nat) (p : Pg), j < n → ps[j]? = some p → p.1 = true) :
    Calls Tryz.prog 49 #[.pointer (some ⟨T, 0, none⟩)] w fun e w' => e = .returned (.tuple #[.int .i64 n, .nilIface]) ∧ w' = setPg w G n (true, 0, 0) := by
  obtain ⟨cap, cur, hT, hG, h1, h2, h3, h4, h5⟩ := h
  have hnl : n < ps.length := (List.getElem?_eq_some_iff.1 hn).1
  have c0 : w.cell? ⟨T, 0, none⟩ = some (.slice (some ⟨G, 0, none⟩) ps.length cap) := hT.cell' (i := 0) rfl
  have hc : ∀ k, k < n → w.cell? ⟨G, k * 3, none⟩ = some (.bool true) := fun k hk => by
    have hi : ps[k]? = some ps[k] := List.getElem?_eq_getElem (by omega)
    have := hG.cell' (h5 k _ hi).1
    rwa [hu k _ hk hi] at this
  obtain ⟨d0, d1, d2⟩ := h5 n _ hn
  have e0 := hG.cell' d0
  have e1 := hG.cell' d1
  have e2 := hG.cell' d2
  have f := hG.frozen
  have f0 := f (n * 3)
  have f1 := f (n * 3 + 1)
  have f2 := f (n * 3 + 1 + 1)
  have Hc := hid_ hc
  clear hT hG h5 hu hc hn f d0 d1 d2
  go_enter Tryz.func49, Tryz.ntmps49
  go_wp2
  go_loop [13] (fun i => ∃ k : Nat, k ≤ n ∧ i = .int .i64 k) (fun i => ps.length - (intOf i).toNat)
  case atStart => exact ⟨0, Nat.zero_le _, rfl⟩
  case round =>
    obtain ⟨k, hk, rfl⟩ := hrel
    by_cases hlt : k < n
    · have hcx := Hc.out k hlt
      go_wp2
      go_round
      case rel => exact ⟨k + 1, by omega, by go_num⟩
      case measure => simp [intOf]; omega
    · obtain rfl : k = n := by omega
      go_wp2
      go_ret2
      exact ⟨rfl, rfl⟩
end Go.Proofs.YtfihfjbakfadkaaGreatDoor
namespace Go.Proofs.YtfihfjbakfadkaaGreatDoor
open Go.RowKit
open Go.Maps (Keyed int_keyed keyOf_int_mk)
set_option maxRecDepth 100000
set_option linter.unusedVariables false

/-- What is kept of where threads are inside. -/
abbrev Ins := DataW Unit
structure Clk (w : World) (C M : Nat) (now last threads : Int) (n : Nat) (D : Ins) : Prop where
  hC : Blk w C 185 #[.int .i64 now, .int .i64 last, .int .i64 threads, .map (some M)]
  hM : w.ownsMap Tryz.prog 3 (plainElem (H := Unit) Tryz.prog 3) M n D

theorem map_fr {w w' : World} {S : Nat → Prop} {M n : Nat} {D : Ins} (h : w.ownsMap Tryz.prog 3 (plainElem (H := Unit) Tryz.prog 3) M n D) (hf : Fr S w w') (hS : ¬ S M) : w'.ownsMap Tryz.prog 3 (plainElem (H := Unit) Tryz.prog 3) M n D := by
  have hl := h.lt
  obtain ⟨es, clock, hb, r⟩ := h
  exact ⟨es, clock, (hf.block M hl hS).trans hb, r⟩
theorem Clk.fr {w w' : World} {S : Nat → Prop} {C M n : Nat} {now last threads : Int} {D : Ins} (h : Clk w C M now last threads n D) (hf : Fr S w w') (hC : ¬ S C) (hM : ¬ S M) : Clk w' C M now last threads n D :=
  ⟨h.hC.fr hf hC, map_fr h.hM hf hM⟩
theorem Clk.ne {w : World} {C M n : Nat} {now last threads : Int} {D : Ins} (h : Clk w C M now last threads n D) : C ≠ M := by
  rintro rfl
  obtain ⟨es, clock, hb, r⟩ := h.hM
  have := h.hC
  unfold Blk at this
  rw [this] at hb
  cases hb

def NewClk (threads last : Int) (w : World) (e : Ending) (w' : World) : Prop :=
  ∃ C M, e = .returned (.pointer (some ⟨C, 0, none⟩)) ∧ Clk w' C M 1 last threads 0 (.map []) ∧ Fr none_ w w' ∧ w.heap.size ≤ C ∧ w.heap.size ≤ M

set_option maxHeartbeats 1000000 in
theorem clkNew_ok (threads last : Int) (w : World) (h1 : 1 ≤ threads) (h2 : threads ≤ 64) (h3 : 1 ≤ last) (h4 : last ≤ 1099511627776) : Calls Tryz.prog 47 #[.int .i64 threads, .int .i64 last] w (NewClk threads last w) := by
  have hmm := @run_makeMap Tryz.prog
  have d1 : decide (threads < 1) = false := by simp; omega
  have d2 : decide (64 < threads) = false := by simp; omega
  have d3 : decide (last < 1) = false := by simp; omega
  go_enter Tryz.func47, Tryz.ntmps47
  go_wp2_with fail
  go_ret
  refine ⟨w.heap.size + 1, w.heap.size, rfl, ⟨?_, (World.ownsMap_made w _ _ _).alloc _⟩, ((Fr.refl none_ w).alloc _).alloc _, by omega, Nat.le_refl _⟩
  have := Blk.new (w.alloc (.map #[] 0)) 185 #[.int .i64 1, .int .i64 last, .int .i64 threads, .map (some w.heap.size)]
  simpa using this

end Go.Proofs.YtfihfjbakfadkaaGreatDoor
namespace Go.Proofs.YtfihfjbakfadkaaGreatDoor
open Go.RowKit
set_option maxRecDepth 100000
set_option linter.unusedVariables false

section
variable {P : Program} {md : Region.Mode} {ops : Array Oper} {Q : Exit → Act → World → Prop} {S : World → Prop}
/-- The one operation that is ready, guarded or not. -/
theorem wpAnyU_oneW {m i : Nat} {oi : Oper} {fuel : Nat} {listed : Array Bool} {a : Act} {w : World} (hi : ops[i]? = some oi) (hw : Region.wanted oi (yielded ops a.tmps) = true) (hr : Region.ready md ops listed = [i])
    (h : Oper.wp P oi a w (fun a' w' => (m ≤ i ∨ S w') ∧ wpAnyU P md ops Q S m fuel (listed.setIfInBounds i true) a' w') Q) : wpAnyU P md ops Q S m (fuel + 1) listed a w := by
  refine wpAnyU_all hr (by simp) (fun j hj => ?_)
  obtain rfl : j = i := by simpa using hj
  unfold wpOp
  simp only [hi, hw, if_true]
  exact .inl h
end
structure Lm where
  s : Nat
  p : Nat
  t : Int
  r : Int
  c : Int
  n : Int
abbrev lmA (l : Lm) : Array Value := #[.int .i64 (l.s : Int), .int .i64 (l.p : Int), .int .i64 l.t, .int .i64 l.r, .int .i64 l.c, .int .i64 l.n]
structure Lm.Right (l : Lm) : Prop where
  s : 4 ≤ (l.s : Int) ∧ (l.s : Int) ≤ 4096
  p : 3 ≤ (l.p : Int) ∧ (l.p : Int) ≤ 256
  t : 1 ≤ l.t ∧ l.t ≤ 64
  r : 2 ≤ l.r ∧ l.r ≤ 64
  c : 2 ≤ l.c ∧ l.c ≤ 64
  n : 8 ≤ l.n ∧ l.n ≤ 1099511627776
/-- What a memory's parts hold, and where they lie. -/
structure St where
  a : Nat
  G : Nat
  ss : List Sl
  T : Nat
  H : Nat
  ps : List Pg
  C : Nat
  M : Nat
  now : Int
  n : Nat
  D : Ins
abbrev mmA (k : Int) (l : Lm) (x : St) : Array Value := #[.int .i64 k, .int .i64 (l.s : Int), .int .i64 (l.p : Int), .int .i64 l.t, .int .i64 l.r, .int .i64 l.c, .int .i64 l.n, .pointer (some ⟨x.a, 0, none⟩), .pointer (some ⟨x.T, 0, none⟩), .pointer (some ⟨x.C, 0, none⟩)]
structure Mm (w : World) (m : Nat) (k : Int) (l : Lm) (x : St) : Prop where
  b : Blk w m 117 (mmA k l x)
  ar : Ar w x.a x.G l.n x.ss
  tb : Tbl w x.T x.H x.ps
  ck : Clk w x.C x.M x.now l.n l.t x.n x.D
theorem Tbl.keep {w w' : World} {T G : Nat} {ps : List Pg} (h : Tbl w T G ps) (hf : Fr none_ w w') : Tbl w' T G ps := h.fr hf id id
theorem Clk.keep {w w' : World} {C M n : Nat} {now last threads : Int} {D : Ins} (h : Clk w C M now last threads n D) (hf : Fr none_ w w') : Clk w' C M now last threads n D := h.fr hf id id
theorem Mm.keep {w w' : World} {m : Nat} {k : Int} {l : Lm} {x : St} (h : Mm w m k l x) (hf : Fr none_ w w') : Mm w' m k l x := ⟨h.b.fr hf id, h.ar.keep hf, h.tb.keep hf, h.ck.keep hf⟩
section
variable {w w' : World} {m : Nat} {k : Int} {l : Lm} {x : St}
theorem Ar.gne {a G : Nat} {last : Int} {ss : List Sl} (h : Ar w a G last ss) {g : Nat} {t : TypeId} {cs : Array Value} (hb : Blk w g t cs) (ht : 188 ≠ t) : g ≠ G := by
  obtain ⟨cs', hG, _⟩ := h.hG
  exact (Blk.ne_ hG hb ht).symm
theorem Clk.mne {C M n : Nat} {now last threads : Int} {D : Ins} (h : Clk w C M now last threads n D) {g : Nat} {t : TypeId} {cs : Array Value} (hb : Blk w g t cs) : M ≠ g := by
  rintro rfl
  obtain ⟨es, clock, hm, r⟩ := h.hM
  unfold Blk at hb
  rw [hb] at hm
  cases hm
/-- The arena alone was turned. -/
theorem Mm.arPut (h : Mm w m k l x) {ss' : List Sl} (hA : Ar w' x.a x.G l.n ss') (hf : Fr (only x.G) w w') : Mm w' m k l { x with ss := ss' } := by
  obtain ⟨cs, hG, _⟩ := h.ar.hG
  obtain ⟨cap, cur, hT, hH, _⟩ := id h.tb
  exact ⟨h.b.fr hf (only_ne (h.ar.gne h.b (by decide))), hA, h.tb.fr hf (only_ne (h.ar.gne hT (by decide))) (only_ne (h.ar.gne hH (by decide))), h.ck.fr hf (only_ne (h.ar.gne h.ck.hC (by decide))) (only_ne (h.ck.mne hG))⟩
/-- The table alone was turned. -/
theorem Mm.tbPut (h : Mm w m k l x) {ps' : List Pg} (hT : Tbl w' x.T x.H ps') (hf : Fr (only x.H) w w') : Mm w' m k l { x with ps := ps' } := by
  obtain ⟨cs, hG, _⟩ := h.ar.hG
  obtain ⟨cap, cur, hT0, hH, _⟩ := id h.tb
  exact ⟨h.b.fr hf (only_ne (Blk.ne_ h.b hH (by decide))), h.ar.beside hf hH (by decide) (by decide) (Blk.ne_ h.ar.hA hH (by decide)) (Blk.ne_ hG hH (by decide)), hT, h.ck.fr hf (only_ne (Blk.ne_ h.ck.hC hH (by decide))) (only_ne (h.ck.mne hH))⟩
/-- One more access. -/
theorem Mm.count (h : Mm w m k l x) (k' : Int) : Mm (w.setCell ⟨m, 0, none⟩ (.int .i64 k')) m k' l x := by
  obtain ⟨cs, hG, _⟩ := h.ar.hG
  obtain ⟨cap, cur, hT0, hH, _⟩ := id h.tb
  have hf := Fr.only1 w ⟨m, 0, none⟩ (.int .i64 k')
  exact ⟨h.b.set_ 0 _, h.ar.beside hf h.b (by decide) (by decide) (Blk.ne_ h.ar.hA h.b (by decide)) (Blk.ne_ hG h.b (by decide)), h.tb.fr hf (only_ne (Blk.ne_ hT0 h.b (by decide))) (only_ne (Blk.ne_ hH h.b (by decide))), h.ck.fr hf (only_ne (Blk.ne_ h.ck.hC h.b (by decide))) (only_ne (h.ck.mne h.b))⟩
end
theorem rep_set {α : Type} {n : Nat} (h : 0 < n) (z y : α) : (List.replicate n z).set 0 y = y :: List.replicate (n - 1) z := by
  cases n with
  | zero => omega
  | succ n => simp [List.replicate_succ]
theorem rep_get {α : Type} {n : Nat} (h : 0 < n) (z : α) : (List.replicate n z)[0]? = some z := by
  cases n with
  | zero => omega
  | succ n => simp [List.replicate_succ]
abbrev leafR : Rc := ⟨1, nilS, nilS, true, 0, [], [], nilS, nilS, 0, 0, 0, nilS, 0, 0⟩
theorem reads_leaf (w : World) : RecReads w leafR none none := ⟨⟨rfl, fun h => absurd h (Nat.lt_irrefl 0)⟩, ⟨rfl, fun h => absurd h (Nat.lt_irrefl 0)⟩⟩
/-- A memory as it is at first. -/
def NewMem (l : Lm) (w : World) (e : Ending) (w' : World) : Prop :=
  ∃ (m a G : Nat) (vr ve : Value) (T H C M : Nat), e = .returned (.tuple #[.pointer (some ⟨m, 0, none⟩), .nilIface]) ∧ Mm w' m 0 l ⟨a, G, ⟨1, true, leafR, vr, ve⟩ :: List.replicate (l.s - 1) Sl.zero, T, H, (true, 1, 1) :: List.replicate (l.p - 1) (false, 0, 0), C, M, 1, 0, .map []⟩ ∧ Fr none_ w w' ∧ w.heap.size ≤ m ∧ w.heap.size ≤ C ∧ w.heap.size ≤ M ∧ w.heap.size ≤ G ∧ w.heap.size ≤ H
theorem within_yes (n a b : Int) (w : World) (h1 : a ≤ n) (h2 : n ≤ b) : Calls Tryz.prog 86 #[.int .i64 n, .int .i64 a, .int .i64 b] w fun e w' => e = .returned (.bool true) ∧ w = w' := by
  have d1 : decide (a ≤ n) = true := by simpa using h1
  have d2 : decide (n ≤ b) = true := by simpa using h2
  clear h1 h2
  go_enter Tryz.func86, Tryz.ntmps86
  go_wp2
  go_ret
  exact ⟨rfl, rfl⟩
set_option maxHeartbeats 4000000 in
theorem right_yes (l : Lm) (w : World) (hl : l.Right) : Calls Tryz.prog 44 #[.agg (lmA l)] w fun e w' => e = .returned (.bool true) ∧ Fr none_ w w' := by
  have HL := hid_ hl
  clear hl
  go_enter Tryz.func44, Tryz.ntmps44
  go_wp2_with fail
  refine (within_yes _ _ _ _ HL.out.s.1 HL.out.s.2).mono ?_
  rintro e w1 ⟨rfl, rfl⟩
  go_wp2_with fail
  refine (within_yes _ _ _ _ HL.out.p.1 HL.out.p.2).mono ?_
  rintro e w1 ⟨rfl, rfl⟩
  go_wp2_with fail
  refine (within_yes _ _ _ _ HL.out.t.1 HL.out.t.2).mono ?_
  rintro e w1 ⟨rfl, rfl⟩
  go_wp2_with fail
  refine (within_yes _ _ _ _ HL.out.r.1 HL.out.r.2).mono ?_
  rintro e w1 ⟨rfl, rfl⟩
  go_wp2_with fail
  refine (within_yes _ _ _ _ HL.out.c.1 HL.out.c.2).mono ?_
  rintro e w1 ⟨rfl, rfl⟩
  go_wp2_with fail
  refine (within_yes _ _ _ _ HL.out.n.1 HL.out.n.2).mono ?_
  rintro e w1 ⟨rfl, rfl⟩
  go_wp2_with fail
  go_ret
  exact ⟨rfl, (Fr.refl none_ w).alloc _⟩
set_option maxHeartbeats 8000000 in
theorem memNew_ok (l : Lm) (w : World) (hl : l.Right) : Calls Tryz.prog 18 #[.agg (lmA l)] w (NewMem l w) := by
  have HL := hid_ hl
  clear hl
  have F := hid_ (Fr.refl none_ w)
  go_enter Tryz.func18, Tryz.ntmps18
  go_upto_region 1 with fail
  obtain ⟨w0, hw0⟩ : ∃ z, z = w.alloc (.cells (lmA l) 67) := ⟨_, rfl⟩
  have fw0 : Fr none_ w w0 := by rw [hw0]; exact (Fr.refl none_ w).alloc _
  have BL : Hid (Blk w0 w.heap.size 67 (lmA l)) := hid_ (by rw [hw0]; exact Blk.new w _ _)
  replace F := hid_ (F.out.then_none fw0)
  change Code.wp _ _ _ _ (w.alloc (.cells (lmA l) 67))
  rw [← hw0]
  clear hw0 fw0
  have v0 : w0.cell? ⟨w.heap.size, 0, none⟩ = some (.int .i64 (l.s : Int)) := BL.out.cell' rfl
  have v1 : w0.cell? ⟨w.heap.size, 1, none⟩ = some (.int .i64 (l.p : Int)) := BL.out.cell' rfl
  have v2 : w0.cell? ⟨w.heap.size, 2, none⟩ = some (.int .i64 l.t) := BL.out.cell' rfl
  have v3 : w0.cell? ⟨w.heap.size, 3, none⟩ = some (.int .i64 l.r) := BL.out.cell' rfl
  have v4 : w0.cell? ⟨w.heap.size, 4, none⟩ = some (.int .i64 l.c) := BL.out.cell' rfl
  have v5 : w0.cell? ⟨w.heap.size, 5, none⟩ = some (.int .i64 l.n) := BL.out.cell' rfl
  go_wp2_with fail
  refine (right_yes l _ HL.out).mono ?_
  rintro e w1 ⟨rfl, hf1⟩
  replace F := hid_ (F.out.then_none hf1)
  replace BL := hid_ (BL.out.fr hf1 id)
  clear hf1
  clear v0 v1 v2 v3 v4 v5
  have v0 : w1.cell? ⟨w.heap.size, 0, none⟩ = some (.int .i64 (l.s : Int)) := BL.out.cell' rfl
  have v1 : w1.cell? ⟨w.heap.size, 1, none⟩ = some (.int .i64 (l.p : Int)) := BL.out.cell' rfl
  have v2 : w1.cell? ⟨w.heap.size, 2, none⟩ = some (.int .i64 l.t) := BL.out.cell' rfl
  have v3 : w1.cell? ⟨w.heap.size, 3, none⟩ = some (.int .i64 l.r) := BL.out.cell' rfl
  have v4 : w1.cell? ⟨w.heap.size, 4, none⟩ = some (.int .i64 l.c) := BL.out.cell' rfl
  have v5 : w1.cell? ⟨w.heap.size, 5, none⟩ = some (.int .i64 l.n) := BL.out.cell' rfl
  go_upto_region 3 with fail
  have hS0 : (fun w' : World => Fr none_ w1 w') w1.drew := (Fr.refl none_ w1).drew
  refine wp_region_U (m := 14) (S := fun w' : World => Fr none_ w1 w') (by kernel_rfl) ?_
  refine wpAnyU_take2 (i := 0) (v := _) rfl (by kernel_rfl) (by kernel_rfl) (by kernel_rfl) (by kernel_rfl) (fun _ _ _ h => h) (.inl ⟨by kernel_rfl, fun w' hS => by have s_0 := cellFr v0 hS; have s_1 := cellFr v1 hS; have s_2 := cellFr v2 hS; have s_3 := cellFr v3 hS; have s_4 := cellFr v4 hS; have s_5 := cellFr v5 hS; go_simp; rfl⟩) hS0 ?_
  refine wpAnyU_take2 (i := 1) (v := _) rfl (by kernel_rfl) (by kernel_rfl) (by kernel_rfl) (by kernel_rfl) (fun _ _ _ h => h) (.inl ⟨by kernel_rfl, fun w' hS => by go_simp; rfl⟩) hS0 ?_
  refine wpAnyU_take2 (i := 2) (v := _) rfl (by kernel_rfl) (by kernel_rfl) (by kernel_rfl) (by kernel_rfl) (fun _ _ _ h => h) (.inl ⟨by kernel_rfl, fun w' hS => by have s_0 := cellFr v0 hS; have s_1 := cellFr v1 hS; have s_2 := cellFr v2 hS; have s_3 := cellFr v3 hS; have s_4 := cellFr v4 hS; have s_5 := cellFr v5 hS; go_simp; rfl⟩) hS0 ?_
  refine wpAnyU_take2 (i := 3) (v := _) rfl (by kernel_rfl) (by kernel_rfl) (by kernel_rfl) (by kernel_rfl) (fun _ _ _ h => h) (.inl ⟨by kernel_rfl, fun w' hS => by go_simp; rfl⟩) hS0 ?_
  refine wpAnyU_take2 (i := 4) (v := _) rfl (by kernel_rfl) (by kernel_rfl) (by kernel_rfl) (by kernel_rfl) (fun _ _ _ h => h) (.inl ⟨by kernel_rfl, fun w' hS => by have s_0 := cellFr v0 hS; have s_1 := cellFr v1 hS; have s_2 := cellFr v2 hS; have s_3 := cellFr v3 hS; have s_4 := cellFr v4 hS; have s_5 := cellFr v5 hS; go_simp; rfl⟩) hS0 ?_
  refine wpAnyU_take2 (i := 6) (v := _) rfl (by kernel_rfl) (by kernel_rfl) (by kernel_rfl) (by kernel_rfl) (fun _ _ _ h => h) (.inl ⟨by kernel_rfl, fun w' hS => by go_simp; rfl⟩) hS0 ?_
  refine wpAnyU_take2 (i := 7) (v := _) rfl (by kernel_rfl) (by kernel_rfl) (by kernel_rfl) (by kernel_rfl) (fun _ _ _ h => h) (.inl ⟨by kernel_rfl, fun w' hS => by have s_0 := cellFr v0 hS; have s_1 := cellFr v1 hS; have s_2 := cellFr v2 hS; have s_3 := cellFr v3 hS; have s_4 := cellFr v4 hS; have s_5 := cellFr v5 hS; go_simp; rfl⟩) hS0 ?_
  refine wpAnyU_take2 (i := 9) (v := _) rfl (by kernel_rfl) (by kernel_rfl) (by kernel_rfl) (by kernel_rfl) (fun _ _ _ h => h) (.inl ⟨by kernel_rfl, fun w' hS => by go_simp; rfl⟩) hS0 ?_
  refine wpAnyU_take2 (i := 10) (v := _) rfl (by kernel_rfl) (by kernel_rfl) (by kernel_rfl) (by kernel_rfl) (fun _ _ _ h => h) (.inl ⟨by kernel_rfl, fun w' hS => by have s_0 := cellFr v0 hS; have s_1 := cellFr v1 hS; have s_2 := cellFr v2 hS; have s_3 := cellFr v3 hS; have s_4 := cellFr v4 hS; have s_5 := cellFr v5 hS; go_simp; rfl⟩) hS0 ?_
  refine wpAnyU_take2 (i := 11) (v := _) rfl (by kernel_rfl) (by kernel_rfl) (by kernel_rfl) (by kernel_rfl) (fun _ _ _ h => h) (.inl ⟨by kernel_rfl, fun w' hS => by go_simp; rfl⟩) hS0 ?_
  refine wpAnyU_take2 (i := 12) (v := _) rfl (by kernel_rfl) (by kernel_rfl) (by kernel_rfl) (by kernel_rfl) (fun _ _ _ h => h) (.inl ⟨by kernel_rfl, fun w' hS => by have s_0 := cellFr v0 hS; have s_1 := cellFr v1 hS; have s_2 := cellFr v2 hS; have s_3 := cellFr v3 hS; have s_4 := cellFr v4 hS; have s_5 := cellFr v5 hS; go_simp; rfl⟩) hS0 ?_
  refine wpAnyU_oneW (i := 5) rfl (by kernel_rfl) (by kernel_rfl) ?_
  go_simp
  refine (arNew_ok l.s l.n _ (by have := HL.out.s; omega) (by have := HL.out.s; omega) (by have := HL.out.n; omega) HL.out.n.2).mono ?_
  rintro e w2 ⟨a, G, rfl, hA, hf2, ha, hG⟩
  have HGw := hid_ (show w.heap.size ≤ G by have := F.out.size; simp at hG; omega)
  have HHw := hid_ (show w.heap.size ≤ w2.heap.size by have := F.out.size; have := hf2.size; simp at this; omega)
  have fS := (Fr.refl none_ w1).drew.then_none hf2
  refine ⟨fS, ?_⟩
  have A1 := hid_ hA
  clear hA hf2 hS0
  clear v0 v1 v2 v3 v4 v5
  refine wpAnyU_oneW (i := 8) rfl (by kernel_rfl) (by kernel_rfl) ?_
  go_simp
  refine (mapNew_ok l.p _ (by have := HL.out.p; omega) (by have := HL.out.p; omega)).mono ?_
  rintro e w3 ⟨rfl, hT, hf3, -⟩
  have fS := fS.then_none hf3
  refine ⟨fS, ?_⟩
  replace A1 := hid_ (A1.out.keep hf3)
  have T1 := hid_ hT
  clear hT hf3
  refine wpAnyU_oneW (i := 13) rfl (by kernel_rfl) (by kernel_rfl) ?_
  go_simp
  refine (clkNew_ok l.t l.n _ HL.out.t.1 HL.out.t.2 (by have := HL.out.n; omega) HL.out.n.2).mono ?_
  rintro e w4 ⟨C, M, rfl, hC, hf4, hc1, hc2⟩
  have HCw := hid_ (show w.heap.size ≤ C ∧ w.heap.size ≤ M by have := F.out.size; have := fS.size; omega)
  have fS := fS.then_none hf4
  refine ⟨fS, ?_⟩
  replace A1 := hid_ (A1.out.keep hf4)
  replace T1 := hid_ (T1.out.keep hf4)
  have C1 := hid_ hC
  clear hC hf4
  refine wpAnyU_oneW (i := 14) rfl (by kernel_rfl) (by kernel_rfl) ?_
  go_simp
  refine wpAnyU_oneW (i := 15) rfl (by kernel_rfl) (by kernel_rfl) ?_
  go_simp
  refine wpAnyU_oneW (i := 16) rfl (by kernel_rfl) (by kernel_rfl) ?_
  go_simp
  refine wpAnyU_done (by kernel_rfl) ?_ _
  replace F := hid_ (F.out.then_none fS)
  clear fS
  go_upto_region 4 with fail
  have HMw := hid_ F.out.size
  obtain ⟨w5, hw5⟩ : ∃ z, z = w4.alloc (.cells #[.int .i64 0, .int .i64 (l.s : Int), .int .i64 (l.p : Int), .int .i64 l.t, .int .i64 l.r, .int .i64 l.c, .int .i64 l.n, .pointer (some ⟨a, 0, none⟩), .pointer (some ⟨w2.heap.size + 1, 0, none⟩), .pointer (some ⟨C, 0, none⟩)] 117) := ⟨_, rfl⟩
  have fw5 : Fr none_ w4 w5 := by rw [hw5]; exact (Fr.refl none_ w4).alloc _
  have BM : Hid (Blk w5 w4.heap.size 117 (#[.int .i64 0, .int .i64 (l.s : Int), .int .i64 (l.p : Int), .int .i64 l.t, .int .i64 l.r, .int .i64 l.c, .int .i64 l.n, .pointer (some ⟨a, 0, none⟩), .pointer (some ⟨w2.heap.size + 1, 0, none⟩), .pointer (some ⟨C, 0, none⟩)])) := hid_ (by rw [hw5]; exact Blk.new w4 _ _)
  replace F := hid_ (F.out.then_none fw5)
  replace A1 := hid_ (A1.out.keep fw5)
  replace T1 := hid_ (T1.out.keep fw5)
  replace C1 := hid_ (C1.out.keep fw5)
  change Code.wp _ _ _ _ (w4.alloc (.cells #[.int .i64 0, .int .i64 (l.s : Int), .int .i64 (l.p : Int), .int .i64 l.t, .int .i64 l.r, .int .i64 l.c, .int .i64 l.n, .pointer (some ⟨a, 0, none⟩), .pointer (some ⟨w2.heap.size + 1, 0, none⟩), .pointer (some ⟨C, 0, none⟩)] 117))
  rw [← hw5]
  clear hw5 fw5
  have M5 : Hid (Mm w5 w4.heap.size 0 l ⟨a, G, List.replicate l.s Sl.zero, w2.heap.size + 1, w2.heap.size, List.replicate l.p (false, 0, 0), C, M, 1, 0, .map []⟩) := hid_ ⟨BM.out, A1.out, T1.out, C1.out⟩
  have hw1 := F.out.size
  have m7 : w5.cell? ⟨w4.heap.size, 7, none⟩ = some (.pointer (some ⟨a, 0, none⟩)) := BM.out.cell' rfl
  go_wp2_with fail
  refine (alloc_ok leafR none 0 none 0 _ a G l.n _ M5.out.ar (reads_leaf _) ⟨by decide, by decide⟩).mono ?_
  rintro e w6 h6
  obtain ⟨vr, ve, rfl, hA6, -, hf6⟩ := h6.first (i := 0) (s := Sl.zero) (rep_get (by have := HL.out.s; omega) _) rfl (by show (0 : Int) ≠ l.n; have := HL.out.n; omega) (fun j t hj => by omega)
  rw [rep_set (by have := HL.out.s; omega)] at hA6
  have M6 : Hid (Mm w6 w4.heap.size 0 l ⟨a, G, ⟨1, true, leafR, vr, ve⟩ :: List.replicate (l.s - 1) Sl.zero, w2.heap.size + 1, w2.heap.size, List.replicate l.p (false, 0, 0), C, M, 1, 0, .map []⟩) := hid_ (M5.out.arPut hA6 hf6)
  have F6 := hid_ (F.out.then_only hf6 (.inr HGw.out))
  clear h6 hA6 hf6 m7 M5 BM A1 T1 C1 F
  go_upto_region 5 with fail
  obtain ⟨w7, hw7⟩ : ∃ z, z = w6.alloc (.cells #[.int .i64 1, .int .i64 1] 23) := ⟨_, rfl⟩
  have fw7 : Fr none_ w6 w7 := by rw [hw7]; exact (Fr.refl none_ w6).alloc _
  have BX : Hid (Blk w7 w6.heap.size 23 (#[.int .i64 1, .int .i64 1])) := hid_ (by rw [hw7]; exact Blk.new w6 _ _)
  replace F6 := hid_ (F6.out.then_none fw7)
  replace M6 := hid_ (M6.out.keep fw7)
  change Code.wp _ _ _ _ (w6.alloc (.cells #[.int .i64 1, .int .i64 1] 23))
  rw [← hw7]
  clear hw7 fw7
  have m8 : w7.cell? ⟨w4.heap.size, 8, none⟩ = some (.pointer (some ⟨w2.heap.size + 1, 0, none⟩)) := M6.out.b.cell' rfl
  go_wp2_with fail
  refine (mtake_ok _ _ _ 0 0 0 _ M6.out.tb (rep_get (by have := HL.out.p; omega) _) (fun j p hj => by omega)).mono ?_
  rintro e w8 ⟨rfl, h8⟩
  have hT8 : Tbl w8 (w2.heap.size + 1) w2.heap.size ((List.replicate l.p (false, 0, 0)).set 0 (true, 0, 0)) := by rw [h8]; exact M6.out.tb.set_ (by simp; have := HL.out.p; omega) _
  have hf8 : Fr (only w2.heap.size) w7 w8 := by rw [h8]; exact setPg_only _ _ _ _
  rw [rep_set (by have := HL.out.p; omega)] at hT8
  replace BX := hid_ (BX.out.fr hf8 (only_ne (by obtain ⟨cap, cur, hT0, hH, _⟩ := id M6.out.tb; exact Blk.ne_ BX.out hH (by decide))))
  replace M6 := hid_ (M6.out.tbPut hT8 hf8)
  replace F6 := hid_ (F6.out.then_only hf8 (.inr HHw.out))
  clear h8 hT8 hf8 m8
  have m8 : w8.cell? ⟨w4.heap.size, 8, none⟩ = some (.pointer (some ⟨w2.heap.size + 1, 0, none⟩)) := M6.out.b.cell' rfl
  have x0 : w8.cell? ⟨w6.heap.size, 0, none⟩ = some (.int .i64 1) := BX.out.cell' rfl
  have x1 : w8.cell? ⟨w6.heap.size, 1, none⟩ = some (.int .i64 1) := BX.out.cell' rfl
  go_upto_region 10 with fail
  have nH : ¬ only w2.heap.size w4.heap.size ∧ ¬ only w2.heap.size w6.heap.size := by
    obtain ⟨cap, cur, hT0, hH, _⟩ := id M6.out.tb
    exact ⟨only_ne (Blk.ne_ M6.out.b hH (by decide)), only_ne (Blk.ne_ BX.out hH (by decide))⟩
  have hS1 : (fun w' : World => Fr (only w2.heap.size) w8 w') w8.drew := (Fr.refl _ w8).drew
  refine wp_region_U (m := 13) (S := fun w' : World => Fr (only w2.heap.size) w8 w') (by kernel_rfl) ?_
  refine wpAnyU_take2 (i := 0) (v := _) rfl (by kernel_rfl) (by kernel_rfl) (by kernel_rfl) (by kernel_rfl) (fun _ _ _ h => h) (.inl ⟨by kernel_rfl, fun w' hS => by go_simp; rfl⟩) hS1 ?_
  refine wpAnyU_take2 (i := 1) (v := _) rfl (by kernel_rfl) (by kernel_rfl) (by kernel_rfl) (by kernel_rfl) (fun _ _ _ h => h) (.inl ⟨by kernel_rfl, fun w' hS => by go_simp; rfl⟩) hS1 ?_
  refine wpAnyU_take2 (i := 2) (v := _) rfl (by kernel_rfl) (by kernel_rfl) (by kernel_rfl) (by kernel_rfl) (fun _ _ _ h => h) (.inl ⟨by kernel_rfl, fun w' hS => by go_simp; rfl⟩) hS1 ?_
  refine wpAnyU_take2 (i := 3) (v := _) rfl (by kernel_rfl) (by kernel_rfl) (by kernel_rfl) (by kernel_rfl) (fun _ _ _ h => h) (.inl ⟨by kernel_rfl, fun w' hS => by have s_8 := cellFrS m8 hS nH.1; go_simp; rfl⟩) hS1 ?_
  refine wpAnyU_take2 (i := 4) (v := _) rfl (by kernel_rfl) (by kernel_rfl) (by kernel_rfl) (by kernel_rfl) (fun _ _ _ h => h) (.inl ⟨by kernel_rfl, fun w' hS => by go_simp; rfl⟩) hS1 ?_
  refine wpAnyU_take2 (i := 5) (v := _) rfl (by kernel_rfl) (by kernel_rfl) (by kernel_rfl) (by kernel_rfl) (fun _ _ _ h => h) (.inl ⟨by kernel_rfl, fun w' hS => by go_simp; rfl⟩) hS1 ?_
  refine wpAnyU_take2 (i := 6) (v := _) rfl (by kernel_rfl) (by kernel_rfl) (by kernel_rfl) (by kernel_rfl) (fun _ _ _ h => h) (.inl ⟨by kernel_rfl, fun w' hS => by have s_0 := cellFrS x0 hS nH.2; have s_1 := cellFrS x1 hS nH.2; go_simp; rfl⟩) hS1 ?_
  clear m8 x0 x1
  refine wpAnyU_oneW (i := 7) rfl (by kernel_rfl) (by kernel_rfl) ?_
  go_simp
  refine (swap_ok _ _ _ 0 0 0 0 0 1 1 _ (M6.out.tb.keep (Fr.refl none_ _).drew) rfl).mono ?_
  rintro e w9 ⟨rfl, hT9, hf9⟩
  have hT9' : Tbl w9 (w2.heap.size + 1) w2.heap.size ((true, 1, 1) :: List.replicate (l.p - 1) (false, 0, 0)) := by simpa using hT9
  have M9 := hid_ ((M6.out.keep (Fr.refl none_ w8).drew).tbPut hT9' hf9)
  have fS9 : (fun w' : World => Fr (only w2.heap.size) w8 w') w9 := (Fr.refl (only w2.heap.size) w8).drew.then_only hf9 (.inl (Eq.refl _))
  have F9 := hid_ (F6.out.drew.then_only hf9 (.inr HHw.out))
  clear hT9 hT9' hf9 hS1
  simp only [beq_self_eq_true, Bool.and_self]
  refine ⟨fS9, ?_⟩
  refine wpAnyU_take2 (i := 8) (v := _) rfl (by kernel_rfl) (by kernel_rfl) (by kernel_rfl) (by kernel_rfl) (fun _ _ _ h => h) (.inl ⟨by kernel_rfl, fun w' hS => by go_simp; rfl⟩) fS9 ?_
  refine wpAnyU_take2 (i := 9) (v := _) rfl (by kernel_rfl) (by kernel_rfl) (by kernel_rfl) (by kernel_rfl) (fun _ _ _ h => h) (.inl ⟨by kernel_rfl, fun w' hS => by go_simp; rfl⟩) fS9 ?_
  refine wpAnyU_take2 (i := 10) (v := _) rfl (by kernel_rfl) (by kernel_rfl) (by kernel_rfl) (by kernel_rfl) (fun _ _ _ h => h) (.inl ⟨by kernel_rfl, fun w' hS => by go_simp; rfl⟩) fS9 ?_
  refine wpAnyU_take2 (i := 11) (v := _) rfl (by kernel_rfl) (by kernel_rfl) (by kernel_rfl) (by kernel_rfl) (fun _ _ _ h => h) (.inl ⟨by kernel_rfl, fun w' hS => by go_simp; rfl⟩) fS9 ?_
  refine wpAnyU_take2 (i := 12) (v := _) rfl (by kernel_rfl) (by kernel_rfl) (by kernel_rfl) (by kernel_rfl) (fun _ _ _ h => h) (.inl ⟨by kernel_rfl, fun w' hS => by go_simp; rfl⟩) fS9 ?_
  refine wpAnyU_done (by kernel_rfl) ?_ _
  go_wp2_with fail
  go_ret2
  exact ⟨_, _, _, _, _, _, _, _, _, rfl, M9.out, F9.out, HMw.out, HCw.out.1, HCw.out.2, HGw.out, HHw.out⟩
end Go.Proofs.YtfihfjbakfadkaaGreatDoor
namespace Go.Proofs.YtfihfjbakfadkaaGreatDoor
open Go.RowKit
set_option maxRecDepth 100000
set_option linter.unusedVariables false

/-- A record in a row: what its slices are. -/
structure Cr where
  R : Rc
  A : Option Addr
  c : Nat
  B : Option Addr
  d : Nat
abbrev crA (C : Cr) : Array Value := recA C.R (.slice C.A C.R.rows.length C.c) (.slice C.B C.R.ents.length C.d)
def crFlat (L : List Cr) : List Value := (L.map fun C => (crA C).toList).flatten
theorem crFlat_snoc (L : List Cr) (C : Cr) : crFlat (L ++ [C]) = crFlat L ++ (crA C).toList := by simp [crFlat]
def rf9Flat (L : List (Int × Int)) : List Value := (L.map fun p => [Value.int .i64 p.1, Value.int .i64 p.2]).flatten
theorem rf9Flat_snoc (L : List (Int × Int)) (p : Int × Int) : rf9Flat (L ++ [p]) = rf9Flat L ++ [Value.int .i64 p.1, Value.int .i64 p.2] := by simp [rf9Flat]
theorem rec_info9 : (Tryz.prog.info? 33).map (fun i => (i.zero, i.size, i.bytes)) = some (some (.agg recZ), 15, 192) := by kernel_rfl
theorem ref_info9 : (Tryz.prog.info? 23).map (fun i => (i.zero, i.size, i.bytes)) = some (some (.agg #[.int .i64 0, .int .i64 0]), 2, 16) := by kernel_rfl
theorem cr_one (C : Cr) : ∀ u ∈ (crA C).toList, u.oneCell' = true := by
  intro u hu
  simp only [List.mem_cons, List.not_mem_nil, or_false] at hu
  rcases hu with rfl | rfl | rfl | rfl | rfl | rfl | rfl | rfl | rfl | rfl | rfl | rfl | rfl | rfl | rfl <;> rfl
theorem RecOwn.grown {w w' : World} {base : Nat} {R : Rc} {vr ve : Value} (h : RecOwn w base R vr ve) {b size n : Nat} {e : TypeId} {v : Value} {xs : List Value} (ho : w.ownsRow b e size v n xs) (h1 : 143 ≠ e) (h2 : 59 ≠ e) (hg : w.grownBy w' v.ownBlock) : RecOwn w' base R vr ve := by
  refine ⟨h.r.kept hg ?_, h.e.kept hg ?_⟩
  · cases hk : vr.ownBlock with
    | none => exact .inl rfl
    | some k => exact .inr (fun e' => own_own_ne h.r ho h1 k hk e'.symm)
  · cases hk : ve.ownBlock with
    | none => exact .inl rfl
    | some k => exact .inr (fun e' => own_own_ne h.e ho h2 k hk e'.symm)
theorem own_kept {w w' : World} {base size n base' size' n' : Nat} {e e' : TypeId} {v v' : Value} {xs xs' : List Value} (h : w.ownsRow base e size v n xs) (ho : w.ownsRow base' e' size' v' n' xs') (hne : e ≠ e') (hg : w.grownBy w' v'.ownBlock) : w'.ownsRow base e size v n xs := by
  refine h.kept hg ?_
  cases hk : v.ownBlock with
  | none => exact .inl rfl
  | some k => exact .inr (fun e' => own_own_ne h ho hne k hk e'.symm)
theorem Blk.there9 {w : World} {g n : Nat} {t : TypeId} {cs : Array Value} (h : Blk w g t cs) (hn : cs.size = n) : w.there g 0 n := by
  subst hn
  intro j hj
  refine ⟨?_, h.frozen _⟩
  rw [h.cell, Nat.zero_add, Array.getElem?_eq_getElem hj]
  rfl
theorem Blk.over9 {w : World} {g : Nat} {t : TypeId} {zs : Array Value} (h : Blk w g t zs) (vs : List Value) (hz : zs.size = vs.length) : Blk (w.setCells g 0 vs) g t vs.toArray ∧ Fr (only g) w (w.setCells g 0 vs) := by
  refine ⟨?_, Fr.setCells _ _ _ (Fr.refl _ _) (.inl rfl)⟩
  have h := Blk.setCells vs 0 _ _ h
  have e : setA zs 0 vs = vs.toArray := by
    apply Array.ext_getElem?
    intro k
    rcases Nat.lt_or_ge k vs.length with h1 | h1
    · have := setA_in vs zs 0 k vs[k] (List.getElem?_eq_getElem h1) (by omega)
      rw [Nat.zero_add] at this
      rw [this, List.getElem?_toArray, List.getElem?_eq_getElem h1]
    · rw [Array.getElem?_eq_none (by rw [setA_size]; omega), Array.getElem?_eq_none (by simpa using h1)]
  rwa [e] at h
theorem reads_blk9 {w : World} {t : TypeId} {cs : List Value} {b : Nat} (h : Blk w b t cs.toArray) : Reads w cs.length (some ⟨b, 0, none⟩) 1 cs :=
  ⟨by simp, fun _ => ⟨_, rfl, fun j u hu => by rw [add_lit, Nat.zero_add]; exact h.cell' (by simpa using hu)⟩⟩
/-- What the loop holds. -/
structure Ch9 (w : World) (bx b : Nat) (cx cb : Array Value) (vl : Value) (nl : Nat) (xl : List Value) (vr : Value) (nr : Nat) (xr : List Value) (Cs : List Cr) (wr : World) : Prop where
  l : wr.ownsRow w.heap.size 33 15 vl nl xl
  r : wr.ownsRow w.heap.size 23 2 vr nr xr
  nl : ∀ k, vl.ownBlock = some k → k ≠ b
  nr : ∀ k, vr.ownBlock = some k → k ≠ bx
  bx : Blk wr bx 23 cx
  bt : Blk wr b 33 cb
  own : ∀ C ∈ Cs, RecOwn wr 0 C.R (.slice C.A C.R.rows.length C.c) (.slice C.B C.R.ents.length C.d)
  f : Fr none_ w wr
section
variable {w wr w' : World} {bx b : Nat} {cx cb : Array Value} {vl : Value} {nl : Nat} {xl : List Value} {vr : Value} {nr : Nat} {xr : List Value} {Cs : List Cr}
theorem Ch9.keep (h : Ch9 w bx b cx cb vl nl xl vr nr xr Cs wr) (hf : Fr none_ wr w') : Ch9 w bx b cx cb vl nl xl vr nr xr Cs w' :=
  ⟨own_none h.l hf, own_none h.r hf, h.nl, h.nr, h.bx.fr hf id, h.bt.fr hf id, fun C hC => (h.own C hC).keep hf, h.f.then_none hf⟩
theorem Ch9.putL (h : Ch9 w bx b cx cb vl nl xl vr nr xr Cs wr) {v' : Value} {m : Nat} {ys : List Value} (ho : w'.ownsRow w.heap.size 33 15 v' (nl + m) (xl ++ ys)) (hg : wr.grownBy w' vl.ownBlock) (hat : v'.ownBlock = vl.ownBlock ∨ v'.ownBlock = some wr.heap.size) : Ch9 w bx b cx cb v' (nl + m) (xl ++ ys) vr nr xr Cs w' :=
  ⟨ho, own_kept h.r h.l (by decide) hg, fun k hk => by
      rcases hat with e | e
      · exact h.nl k (e ▸ hk)
      · have h1 := h.bt.lt
        have : wr.heap.size = k := Option.some.inj (e.symm.trans hk)
        omega, h.nr, h.bx.grown hg (fun e => own_blk_ne h.l h.bx (by decide) e.symm), h.bt.grown hg (fun e => h.nl b e.symm rfl), fun C hC => (h.own C hC).grown h.l (by decide) (by decide) hg, h.f.grown hg (fun k hk => .inr (h.l.lt k hk).1)⟩
theorem Ch9.putR (h : Ch9 w bx b cx cb vl nl xl vr nr xr Cs wr) {v' : Value} {m : Nat} {ys : List Value} (ho : w'.ownsRow w.heap.size 23 2 v' (nr + m) (xr ++ ys)) (hg : wr.grownBy w' vr.ownBlock) (hat : v'.ownBlock = vr.ownBlock ∨ v'.ownBlock = some wr.heap.size) : Ch9 w bx b cx cb vl nl xl v' (nr + m) (xr ++ ys) Cs w' :=
  ⟨own_kept h.l h.r (by decide) hg, ho, h.nl, fun k hk => by
      rcases hat with e | e
      · exact h.nr k (e ▸ hk)
      · have h1 := h.bx.lt
        have : wr.heap.size = k := Option.some.inj (e.symm.trans hk)
        omega, h.bx.grown hg (fun e => h.nr bx e.symm rfl), h.bt.grown hg (fun e => own_blk_ne h.r h.bt (by decide) e.symm), fun C hC => (h.own C hC).grown h.r (by decide) (by decide) hg, h.f.grown hg (fun k hk => .inr (h.r.lt k hk).1)⟩
end
/-- A slice's length, for the measure. -/
def lenOf : Value → Nat
  | .slice _ n _ => n
  | _ => 0
end Go.Proofs.YtfihfjbakfadkaaGreatDoor
namespace Go.Proofs.YtfihfjbakfadkaaGreatDoor
open Go.RowKit
set_option linter.unusedVariables false

def errOf (k : Int) : Value := if k = 0 then .nilIface else errV k
theorem errOf_pos {k : Int} (h : k ≠ 0) : errOf k = errV k := if_neg h
end Go.Proofs.YtfihfjbakfadkaaGreatDoor
namespace Go.Proofs.YtfihfjbakfadkaaGreatDoor
open Go.RowKit
set_option maxRecDepth 100000
set_option linter.unusedVariables false

theorem fat_nil (p : ByteArray) (s : Int) (w : World) : Calls Tryz.prog 90 #[.string p, .int .i64 s, .nilIface] w fun e w' => e = .returned .nilIface ∧ w = w' := by
  go_enter Tryz.func90, Tryz.ntmps90
  go_wp2
  go_ret
  exact ⟨rfl, rfl⟩
abbrev sArena9 : ByteArray := ⟨#[97, 114, 101, 110, 97]⟩
theorem fat_err (p : ByteArray) (s k : Int) (w : World) : Calls Tryz.prog 90 #[.string p, .int .i64 s, errV k] w fun e w' => e = .returned (.iface 239 (.pointer (some ⟨w.heap.size, 0, none⟩))) ∧ Blk w' w.heap.size 241 #[.string p, .int .i64 s, errV k] ∧ Fr none_ w w' := by
  go_enter Tryz.func90, Tryz.ntmps90
  go_wp2
  go_ret
  exact ⟨rfl, Blk.new w _ _, (Fr.refl none_ w).alloc _⟩
abbrev sTable9 : ByteArray := ⟨#[116, 97, 98, 108, 101]⟩
/-- What the table tells of a page. -/
def pgC (ps : List Pg) (n : Int) : Int := if n < 0 ∨ (ps.length : Int) ≤ n then 1 else if (ps[n.toNat]?.map (·.1)).getD false = true then 0 else 6
theorem head_bad {T H : Nat} {ps : List Pg} (n : Int) (w : World) (h : Tbl w T H ps) (hb : pgC ps n ≠ 0) : Calls Tryz.prog 89 #[.pointer (some ⟨T, 0, none⟩), .int .i64 n] w fun e w' => e = .returned (.tuple #[.agg #[.int .i64 0, .int .i64 0], errV (pgC ps n)]) ∧ Fr none_ w w' := by
  by_cases h1 : n < 0 ∨ (ps.length : Int) ≤ n
  · have e : pgC ps n = 1 := if_pos h1
    rw [e]
    exact head_err (some ⟨T, 0, none⟩) n 1 w (fun w' hf => mapAt_arg T H ps n w' (h.keep hf) h1)
  · obtain ⟨i, rfl⟩ : ∃ i : Nat, n = (i : Int) := ⟨n.toNat, by omega⟩
    obtain ⟨⟨u, s, g⟩, hp⟩ : ∃ p, ps[i]? = some p := ⟨_, List.getElem?_eq_getElem (by omega)⟩
    cases u with
    | true =>
      have e : pgC ps (i : Int) = 0 := by unfold pgC; rw [if_neg h1]; simp [hp]
      exact absurd e hb
    | false =>
      have e : pgC ps (i : Int) = 6 := by unfold pgC; rw [if_neg h1]; simp [hp]
      rw [e]
      exact head_err (some ⟨T, 0, none⟩) i 6 w (fun w' hf => mapAt_none T H ps i s g w' (h.keep hf) hp)
/-- What an access may turn: the memory's own blocks. -/
def mall (m : Nat) (x : St) : Nat → Prop := fun i => i = m ∨ i = x.G ∨ i = x.H ∨ i = x.C ∨ i = x.M
theorem mall_m {m : Nat} {x : St} {w w' : World} (h : Fr (only m) w w') : Fr (mall m x) w w' := h.mono (fun _ _ e => .inl e)
theorem tick_mm (m : Nat) (k : Int) (l : Lm) (x : St) (w : World) (h : Mm w m k l x) (h0 : 0 ≤ k) (h1 : k ≤ 100000) : Calls Tryz.prog 88 #[.pointer (some ⟨m, 0, none⟩)] w fun e w' => e = .returned (.tuple #[]) ∧ Mm w' m (k + 1) l x ∧ Fr (mall m x) w w' := by
  have c0 : w.cell? ⟨m, 0, none⟩ = some (.int .i64 k) := h.b.cell' rfl
  have y0 := h.b.frozen 0
  have H := hid_ h
  clear h
  go_enter Tryz.func88, Tryz.ntmps88
  go_wp2
  exact bodyPost_end (v := .tuple #[]) (by simp [results, Tryz.results88, go_sem]) rfl ⟨rfl, H.out.count _, mall_m (Fr.only1 w ⟨m, 0, none⟩ _)⟩
theorem tick_mo (m : Nat) (k : Int) (l : Lm) (x : St) (w : World) (h : Mm w m k l x) (h0 : 0 ≤ k) (h1 : k ≤ 100000) : Calls Tryz.prog 88 #[.pointer (some ⟨m, 0, none⟩)] w fun e w' => e = .returned (.tuple #[]) ∧ Mm w' m (k + 1) l x ∧ Fr (only m) w w' := by
  have c0 : w.cell? ⟨m, 0, none⟩ = some (.int .i64 k) := h.b.cell' rfl
  have y0 := h.b.frozen 0
  have H := hid_ h
  clear h
  go_enter Tryz.func88, Tryz.ntmps88
  go_wp2
  exact bodyPost_end (v := .tuple #[]) (by simp [results, Tryz.results88, go_sem]) rfl ⟨rfl, H.out.count _, Fr.only1 w ⟨m, 0, none⟩ _⟩
/-- A box of the call's own was turned. -/
theorem Mm.ref {w w' : World} {m : Nat} {k : Int} {l : Lm} {x : St} {b : Nat} {cs : Array Value} (h : Mm w m k l x) (hb : Blk w b 23 cs) (hf : Fr (only b) w w') : Mm w' m k l x := by
  obtain ⟨cs', hG, _⟩ := h.ar.hG
  obtain ⟨cap, cur, hT0, hH, _⟩ := id h.tb
  exact ⟨h.b.fr hf (only_ne (Blk.ne_ h.b hb (by decide))), h.ar.beside hf hb (by decide) (by decide) (Blk.ne_ h.ar.hA hb (by decide)) (Blk.ne_ hG hb (by decide)), h.tb.fr hf (only_ne (Blk.ne_ hT0 hb (by decide))) (only_ne (Blk.ne_ hH hb (by decide))), h.ck.fr hf (only_ne (Blk.ne_ h.ck.hC hb (by decide))) (only_ne (h.ck.mne hb))⟩
theorem Mm.nref {w : World} {m : Nat} {k : Int} {l : Lm} {x : St} {b : Nat} {cs : Array Value} (h : Mm w m k l x) (hb : Blk w b 23 cs) : ¬ mall m x b := by
  obtain ⟨cs, hG, _⟩ := h.ar.hG
  obtain ⟨cap, cur, hT0, hH, _⟩ := id h.tb
  rintro (e | e | e | e | e)
  · exact Blk.ne_ hb h.b (by decide) e
  · exact Blk.ne_ hb hG (by decide) e
  · exact Blk.ne_ hb hH (by decide) e
  · exact Blk.ne_ hb h.ck.hC (by decide) e
  · exact h.ck.mne hb e.symm
theorem Mm.rec9 {w w' : World} {m : Nat} {k : Int} {l : Lm} {x : St} {b : Nat} {cs : Array Value} (h : Mm w m k l x) (hb : Blk w b 33 cs) (hf : Fr (only b) w w') : Mm w' m k l x := by
  obtain ⟨cs', hG, _⟩ := h.ar.hG
  obtain ⟨cap, cur, hT0, hH, _⟩ := id h.tb
  exact ⟨h.b.fr hf (only_ne (Blk.ne_ h.b hb (by decide))), h.ar.beside hf hb (by decide) (by decide) (Blk.ne_ h.ar.hA hb (by decide)) (Blk.ne_ hG hb (by decide)), h.tb.fr hf (only_ne (Blk.ne_ hT0 hb (by decide))) (only_ne (Blk.ne_ hH hb (by decide))), h.ck.fr hf (only_ne (Blk.ne_ h.ck.hC hb (by decide))) (only_ne (h.ck.mne hb))⟩
theorem at_live {ss : List Sl} {s g : Int} (h : atC ss s g = 0) : ∃ (j : Nat) (y : Sl), s = (j : Int) + 1 ∧ ss[j]? = some y ∧ y.used = true ∧ y.gen = g := by
  rcases atC_cases ss s g with ⟨h1, _⟩ | ⟨i, y, h1, h2, h3⟩
  · rw [h1] at h; cases h
  · rcases h3 with ⟨h3, _⟩ | ⟨_, h4, h5⟩
    · rw [h3] at h; cases h
    · exact ⟨i, y, h1, h2, h4, h5⟩
/-- An error as a memory tells it: none, or a fault round a code. -/
def Ev (w : World) (v : Value) (p : ByteArray) (s c : Int) : Prop :=
  (c = 0 ∧ v = .nilIface) ∨ (c ≠ 0 ∧ ∃ b, v = .iface 239 (.pointer (some ⟨b, 0, none⟩)) ∧ Blk w b 241 #[.string p, .int .i64 s, errV c])
theorem Ev.fr {w w' : World} {v : Value} {p : ByteArray} {s c : Int} {S : Nat → Prop} (h : Ev w v p s c) (hf : Fr S w w') (hS : ∀ b cs, Blk w b 241 cs → ¬ S b) : Ev w' v p s c := by
  rcases h with h | ⟨h, b, hv, hb⟩
  · exact .inl h
  · exact .inr ⟨h, b, hv, hb.fr hf (hS b _ hb)⟩
theorem Ev.keep {w w' : World} {v : Value} {p : ByteArray} {s c : Int} (h : Ev w v p s c) (hf : Fr none_ w w') : Ev w' v p s c := h.fr hf (fun _ _ _ => id)
theorem Ev.only {w w' : World} {v : Value} {p : ByteArray} {s c : Int} {g : Nat} {t : TypeId} {cs : Array Value} (h : Ev w v p s c) (hf : Fr (only g) w w') (hg : Blk w g t cs) (hne : 241 ≠ t) : Ev w' v p s c :=
  h.fr hf (fun b _ hb => only_ne (Blk.ne_ hb hg hne))
theorem fat_ev (p : ByteArray) (s k : Int) (w : World) : Calls Tryz.prog 90 #[.string p, .int .i64 s, errOf k] w fun e w' => ∃ v, e = .returned v ∧ Ev w' v p s k ∧ Fr none_ w w' := by
  by_cases h : k = 0
  · subst h
    exact (fat_nil p s w).mono fun e w' h => ⟨_, h.1, .inl ⟨rfl, rfl⟩, by rw [← h.2]; exact Fr.refl _ _⟩
  · rw [errOf_pos h]
    exact (fat_err p s k w).mono fun e w' hh => ⟨_, hh.1, .inr ⟨h, _, rfl, hh.2.1⟩, hh.2.2⟩
end Go.Proofs.YtfihfjbakfadkaaGreatDoor
namespace Go.Proofs.YtfihfjbakfadkaaGreatDoor
open Go.RowKit
set_option maxRecDepth 100000
set_option linter.unusedVariables false

theorem pgC_zero {ps : List Pg} {n : Int} (h : pgC ps n = 0) : ∃ (i : Nat) (s g : Int), n = (i : Int) ∧ ps[i]? = some (true, s, g) := by
  unfold pgC at h
  split at h
  · cases h
  · rename_i h1
    split at h
    · rename_i h2
      obtain ⟨⟨u, s, g⟩, hp⟩ : ∃ p, ps[n.toNat]? = some p := ⟨_, List.getElem?_eq_getElem (by omega)⟩
      rw [hp] at h2
      obtain rfl : u = true := by simpa using h2
      exact ⟨n.toNat, s, g, by omega, hp⟩
    · cases h
theorem pgC_used {ps : List Pg} {i : Nat} {s g : Int} (h : ps[i]? = some (true, s, g)) : pgC ps (i : Int) = 0 := by
  have hlt := (List.getElem?_eq_some_iff.1 h).1
  unfold pgC
  rw [if_neg (by omega)]
  simp [h]
def HeadR (ps : List Pg) (n s g c : Int) : Prop := (∃ i : Nat, n = (i : Int) ∧ ps[i]? = some (true, s, g) ∧ c = 0) ∨ (pgC ps n ≠ 0 ∧ s = 0 ∧ g = 0 ∧ c = pgC ps n)
theorem head_any {T H : Nat} {ps : List Pg} (n : Int) (w : World) (h : Tbl w T H ps) : Calls Tryz.prog 89 #[.pointer (some ⟨T, 0, none⟩), .int .i64 n] w fun e w' => ∃ s g c, e = .returned (.tuple #[.agg #[.int .i64 s, .int .i64 g], errOf c]) ∧ HeadR ps n s g c ∧ Fr none_ w w' := by
  by_cases hb : pgC ps n = 0
  · obtain ⟨i, s, g, rfl, hp⟩ := pgC_zero hb
    exact (head_ok T H ps i s g w h hp).mono fun e w' hh => ⟨s, g, 0, hh.1, .inl ⟨i, rfl, hp, rfl⟩, hh.2⟩
  · exact (head_bad n w h hb).mono fun e w' hh => ⟨0, 0, pgC ps n, by rw [errOf_pos hb]; exact hh.1, .inr ⟨hb, rfl, rfl, rfl⟩, hh.2⟩
def LoadR (ss : List Sl) (sl gn : Int) (R : Rc) (c : Int) : Prop :=
  (∃ (i : Nat) (s : Sl), sl = (i : Int) + 1 ∧ ss[i]? = some s ∧ s.used = true ∧ s.gen = gn ∧ c = 0 ∧ R = s.R) ∨ (atC ss sl gn ≠ 0 ∧ c = atC ss sl gn ∧ R = Rc.zero)
theorem load_any (sl gn : Int) {w : World} {a G : Nat} {last : Int} {ss : List Sl} (h : Ar w a G last ss) : Calls Tryz.prog 100 #[.pointer (some ⟨a, 0, none⟩), .agg #[.int .i64 sl, .int .i64 gn]] w fun e w' => ∃ R A c B d k, e = .returned (.tuple #[recV R (.slice A R.rows.length c) (.slice B R.ents.length d), errOf k]) ∧ LoadR ss sl gn R k ∧ RecOwn w' w.heap.size R (.slice A R.rows.length c) (.slice B R.ents.length d) ∧ Fr none_ w w' := by
  by_cases hb : atC ss sl gn = 0
  · obtain ⟨i, s, h1, h2, h3, h4⟩ := at_live hb
    refine (load_ok sl gn h h2 h1 h3 h4).mono ?_
    rintro e w' ⟨A, c, B, d, rfl, hO, hf⟩
    exact ⟨s.R, A, c, B, d, 0, rfl, .inl ⟨i, s, h1, h2, h3, h4, rfl, rfl⟩, hO, hf⟩
  · refine (load_bad sl gn h hb).mono ?_
    rintro e w' ⟨rfl, hf⟩
    exact ⟨Rc.zero, none, 0, none, 0, atC ss sl gn, by rw [errOf_pos hb]; rfl, .inr ⟨hb, rfl, rfl⟩, RecOwn.zero _ _, hf⟩
section
variable (m : Nat) (k : Int) (l : Lm) (x : St) (w : World)
theorem memHead_any (h : Mm w m k l x) (h0 : 0 ≤ k) (h1 : k ≤ 100000) (n : Int) : Calls Tryz.prog 51 #[.pointer (some ⟨m, 0, none⟩), .int .i64 n] w fun e w' => ∃ s g c v, e = .returned (.tuple #[.agg #[.int .i64 s, .int .i64 g], v]) ∧ HeadR x.ps n s g c ∧ Ev w' v sTable9 n c ∧ Mm w' m (k + 1) l x ∧ Fr (mall m x) w w' := by
  have H := hid_ (h.keep ((Fr.refl none_ w).alloc (.cells #[.int .i64 0, .int .i64 0] 23)))
  have hltm := h.b.lt
  have B0 := hid_ (Blk.new w 23 #[.int .i64 0, .int .i64 0])
  have F0 := hid_ ((Fr.refl none_ w).alloc (.cells #[.int .i64 0, .int .i64 0] 23))
  clear h
  go_enter Tryz.func51, Tryz.ntmps51
  go_wp2_with fail
  refine (tick_mm m k l x _ H.out h0 h1).mono ?_
  rintro e w1 ⟨rfl, hM1, hf1⟩
  have M1 := hid_ hM1
  have nB : ¬ mall m x w.heap.size := H.out.nref B0.out
  have B4 := hid_ (B0.out.fr hf1 nB)
  have F1 := hid_ ((F0.out.mono (fun _ _ e => e.elim)).trans (S' := mall m x) (S'' := mall m x) hf1 (fun _ _ => id) (fun _ _ => id) : Fr (mall m x) w w1)
  clear hM1 hf1 nB
  have c8 : w1.cell? ⟨m, 8, none⟩ = some (.pointer (some ⟨x.T, 0, none⟩)) := M1.out.b.cell' rfl
  go_wp2_with fail
  refine (head_any n _ M1.out.tb).mono ?_
  rintro e w2 ⟨s, g, c, rfl, hR, hf2⟩
  have R2 := hid_ hR
  clear hR
  replace M1 := hid_ (M1.out.keep hf2)
  replace F1 := hid_ (F1.out.then_none hf2)
  replace B4 := hid_ (B4.out.fr hf2 id)
  clear hf2 c8
  go_upto_region 5 with fail
  obtain ⟨w3, hw3⟩ : ∃ z, z = w2.alloc (.cells #[.int .i64 s, .int .i64 g] 23) := ⟨_, rfl⟩
  have fw3 : Fr none_ w2 w3 := by rw [hw3]; exact (Fr.refl none_ w2).alloc _
  have B6 : Hid (Blk w3 w2.heap.size 23 (#[.int .i64 s, .int .i64 g])) := hid_ (by rw [hw3]; exact Blk.new w2 _ _)
  replace M1 := hid_ (M1.out.keep fw3)
  replace F1 := hid_ (F1.out.then_none fw3)
  replace B4 := hid_ (B4.out.fr fw3 id)
  change Code.wp _ _ _ _ (w2.alloc (.cells #[.int .i64 s, .int .i64 g] 23))
  rw [← hw3]
  clear hw3 fw3
  have x0 : w3.cell? ⟨w2.heap.size, 0, none⟩ = some (.int .i64 s) := B6.out.cell' rfl
  have x1 : w3.cell? ⟨w2.heap.size, 1, none⟩ = some (.int .i64 g) := B6.out.cell' rfl
  have hS1 : (fun w' : World => Fr none_ w3 w') w3.drew := (Fr.refl none_ w3).drew
  refine wp_region_U (m := 4) (S := fun w' : World => Fr none_ w3 w') (by kernel_rfl) ?_
  refine wpAnyU_take2 (i := 0) (v := _) rfl (by kernel_rfl) (by kernel_rfl) (by kernel_rfl) (by kernel_rfl) (fun _ _ _ h => h) (.inl ⟨by kernel_rfl, fun w' hS => by have s_0 := cellFr x0 hS; have s_1 := cellFr x1 hS; go_simp; rfl⟩) hS1 ?_
  refine wpAnyU_take2 (i := 1) (v := _) rfl (by kernel_rfl) (by kernel_rfl) (by kernel_rfl) (by kernel_rfl) (fun _ _ _ h => h) (.inl ⟨by kernel_rfl, fun w' hS => by go_simp; rfl⟩) hS1 ?_
  refine wpAnyU_take2 (i := 2) (v := _) rfl (by kernel_rfl) (by kernel_rfl) (by kernel_rfl) (by kernel_rfl) (fun _ _ _ h => h) (.inl ⟨by kernel_rfl, fun w' hS => by go_simp; rfl⟩) hS1 ?_
  refine wpAnyU_oneW (i := 3) rfl (by kernel_rfl) (by kernel_rfl) ?_
  go_simp
  refine (fat_ev sTable9 n c _).mono ?_
  rintro e w4 ⟨v, rfl, hev, hf4⟩
  have fS4 := hS1.then_none hf4
  refine ⟨fS4, ?_⟩
  have E4 := hid_ hev
  replace M1 := hid_ (M1.out.keep fS4)
  replace F1 := hid_ (F1.out.then_none fS4)
  replace B4 := hid_ (B4.out.fr fS4 id)
  replace B6 := hid_ (B6.out.fr fS4 id)
  have y0 := B4.out.frozen 0
  have y1 := B4.out.frozen 1
  have z0 : w4.cell? ⟨w.heap.size, 0, none⟩ = some (.int .i64 0) := B4.out.cell' rfl
  have z1 : w4.cell? ⟨w.heap.size, 1, none⟩ = some (.int .i64 0) := B4.out.cell' rfl
  clear hS1 x0 x1 hev hf4 fS4
  refine wpAnyU_oneW (i := 4) rfl (by kernel_rfl) (by kernel_rfl) ?_
  go_simp
  clear y0 y1 z0 z1
  obtain ⟨qb, qf⟩ := box2 B4.out (.int .i64 s) (.int .i64 g)
  obtain ⟨w5, hw5⟩ : ∃ z, z = ((w4.setCell ⟨w.heap.size, 0, none⟩ (.int .i64 s)).setCell ⟨w.heap.size, 1, none⟩ (.int .i64 g)) := ⟨_, rfl⟩
  have qb2 : Blk w5 w.heap.size 23 #[.int .i64 s, .int .i64 g] := by rw [hw5]; exact qb
  have qf2 : Fr (only w.heap.size) w4 w5 := by rw [hw5]; exact qf
  rw [← hw5]
  clear hw5 qb qf
  have q0 := qb2.cell' (i := 0) rfl
  have q1 := qb2.cell' (i := 1) rfl
  refine wpAnyU_oneW (i := 5) rfl (by kernel_rfl) (by kernel_rfl) ?_
  go_simp
  refine wpAnyU_done (by kernel_rfl) ?_ _
  go_wp2_with fail
  refine bodyPost_ret (v := .tuple #[.agg #[.int .i64 s, .int .i64 g], v]) ?_ rfl ⟨s, g, c, v, rfl, R2.out, E4.out.only qf2 B4.out (by decide), M1.out.ref B4.out qf2, F1.out.then_only qf2 (.inr (Nat.le_refl _))⟩
  simp [results, Tryz.results51, go_sem, q0, q1]
set_option maxHeartbeats 4000000 in
theorem memLoad_any (h : Mm w m k l x) (h0 : 0 ≤ k) (h1 : k ≤ 100000) (sl gn : Int) :
    Calls Tryz.prog 62 #[.pointer (some ⟨m, 0, none⟩), .agg #[.int .i64 sl, .int .i64 gn]] w fun e w' => ∃ R A c B d kk v, e = .returned (.tuple #[recV R (.slice A R.rows.length c) (.slice B R.ents.length d), v]) ∧ LoadR x.ss sl gn R kk ∧ Ev w' v sArena9 sl kk ∧ Mm w' m (k + 1) l x ∧ RecOwn w' w.heap.size R (.slice A R.rows.length c) (.slice B R.ents.length d) ∧ Fr (mall m x) w w' := by
  obtain ⟨w0, hw0⟩ : ∃ z, z = (w.alloc (.cells #[.int .i64 sl, .int .i64 gn] 23)).alloc (.cells recZ 33) := ⟨_, rfl⟩
  have f0 : Fr none_ w w0 := by rw [hw0]; exact ((Fr.refl none_ w).alloc _).alloc _
  have B0 := hid_ (show Blk w0 w.heap.size 23 #[.int .i64 sl, .int .i64 gn] by rw [hw0]; exact (Blk.new w _ _).alloc _)
  have B1 := hid_ (show Blk w0 (w.heap.size + 1) 33 recZ by rw [hw0]; have := Blk.new (w.alloc (.cells #[.int .i64 sl, .int .i64 gn] 23)) 33 recZ; rwa [World.size_alloc] at this)
  have H := hid_ (h.keep f0)
  have F0 := hid_ f0
  clear h f0
  go_enter Tryz.func62, Tryz.ntmps62
  go_upto_region 1 with fail
  change Code.wp _ _ _ _ ((w.alloc (.cells #[.int .i64 sl, .int .i64 gn] 23)).alloc (.cells recZ 33))
  rw [← hw0]
  clear hw0
  go_wp2_with fail
  refine (tick_mo m k l x _ H.out h0 h1).mono ?_
  rintro e w1 ⟨rfl, hM1, hf1⟩
  have M1 := hid_ hM1
  have B4 := hid_ (B0.out.fr hf1 (only_ne (Blk.ne_ B0.out H.out.b (by decide))))
  have B5 := hid_ (B1.out.fr hf1 (only_ne (Blk.ne_ B1.out H.out.b (by decide))))
  have FO : Hid (Fr (only m) w w1) := hid_ ((F0.out.mono (fun _ _ e => e.elim)).trans (S' := only m) (S'' := only m) hf1 (fun _ _ => id) (fun _ _ => id))
  have F1 : Hid (Fr (mall m x) w w1) := hid_ (mall_m FO.out)
  have hszw := FO.out.size
  clear hM1 hf1
  have c7 : w1.cell? ⟨m, 7, none⟩ = some (.pointer (some ⟨x.a, 0, none⟩)) := M1.out.b.cell' rfl
  have x0 : w1.cell? ⟨w.heap.size, 0, none⟩ = some (.int .i64 sl) := B4.out.cell' rfl
  have x1 : w1.cell? ⟨w.heap.size, 1, none⟩ = some (.int .i64 gn) := B4.out.cell' rfl
  go_upto_region 4 with fail
  go_cut [6, 7] (fun u v wq => ∃ (b : Nat) (R : Rc) (A : Option Addr) (c : Nat) (B : Option Addr) (d : Nat) (kk : Int), u = .pointer (some ⟨b, 0, none⟩) ∧ v = errOf kk ∧ w1.heap.size ≤ b ∧ Blk wq b 33 (recA R (.slice A R.rows.length c) (.slice B R.ents.length d)) ∧ LoadR x.ss sl gn R kk ∧ RecOwn wq w1.heap.size R (.slice A R.rows.length c) (.slice B R.ents.length d) ∧ Fr none_ w1 wq)
  case first =>
    have hS1 : (fun w' : World => Fr none_ w1 w') w1.drew := (Fr.refl none_ w1).drew
    refine wp_region_U (m := 12) (S := fun w' : World => Fr none_ w1 w') (by kernel_rfl) ?_
    refine wpAnyU_take2 (i := 0) (v := _) rfl (by kernel_rfl) (by kernel_rfl) (by kernel_rfl) (by kernel_rfl) (fun _ _ _ h => h) (.inl ⟨by kernel_rfl, fun w' hS => by go_simp; rfl⟩) hS1 ?_
    refine wpAnyU_take2 (i := 1) (v := _) rfl (by kernel_rfl) (by kernel_rfl) (by kernel_rfl) (by kernel_rfl) (fun _ _ _ h => h) (.inl ⟨by kernel_rfl, fun w' hS => by go_simp; rfl⟩) hS1 ?_
    refine wpAnyU_take2 (i := 2) (v := _) rfl (by kernel_rfl) (by kernel_rfl) (by kernel_rfl) (by kernel_rfl) (fun _ _ _ h => h) (.inl ⟨by kernel_rfl, fun w' hS => by go_simp; rfl⟩) hS1 ?_
    refine wpAnyU_take2 (i := 3) (v := _) rfl (by kernel_rfl) (by kernel_rfl) (by kernel_rfl) (by kernel_rfl) (fun _ _ _ h => h) (.inl ⟨by kernel_rfl, fun w' hS => by have s_ := cellFr c7 hS; go_simp; rfl⟩) hS1 ?_
    refine wpAnyU_take2 (i := 4) (v := _) rfl (by kernel_rfl) (by kernel_rfl) (by kernel_rfl) (by kernel_rfl) (fun _ _ _ h => h) (.inl ⟨by kernel_rfl, fun w' hS => by have s_0 := cellFr x0 hS; have s_1 := cellFr x1 hS; go_simp; rfl⟩) hS1 ?_
    clear c7 x0 x1
    refine wpAnyU_two (i := 5) (j := 9) rfl rfl rfl rfl (by kernel_rfl) ?_ ?_
    · go_simp
      refine (load_any sl gn (M1.out.ar.keep ((Fr.refl none_ w1).drew))).mono ?_
      rintro e w3 ⟨R, A, c, B, d, kk, rfl, hR, hO3, hf3⟩
      have R3 := hid_ hR
      have O3 := hid_ (hO3.base (b' := w1.heap.size) ((Fr.refl none_ w1).drew).size)
      have fS := ((Fr.refl none_ w1).drew).then_none hf3
      refine ⟨fS, ?_⟩
      clear hR hO3 hf3 hS1
      have hb : w1.heap.size ≤ w3.heap.size := fS.size
      refine wpAnyU_take2 (i := 6) (v := _) rfl (by kernel_rfl) (by kernel_rfl) (by kernel_rfl) (by kernel_rfl) (fun _ _ _ h => h) (.inl ⟨by kernel_rfl, fun w' hS => by go_simp; rfl⟩) fS ?_
      refine wpAnyU_take2 (i := 7) (v := _) rfl (by kernel_rfl) (by kernel_rfl) (by kernel_rfl) (by kernel_rfl) (fun _ _ _ h => h) (.inl ⟨by kernel_rfl, fun w' hS => by go_simp; rfl⟩) fS ?_
      refine wpAnyU_take2 (i := 8) (v := _) rfl (by kernel_rfl) (by kernel_rfl) (by kernel_rfl) (by kernel_rfl) (fun _ _ _ h => h) (.inl ⟨by kernel_rfl, fun w' hS => by go_simp; rfl⟩) fS ?_
      refine wpAnyU_oneW (i := 9) rfl (by kernel_rfl) (by kernel_rfl) ?_
      go_simp
      refine ⟨fS.alloc _, ?_⟩
      obtain ⟨w4, hw4⟩ : ∃ z, z = w3.alloc (.cells recZ 33) := ⟨_, rfl⟩
      have f4 : Fr none_ w3 w4 := by rw [hw4]; exact (Fr.refl none_ w3).alloc _
      have BA := hid_ (show Blk w4 w3.heap.size 33 recZ by rw [hw4]; exact Blk.new w3 _ _)
      replace O3 := hid_ (O3.out.keep f4)
      replace fS := fS.then_none f4
      change wpAnyU _ _ _ _ _ _ _ _ _ (w3.alloc (.cells recZ 33))
      rw [← hw4]
      clear hw4 f4
      refine wpAnyU_oneW (i := 10) rfl (by kernel_rfl) (by kernel_rfl) ?_
      refine wp_store_mid 33 (.tmp 6) (.tmp 23) rfl w3.heap.size 0 (recA R (.slice A R.rows.length c) (.slice B R.ents.length d)) rfl rfl (BA.out.there9 rfl) rec_size (by simp [Value.oneCell']) ?_
      obtain ⟨w5, hw5⟩ : ∃ z, z = w4.setCells (w3.heap.size) 0 (recA R (.slice A R.rows.length c) (.slice B R.ents.length d)).toList := ⟨_, rfl⟩
      have ov := BA.out.over9 (recA R (.slice A R.rows.length c) (.slice B R.ents.length d)).toList rfl
      rw [← hw5] at ov
      have fS5 := fS.then_only ov.2 (.inr hb)
      have O5 := hid_ (O3.out.only ov.2 BA.out (by decide) (by decide))
      have Q5 := hid_ (show Blk w5 (w3.heap.size) 33 (recA R (.slice A R.rows.length c) (.slice B R.ents.length d)) from ov.1)
      refine ⟨.inr (by rw [← hw5]; exact fS5), ?_⟩
      change wpAnyU _ _ _ _ _ _ _ _ _ (w4.setCells (w3.heap.size) 0 (recA R (.slice A R.rows.length c) (.slice B R.ents.length d)).toList)
      rw [← hw5]
      clear hw5 ov
      refine wpAnyU_take2 (i := 11) (v := _) rfl (by kernel_rfl) (by kernel_rfl) (by kernel_rfl) (by kernel_rfl) (fun _ _ _ h => h) (.inl ⟨by kernel_rfl, fun w' hS => by go_simp; rfl⟩) fS5 ?_
      refine wpAnyU_done (by kernel_rfl) ?_ _
      go_wp2_with fail
      go_meet
      exact ⟨_, R, A, c, B, d, kk, rfl, rfl, hb, Q5.out, R3.out, O5.out, fS5⟩
    · go_simp
      refine ⟨((Fr.refl none_ w1).alloc _).drew, ?_⟩
      obtain ⟨w2, hw2⟩ : ∃ z, z = (w1.alloc (.cells recZ 33)).drew := ⟨_, rfl⟩
      have f2 : Fr none_ w1 w2 := by rw [hw2]; exact ((Fr.refl none_ w1).alloc _).drew
      have BA := hid_ (show Blk w2 w1.heap.size 33 recZ by rw [hw2]; exact (Blk.new w1 _ _).drew)
      change wpAnyU _ _ _ _ _ _ _ _ _ ((w1.alloc (.cells recZ 33)).drew)
      rw [← hw2]
      clear hw2 hS1
      refine wpAnyU_oneW (i := 5) rfl (by kernel_rfl) (by kernel_rfl) ?_
      go_simp
      refine (load_any sl gn (M1.out.ar.keep (f2))).mono ?_
      rintro e w3 ⟨R, A, c, B, d, kk, rfl, hR, hO3, hf3⟩
      have R3 := hid_ hR
      have O3 := hid_ (hO3.base (b' := w1.heap.size) (f2).size)
      have fS := (f2).then_none hf3
      refine ⟨fS, ?_⟩
      have hb : w1.heap.size ≤ w1.heap.size := Nat.le_refl _
      replace BA := hid_ (BA.out.fr hf3 id)
      clear hR hO3 hf3 f2
      refine wpAnyU_take2 (i := 6) (v := _) rfl (by kernel_rfl) (by kernel_rfl) (by kernel_rfl) (by kernel_rfl) (fun _ _ _ h => h) (.inl ⟨by kernel_rfl, fun w' hS => by go_simp; rfl⟩) fS ?_
      refine wpAnyU_take2 (i := 7) (v := _) rfl (by kernel_rfl) (by kernel_rfl) (by kernel_rfl) (by kernel_rfl) (fun _ _ _ h => h) (.inl ⟨by kernel_rfl, fun w' hS => by go_simp; rfl⟩) fS ?_
      refine wpAnyU_take2 (i := 8) (v := _) rfl (by kernel_rfl) (by kernel_rfl) (by kernel_rfl) (by kernel_rfl) (fun _ _ _ h => h) (.inl ⟨by kernel_rfl, fun w' hS => by go_simp; rfl⟩) fS ?_
      refine wpAnyU_oneW (i := 10) rfl (by kernel_rfl) (by kernel_rfl) ?_
      refine wp_store_mid 33 (.tmp 6) (.tmp 23) rfl w1.heap.size 0 (recA R (.slice A R.rows.length c) (.slice B R.ents.length d)) rfl rfl (BA.out.there9 rfl) rec_size (by simp [Value.oneCell']) ?_
      obtain ⟨w5, hw5⟩ : ∃ z, z = w3.setCells (w1.heap.size) 0 (recA R (.slice A R.rows.length c) (.slice B R.ents.length d)).toList := ⟨_, rfl⟩
      have ov := BA.out.over9 (recA R (.slice A R.rows.length c) (.slice B R.ents.length d)).toList rfl
      rw [← hw5] at ov
      have fS5 := fS.then_only ov.2 (.inr hb)
      have O5 := hid_ (O3.out.only ov.2 BA.out (by decide) (by decide))
      have Q5 := hid_ (show Blk w5 (w1.heap.size) 33 (recA R (.slice A R.rows.length c) (.slice B R.ents.length d)) from ov.1)
      refine ⟨.inr (by rw [← hw5]; exact fS5), ?_⟩
      change wpAnyU _ _ _ _ _ _ _ _ _ (w3.setCells (w1.heap.size) 0 (recA R (.slice A R.rows.length c) (.slice B R.ents.length d)).toList)
      rw [← hw5]
      clear hw5 ov
      refine wpAnyU_take2 (i := 11) (v := _) rfl (by kernel_rfl) (by kernel_rfl) (by kernel_rfl) (by kernel_rfl) (fun _ _ _ h => h) (.inl ⟨by kernel_rfl, fun w' hS => by go_simp; rfl⟩) fS5 ?_
      refine wpAnyU_done (by kernel_rfl) ?_ _
      go_wp2_with fail
      go_meet
      exact ⟨_, R, A, c, B, d, kk, rfl, rfl, hb, Q5.out, R3.out, O5.out, fS5⟩
  case rest =>
    obtain ⟨b, R, A, c, B, d, kk, rfl, rfl, hb, hbb, hR, hO, hf⟩ := hcut
    have R6 := hid_ hR
    have M6 := hid_ (M1.out.keep hf)
    have O6 := hid_ hO
    have B6 := hid_ hbb
    have F6 := hid_ (F1.out.then_none hf)
    have B7 := hid_ (B5.out.fr hf id)
    have B8 := hid_ (B4.out.fr hf id)
    clear hO hbb hf hR
    go_upto_region 5 with fail
    have hS1 : (fun w' : World => Fr none_ wc w') wc.drew := (Fr.refl none_ wc).drew
    refine wp_region_U (m := 5) (S := fun w' : World => Fr none_ wc w') (by kernel_rfl) ?_
    refine wpAnyU_take2 (i := 0) (v := _) rfl (by kernel_rfl) (by kernel_rfl) (by kernel_rfl) (by kernel_rfl) (fun _ _ _ h => h) (.inl ⟨by kernel_rfl, fun w' hS => by have s_0 : w'.cell? ⟨b, 0, none⟩ = some (.int .i64 R.kind) := cellFr (B6.out.cell' rfl) hS; have s_1 : w'.cell? ⟨b, 1, none⟩ = some (.string R.low) := cellFr (B6.out.cell' rfl) hS; have s_2 : w'.cell? ⟨b, 2, none⟩ = some (.string R.high) := cellFr (B6.out.cell' rfl) hS; have s_3 : w'.cell? ⟨b, 3, none⟩ = some (.bool R.unb) := cellFr (B6.out.cell' rfl) hS; have s_4 : w'.cell? ⟨b, 4, none⟩ = some (.int .i64 R.right) := cellFr (B6.out.cell' rfl) hS; have s_5 : w'.cell? ⟨b, 5, none⟩ = some (.slice A R.rows.length c) := cellFr (B6.out.cell' rfl) hS; have s_6 : w'.cell? ⟨b, 6, none⟩ = some (.slice B R.ents.length d) := cellFr (B6.out.cell' rfl) hS; have s_7 : w'.cell? ⟨b, 7, none⟩ = some (.string R.key) := cellFr (B6.out.cell' rfl) hS; have s_8 : w'.cell? ⟨b, 8, none⟩ = some (.string R.val) := cellFr (B6.out.cell' rfl) hS; have s_9 : w'.cell? ⟨b, 9, none⟩ = some (.int .i64 R.page) := cellFr (B6.out.cell' rfl) hS; have s_10 : w'.cell? ⟨b, 10, none⟩ = some (.int .i64 R.hpage) := cellFr (B6.out.cell' rfl) hS; have s_11 : w'.cell? ⟨b, 11, none⟩ = some (.int .i64 R.hleft) := cellFr (B6.out.cell' rfl) hS; have s_12 : w'.cell? ⟨b, 12, none⟩ = some (.string R.hkey) := cellFr (B6.out.cell' rfl) hS; have s_13 : w'.cell? ⟨b, 13, none⟩ = some (.int .i64 R.nslot) := cellFr (B6.out.cell' rfl) hS; have s_14 : w'.cell? ⟨b, 14, none⟩ = some (.int .i64 R.ngen) := cellFr (B6.out.cell' rfl) hS; go_simp; rfl⟩) hS1 ?_
    refine wpAnyU_take2 (i := 1) (v := _) rfl (by kernel_rfl) (by kernel_rfl) (by kernel_rfl) (by kernel_rfl) (fun _ _ _ h => h) (.inl ⟨by kernel_rfl, fun w' hS => by go_simp; rfl⟩) hS1 ?_
    refine wpAnyU_take2 (i := 2) (v := _) rfl (by kernel_rfl) (by kernel_rfl) (by kernel_rfl) (by kernel_rfl) (fun _ _ _ h => h) (.inl ⟨by kernel_rfl, fun w' hS => by have s_ : w'.cell? ⟨w.heap.size, 0, none⟩ = some (.int .i64 sl) := cellFr (B8.out.cell' rfl) hS; go_simp; rfl⟩) hS1 ?_
    refine wpAnyU_take2 (i := 3) (v := _) rfl (by kernel_rfl) (by kernel_rfl) (by kernel_rfl) (by kernel_rfl) (fun _ _ _ h => h) (.inl ⟨by kernel_rfl, fun w' hS => by go_simp; rfl⟩) hS1 ?_
    refine wpAnyU_oneW (i := 4) rfl (by kernel_rfl) (by kernel_rfl) ?_
    go_simp
    refine (fat_ev sArena9 sl kk _).mono ?_
    rintro e w4 ⟨v, rfl, hev, hf4⟩
    have fS4 := hS1.then_none hf4
    refine ⟨fS4, ?_⟩
    have E4 := hid_ hev
    replace M6 := hid_ (M6.out.keep fS4)
    replace F6 := hid_ (F6.out.then_none fS4)
    replace B7 := hid_ (B7.out.fr fS4 id)
    replace O6 := hid_ (O6.out.keep fS4)
    clear hev hf4 fS4
    refine wpAnyU_oneW (i := 5) rfl (by kernel_rfl) (by kernel_rfl) ?_
    refine wp_store_mid 33 (.tmp 4) (.tmp 25) rfl (w.heap.size + 1) 0 (recA R (.slice A R.rows.length c) (.slice B R.ents.length d)) rfl rfl (B7.out.there9 rfl) rec_size (by simp [Value.oneCell']) ?_
    obtain ⟨w5, hw5⟩ : ∃ z, z = w4.setCells (w.heap.size + 1) 0 (recA R (.slice A R.rows.length c) (.slice B R.ents.length d)).toList := ⟨_, rfl⟩
    have ov := B7.out.over9 (recA R (.slice A R.rows.length c) (.slice B R.ents.length d)).toList rfl
    rw [← hw5] at ov
    have qb2 : Blk w5 (w.heap.size + 1) 33 (recA R (.slice A R.rows.length c) (.slice B R.ents.length d)) := ov.1
    have qf2 : Fr (only (w.heap.size + 1)) w4 w5 := ov.2
    refine ⟨.inl (by decide), ?_⟩
    change wpAnyU _ _ _ _ _ _ _ _ _ (w4.setCells (w.heap.size + 1) 0 (recA R (.slice A R.rows.length c) (.slice B R.ents.length d)).toList)
    rw [← hw5]
    clear hw5 ov hS1
    refine wpAnyU_oneW (i := 6) rfl (by kernel_rfl) (by kernel_rfl) ?_
    go_simp
    refine wpAnyU_done (by kernel_rfl) ?_ _
    go_wp2_with fail
    have q0 := qb2.cell' (i := 0) rfl
    have q1 := qb2.cell' (i := 1) rfl
    have q2 := qb2.cell' (i := 2) rfl
    have q3 := qb2.cell' (i := 3) rfl
    have q4 := qb2.cell' (i := 4) rfl
    have q5 := qb2.cell' (i := 5) rfl
    have q6 := qb2.cell' (i := 6) rfl
    have q7 := qb2.cell' (i := 7) rfl
    have q8 := qb2.cell' (i := 8) rfl
    have q9 := qb2.cell' (i := 9) rfl
    have q10 := qb2.cell' (i := 10) rfl
    have q11 := qb2.cell' (i := 11) rfl
    have q12 := qb2.cell' (i := 12) rfl
    have q13 := qb2.cell' (i := 13) rfl
    have q14 := qb2.cell' (i := 14) rfl
    refine bodyPost_ret (v := .tuple #[recV R (.slice A R.rows.length c) (.slice B R.ents.length d), v]) ?_ rfl ⟨R, A, c, B, d, kk, v, rfl, R6.out, E4.out.only qf2 B7.out (by decide), M6.out.rec9 B7.out qf2, (O6.out.only qf2 B7.out (by decide) (by decide)).base hszw, F6.out.then_only qf2 (.inr (by omega))⟩
    simp [results, Tryz.results62, go_sem, q0, q1, q2, q3, q4, q5, q6, q7, q8, q9, q10, q11, q12, q13, q14]
end
end Go.Proofs.YtfihfjbakfadkaaGreatDoor
namespace Go.Proofs.YtfihfjbakfadkaaGreatDoor
open Go.RowKit Go.BigFrame
set_option maxRecDepth 100000
set_option linter.unusedVariables false

/-- What a loader holds. -/
structure LdS where
  n : Int
  begun : Bool
  over : Bool
  hs : Int
  hg : Int
  ns : Int
  ng : Int
  A : Option Addr
  c : Nat
  L : List Cr
  B : Option Addr
  e : Nat
  refs : List (Int × Int)
  ve : Value
abbrev ldA (s : LdS) : Array Value := #[.int .i64 s.n, .bool s.begun, .bool s.over, .int .i64 s.hs, .int .i64 s.hg, .int .i64 s.ns, .int .i64 s.ng, .slice s.A s.L.length s.c, .slice s.B s.refs.length s.e, s.ve]
abbrev LdS.new (n : Int) : LdS := ⟨n, false, false, 0, 0, 0, 0, none, 0, [], none, 0, [], .nilIface⟩
structure Ldr (b0 : Nat) (w : World) (g : Nat) (s : LdS) : Prop where
  b : Blk w g 137 (ldA s)
  lb : b0 ≤ g
  l : w.ownsRow b0 33 15 (.slice s.A s.L.length s.c) s.L.length (crFlat s.L)
  r : w.ownsRow b0 23 2 (.slice s.B s.refs.length s.e) s.refs.length (rf9Flat s.refs)
  own : ∀ C ∈ s.L, RecOwn w b0 C.R (.slice C.A C.R.rows.length C.c) (.slice C.B C.R.ents.length C.d)
theorem Ldr.fr {b0 g : Nat} {w w' : World} {s : LdS} {S : Nat → Prop} (h : Ldr b0 w g s) (hf : Fr S w w') (hS : ∀ i, S i → i < b0) : Ldr b0 w' g s :=
  ⟨h.b.fr hf (fun e => by have := hS g e; have := h.lb; omega), h.lb,
   own_fr h.l hf (fun k hk e => by have := hS k e; have := (h.l.lt k hk).1; omega),
   own_fr h.r hf (fun k hk e => by have := hS k e; have := (h.r.lt k hk).1; omega),
   fun C hC => (h.own C hC).fr hf (fun k hk e => by have := hS k e; have := ((h.own C hC).r.lt k hk).1; omega) (fun k hk e => by have := hS k e; have := ((h.own C hC).e.lt k hk).1; omega)⟩
theorem Ldr.keep {b0 g : Nat} {w w' : World} {s : LdS} (h : Ldr b0 w g s) (hf : Fr none_ w w') : Ldr b0 w' g s := h.fr hf (fun _ e => e.elim)
/-- The loader's own block alone was turned. -/
theorem Ldr.upd {b0 g : Nat} {w w' : World} {s s' : LdS} (h : Ldr b0 w g s) (hb : Blk w' g 137 (ldA s')) (hf : Fr (only g) w w') (e : (s'.A, s'.c, s'.L, s'.B, s'.e, s'.refs) = (s.A, s.c, s.L, s.B, s.e, s.refs)) : Ldr b0 w' g s' := by
  obtain ⟨n', bg', ov', hs', hg', ns', ng', A', c', L', B', e', refs', ve'⟩ := s'
  obtain ⟨n, bg, ov, hs, hg, ns, ng, A, c, L, B, e0, refs, ve⟩ := s
  simp only [Prod.mk.injEq] at e
  obtain ⟨rfl, rfl, rfl, rfl, rfl, rfl⟩ := e
  have hl := h.l
  have hr := h.r
  have ho := h.own
  exact ⟨hb, h.lb, own_fr hl hf (fun k hk e => own_blk_ne hl h.b (by decide) (by rw [hk, show k = g from e])), own_fr hr hf (fun k hk e => own_blk_ne hr h.b (by decide) (by rw [hk, show k = g from e])), fun C hC => (ho C hC).only hf h.b (by decide) (by decide)⟩
/-- A loader's block was turned: a memory is as it was. -/
theorem Mm.ldr {w w' : World} {m : Nat} {k : Int} {l : Lm} {x : St} {b : Nat} {cs : Array Value} (h : Mm w m k l x) (hb : Blk w b 137 cs) (hf : Fr (only b) w w') : Mm w' m k l x := by
  obtain ⟨cs', hG, _⟩ := h.ar.hG
  obtain ⟨cap, cur, hT0, hH, _⟩ := id h.tb
  exact ⟨h.b.fr hf (only_ne (Blk.ne_ h.b hb (by decide))), h.ar.beside hf hb (by decide) (by decide) (Blk.ne_ h.ar.hA hb (by decide)) (Blk.ne_ hG hb (by decide)), h.tb.fr hf (only_ne (Blk.ne_ hT0 hb (by decide))) (only_ne (Blk.ne_ hH hb (by decide))), h.ck.fr hf (only_ne (Blk.ne_ h.ck.hC hb (by decide))) (only_ne (h.ck.mne hb))⟩
/-- An own row of records, or of refs, has grown: a memory is as it was. -/
theorem Mm.grown {w w' : World} {m : Nat} {k : Int} {l : Lm} {x : St} {base size n : Nat} {e : TypeId} {v : Value} {xs : List Value} (h : Mm w m k l x) (ho : w.ownsRow base e size v n xs) (he : e = 33 ∨ e = 23) (hg : w.grownBy w' v.ownBlock) : Mm w' m k l x := by
  obtain ⟨cs', hG, hc⟩ := h.ar.hG
  obtain ⟨cap, cur, hT0, hH, _⟩ := id h.tb
  have hf : Fr (fun b => v.ownBlock = some b) w w' := Fr.grown (Fr.refl _ _) hg (fun k hk => .inl hk)
  have hM : ¬ v.ownBlock = some x.M := by
    rcases ho.2 with ⟨rfl, _⟩ | ⟨g', cap, cur, rfl, _, hh, _⟩
    · simp [Value.ownBlock]
    · intro e'
      have e2 : g' = x.M := by simpa [Value.ownBlock] using e'
      exact h.ck.mne (show Blk w g' e _ from hh) e2.symm
  have n1 : e ≠ 117 := by rcases he with rfl | rfl <;> decide
  have n2 : e ≠ 179 := by rcases he with rfl | rfl <;> decide
  have n3 : e ≠ 188 := by rcases he with rfl | rfl <;> decide
  have n4 : 143 ≠ e := by rcases he with rfl | rfl <;> decide
  have n5 : 59 ≠ e := by rcases he with rfl | rfl <;> decide
  exact ⟨h.b.fr hf (own_blk_ne ho h.b n1), ⟨h.ar.hA.fr hf (own_blk_ne ho h.ar.hA n2), ⟨cs', hG.fr hf (own_blk_ne ho hG n3), hc⟩, fun i s hs => (h.ar.own i s hs).grown ho n4 n5 hg, h.ar.l40, h.ar.len, h.ar.gen, h.ar.sz⟩,
    h.tb.fr hf (own_blk_ne ho hT0 (by rcases he with rfl | rfl <;> decide)) (own_blk_ne ho hH (by rcases he with rfl | rfl <;> decide)), h.ck.fr hf (own_blk_ne ho h.ck.hC (by rcases he with rfl | rfl <;> decide)) hM⟩
/-- What an access of a memory turns, and what a loader turns. -/
def lall (m : Nat) (x : St) (b0 : Nat) : Nat → Prop := fun i => mall m x i ∨ b0 ≤ i
theorem ldBegin_ok (n : Int) (w : World) : Calls Tryz.prog 24 #[.int .i64 n] w fun e w' => e = .returned (.pointer (some ⟨w.heap.size, 0, none⟩)) ∧ Ldr w.heap.size w' w.heap.size (LdS.new n) ∧ Fr none_ w w' := by
  go_enter Tryz.func24, Tryz.ntmps24
  go_wp2
  go_ret
  exact ⟨rfl, ⟨Blk.new w _ _, Nat.le_refl _, World.ownsRow_nil _ _ _ _, World.ownsRow_nil _ _ _ _, fun C hC => by cases hC⟩, (Fr.refl none_ w).alloc _⟩
theorem ldOver_ok {b0 g : Nat} {w : World} {s : LdS} (h : Ldr b0 w g s) : Calls Tryz.prog 27 #[.pointer (some ⟨g, 0, none⟩)] w fun e w' => e = .returned (.bool s.over) ∧ w = w' := by
  have c2 : w.cell? ⟨g, 2, none⟩ = some (.bool s.over) := h.b.cell' rfl
  clear h
  go_enter Tryz.func27, Tryz.ntmps27
  go_wp2
  go_ret
  exact ⟨rfl, rfl⟩
theorem ldStop_ok {b0 g : Nat} {w : World} {s : LdS} (v : Value) (hv : v = .nilIface ∨ ∃ t u, v = .iface t u) (h : Ldr b0 w g s) : Calls Tryz.prog 61 #[.pointer (some ⟨g, 0, none⟩), v] w fun e w' => e = .returned (.bool true) ∧ Ldr b0 w' g { s with over := true, ve := v } ∧ Fr (only g) w w' := by
  have H := hid_ h
  have c2 : w.cell? ⟨g, 2, none⟩ = some (.bool s.over) := h.b.cell' rfl
  have c9 : w.cell? ⟨g, 9, none⟩ = some s.ve := h.b.cell' rfl
  have y2 := h.b.frozen 2
  have y9 := h.b.frozen 9
  have hs0 := h.b.lt
  clear h
  go_enter Tryz.func61, Tryz.ntmps61
  rcases hv with rfl | ⟨t, u, rfl⟩
  · go_wp2
    go_ret
    have b1 := (H.out.b.set_ 2 (.bool true)).set_ 9 .nilIface
    have f1 : Fr (only g) w ((w.setCell ⟨g, 2, none⟩ (.bool true)).setCell ⟨g, 9, none⟩ .nilIface) := Fr.setCell (p := ⟨g, 9, none⟩) (Fr.only1 w ⟨g, 2, none⟩ _) (.inl rfl) _
    exact ⟨rfl, H.out.upd b1 f1 rfl, f1⟩
  · go_wp2
    go_ret
    have b1 := (H.out.b.set_ 2 (.bool true)).set_ 9 (.iface t u)
    have f1 : Fr (only g) w ((w.setCell ⟨g, 2, none⟩ (.bool true)).setCell ⟨g, 9, none⟩ (.iface t u)) := Fr.setCell (p := ⟨g, 9, none⟩) (Fr.only1 w ⟨g, 2, none⟩ _) (.inl rfl) _
    exact ⟨rfl, H.out.upd b1 f1 rfl, f1⟩
end Go.Proofs.YtfihfjbakfadkaaGreatDoor
namespace Go.Proofs.YtfihfjbakfadkaaGreatDoor
open Go.RowKit Go.BigFrame
set_option maxRecDepth 100000
set_option linter.unusedVariables false

/-- What a loader's step turns: the memory's, its own block, and the blocks of its rows. -/
def lown (m : Nat) (x : St) (g : Nat) (s : LdS) : Nat → Prop := fun i => mall m x i ∨ i = g ∨ (Value.slice s.A s.L.length s.c).ownBlock = some i ∨ (Value.slice s.B s.refs.length s.e).ownBlock = some i
theorem Ldr.lall {b0 g m : Nat} {w : World} {s : LdS} {x : St} (h : Ldr b0 w g s) (i : Nat) (e : lown m x g s i) : Go.Proofs.YtfihfjbakfadkaaGreatDoor.lall m x b0 i := by
  rcases e with e | e | e | e
  · exact .inl e
  · exact .inr (by rw [e]; exact h.lb)
  · exact .inr (h.l.lt i e).1
  · exact .inr (h.r.lt i e).1
/-- What Step's first access tells, and just what it turns. -/
def LdFirstO (b0 g m : Nat) (k : Int) (l : Lm) (x : St) (s : LdS) (w : World) (e : Ending) (w' : World) : Prop :=
  ∃ (a b c : Int) (v : Value), HeadR x.ps s.n a b c ∧ Ev w' v sTable9 s.n c ∧ Mm w' m (k + 1) l x ∧ Fr (lown m x g s) w w' ∧
    ((c ≠ 0 ∧ e = .returned (.bool true) ∧ Ldr b0 w' g { s with over := true, ve := v }) ∨
     (c = 0 ∧ a = 0 ∧ b = 0 ∧ e = .returned (.bool true) ∧ Ldr b0 w' g { s with over := true, ve := errV 10 }) ∨
     (c = 0 ∧ ¬ (a = 0 ∧ b = 0) ∧ e = .returned (.bool false) ∧ Ldr b0 w' g { s with begun := true, hs := a, hg := b, ns := a, ng := b }))
set_option maxHeartbeats 4000000 in
theorem step_firstO {b0 g m : Nat} {k : Int} {l : Lm} {x : St} {w : World} {s : LdS} (h : Ldr b0 w g s) (hm : Mm w m k l x) (hb : ∀ i, mall m x i → i < b0) (h0 : 0 ≤ k) (h1 : k ≤ 100000) (ho : s.over = false) (hg : s.begun = false) :
    Calls Tryz.prog 28 #[.pointer (some ⟨g, 0, none⟩), .pointer (some ⟨m, 0, none⟩)] w (LdFirstO b0 g m k l x s w) := by
  have H := hid_ h
  have HM := hid_ hm
  have HB := hid_ hb
  have HO := hid_ ho
  have c1 : w.cell? ⟨g, 1, none⟩ = some (.bool false) := by rw [← hg]; exact h.b.cell' rfl
  have c0 : w.cell? ⟨g, 0, none⟩ = some (.int .i64 s.n) := h.b.cell' rfl
  have hsg := h.b.lt
  have HG := hid_ hg
  clear h hm hb ho hg
  go_enter Tryz.func28, Tryz.ntmps28
  go_wp2_with fail
  refine (ldOver_ok H.out).mono ?_
  rintro e w' ⟨rfl, rfl⟩
  rw [HO.out]
  go_wp2_with fail
  refine (memHead_any m k l x _ HM.out h0 h1 s.n).mono ?_
  rintro e w1 ⟨a, b, c, v, rfl, hhd, hev, hmm, hf1⟩
  have HD := hid_ hhd
  have EV := hid_ hev
  replace H := hid_ (H.out.fr hf1 HB.out)
  replace HM := hid_ hmm
  have F1 := hid_ (hf1.mono (S' := lown m x g s) (fun i _ e => .inl e))
  have hsz1 := hf1.size
  clear hhd hev hmm hf1 c0 c1
  go_upto_region 5 with fail
  obtain ⟨w2, hw2⟩ : ∃ z, z = w1.alloc (.cells #[.int .i64 a, .int .i64 b] 23) := ⟨_, rfl⟩
  have f2 : Fr none_ w1 w2 := by rw [hw2]; exact (Fr.refl none_ w1).alloc _
  have BR : Hid (Blk w2 w1.heap.size 23 #[.int .i64 a, .int .i64 b]) := hid_ (by rw [hw2]; exact Blk.new w1 _ _)
  change Code.wp _ _ _ _ (w1.alloc (.cells #[.int .i64 a, .int .i64 b] 23))
  rw [← hw2]
  clear hw2
  replace H := hid_ (H.out.keep f2)
  replace HM := hid_ (HM.out.keep f2)
  replace EV := hid_ (EV.out.keep f2)
  replace F1 := hid_ (F1.out.then_none f2)
  clear f2
  have hlb := H.out.lb
  have r0 : w2.cell? ⟨w1.heap.size, 0, none⟩ = some (.int .i64 a) := BR.out.cell' rfl
  have r1 : w2.cell? ⟨w1.heap.size, 1, none⟩ = some (.int .i64 b) := BR.out.cell' rfl
  have hgl : g < w1.heap.size := by omega
  have hq := eql_ref
  rcases EV.out with ⟨hc, rfl⟩ | ⟨hc, q, rfl, -⟩
  · have HC := hid_ hc
    clear hc
    by_cases hz : a = 0 ∧ b = 0
    · obtain ⟨rfl, rfl⟩ := hz
      go_wp2_with fail
      refine (ldStop_ok (errV 10) (.inr ⟨_, _, rfl⟩) H.out).mono ?_
      rintro e w3 ⟨rfl, hl3, hf3⟩
      go_wp2_with fail
      go_ret
      exact ⟨0, 0, c, .nilIface, HD.out, .inl ⟨HC.out, rfl⟩, HM.out.ldr H.out.b hf3, F1.out.then_only hf3 (.inl (.inr (.inl rfl))), .inr (.inl ⟨HC.out, rfl, rfl, rfl, hl3⟩)⟩
    · have hd : (a == 0 && b == 0) = false := by
        simp only [Bool.and_eq_false_iff, beq_eq_false_iff_ne]
        omega
      have HZ := hid_ hz
      clear hz
      have y1 := H.out.b.frozen 1
      have y3 := H.out.b.frozen 3
      have y4 := H.out.b.frozen 4
      have y5 := H.out.b.frozen 5
      have y6 := H.out.b.frozen 6
      have hsg2 := H.out.b.lt
      have g1 : w2.cell? ⟨g, 1, none⟩ = some (.bool s.begun) := H.out.b.cell' rfl
      have g3 : w2.cell? ⟨g, 3, none⟩ = some (.int .i64 s.hs) := H.out.b.cell' rfl
      have g4 : w2.cell? ⟨g, 4, none⟩ = some (.int .i64 s.hg) := H.out.b.cell' rfl
      have g5 : w2.cell? ⟨g, 5, none⟩ = some (.int .i64 s.ns) := H.out.b.cell' rfl
      have g6 : w2.cell? ⟨g, 6, none⟩ = some (.int .i64 s.ng) := H.out.b.cell' rfl
      go_wp2_with fail
      go_region
      have b3 := (((((H.out.b.set_ 1 (.bool true)).set_ 3 (.int .i64 a)).set_ 4 (.int .i64 b)).set_ 5 (.int .i64 a)).set_ 6 (.int .i64 b)).drew
      have f3 := (Fr.setCell (p := ⟨g, 6, none⟩) (Fr.setCell (p := ⟨g, 5, none⟩) (Fr.setCell (p := ⟨g, 4, none⟩) (Fr.setCell (p := ⟨g, 3, none⟩) (Fr.only1 w2 ⟨g, 1, none⟩ (.bool true)) (.inl rfl) (.int .i64 a)) (.inl rfl) (.int .i64 b)) (.inl rfl) (.int .i64 a)) (.inl rfl) (.int .i64 b)).drew
      obtain ⟨w3, hw3⟩ : ∃ z, z = (((((w2.setCell ⟨g, 1, none⟩ (.bool true)).setCell ⟨g, 3, none⟩ (.int .i64 a)).setCell ⟨g, 4, none⟩ (.int .i64 b)).setCell ⟨g, 5, none⟩ (.int .i64 a)).setCell ⟨g, 6, none⟩ (.int .i64 b)).drew := ⟨_, rfl⟩
      rw [← hw3] at b3 f3 ⊢
      clear hw3
      have L3 : Hid (Ldr b0 w3 g { s with begun := true, hs := a, hg := b, ns := a, ng := b }) := hid_ (H.out.upd b3 f3 rfl)
      replace HM := hid_ (HM.out.ldr H.out.b f3)
      replace F1 := hid_ (F1.out.then_only f3 (.inl (.inr (.inl rfl))))
      clear b3 f3 g1 g3 g4 g5 g6 y1 y3 y4 y5 y6 r0 r1 hq hd
      go_wp2_with fail
      go_ret
      exact ⟨a, b, c, .nilIface, HD.out, .inl ⟨HC.out, rfl⟩, HM.out, F1.out, .inr (.inr ⟨HC.out, HZ.out, rfl, L3.out⟩)⟩
  · have HC := hid_ hc
    have EQ := hid_ EV.out
    clear hc
    go_wp2_with fail
    refine (ldStop_ok (.iface 239 (.pointer (some ⟨q, 0, none⟩))) (.inr ⟨_, _, rfl⟩) H.out).mono ?_
    rintro e w3 ⟨rfl, hl3, hf3⟩
    go_wp2_with fail
    go_ret
    exact ⟨a, b, c, _, HD.out, EQ.out.only hf3 H.out.b (by decide), HM.out.ldr H.out.b hf3, F1.out.then_only hf3 (.inl (.inr (.inl rfl))), .inl ⟨HC.out, rfl, hl3⟩⟩
/-- What Step's first access tells. -/
def LdFirst (b0 g m : Nat) (k : Int) (l : Lm) (x : St) (s : LdS) (w : World) (e : Ending) (w' : World) : Prop :=
  ∃ (a b c : Int) (v : Value), HeadR x.ps s.n a b c ∧ Ev w' v sTable9 s.n c ∧ Mm w' m (k + 1) l x ∧ Fr (lall m x b0) w w' ∧
    ((c ≠ 0 ∧ e = .returned (.bool true) ∧ Ldr b0 w' g { s with over := true, ve := v }) ∨
     (c = 0 ∧ a = 0 ∧ b = 0 ∧ e = .returned (.bool true) ∧ Ldr b0 w' g { s with over := true, ve := errV 10 }) ∨
     (c = 0 ∧ ¬ (a = 0 ∧ b = 0) ∧ e = .returned (.bool false) ∧ Ldr b0 w' g { s with begun := true, hs := a, hg := b, ns := a, ng := b }))
theorem step_first {b0 g m : Nat} {k : Int} {l : Lm} {x : St} {w : World} {s : LdS} (h : Ldr b0 w g s) (hm : Mm w m k l x) (hb : ∀ i, mall m x i → i < b0) (h0 : 0 ≤ k) (h1 : k ≤ 100000) (ho : s.over = false) (hg : s.begun = false) :
    Calls Tryz.prog 28 #[.pointer (some ⟨g, 0, none⟩), .pointer (some ⟨m, 0, none⟩)] w (LdFirst b0 g m k l x s w) := (step_firstO h hm hb h0 h1 ho hg).mono fun e w' hh => by
  obtain ⟨a, b, c, v, h1, h2, h3, h4, h5⟩ := hh
  exact ⟨a, b, c, v, h1, h2, h3, h4.mono (fun i _ e => h.lall i e), h5⟩
end Go.Proofs.YtfihfjbakfadkaaGreatDoor
namespace Go.Proofs.YtfihfjbakfadkaaGreatDoor
open Go.RowKit
open Go
set_option linter.unusedVariables false
section
variable {P : Program} {md : Region.Mode} {ops : Array Oper} {Q : Exit → Act → World → Prop} {S : World → Prop}
/-- As wpAnyU, but that each operation ahead of the tail keeps S. -/
def wpAnyV (P : Program) (md : Region.Mode) (ops : Array Oper) (Q : Exit → Act → World → Prop) (S : World → Prop) (m : Nat) : Nat → Array Bool → Act → World → Prop
  | 0, listed, a, w => Region.ready md ops listed = [] ∧ Q .normal a w
  | fuel + 1, listed, a, w =>
    (Region.ready md ops listed = [] → Q .normal a w) ∧
    ∀ i ∈ Region.ready md ops listed, wpOp P ops Q i (fun a' w' => (m ≤ i ∨ (S w → S w')) ∧ wpAnyV P md ops Q S m fuel (listed.setIfInBounds i true) a' w') a w
theorem wpAny_of_V {m : Nat} : ∀ (fuel : Nat) (listed : Array Bool) (a : Act) (w : World), wpAnyV P md ops Q S m fuel listed a w → wpAny P md ops Q fuel listed a w
  | 0, _, _, _, h => h
  | fuel + 1, _, _, _, h => ⟨h.1, fun i hi => wpOp_mono (fun a' w' h' => wpAny_of_V fuel _ a' w' h'.2) (h.2 i hi)⟩
theorem wpAnyV_of_U {m : Nat} : ∀ (fuel : Nat) (listed : Array Bool) (a : Act) (w : World), wpAnyU P md ops Q S m fuel listed a w → wpAnyV P md ops Q S m fuel listed a w
  | 0, _, _, _, h => h
  | fuel + 1, _, _, _, h => ⟨h.1, fun i hi => wpOp_mono (fun a' w' h' => ⟨h'.1.imp_right (fun hs _ => hs), wpAnyV_of_U fuel _ a' w' h'.2⟩) (h.2 i hi)⟩
theorem wpAnyV_pure {m i : Nat} {oi : Oper} {v : Value} (hi : ops[i]? = some oi) (hsel : ∀ (j : Nat) (o : Oper) cs b, ops[j]? = some o → o.op ≠ .select cs b)
    (hQ : ∀ c a w, Q (.panic c) (a.put oi.dst v) w → Q (.panic c) a w) :
    ∀ (fuel : Nat) (listed : Array Bool) (a : Act) (w : World),
      (∀ j oj, ops[j]? = some oj → j ≠ i → listed.getD j true = false → (∀ e ∈ oj.after, Region.binds md e = true → e.on ≠ i) → oi.apart ops oj = true) →
      i ∈ Region.ready md ops listed → YieldsIf P ops (fun _ => True) oi v a →
      wpAnyV P md ops Q S m fuel (listed.setIfInBounds i true) (a.put oi.dst v) w → wpAnyV P md ops Q S m (fuel + 1) listed a w := by
  intro fuel
  induction fuel with
  | zero =>
    intro listed a w _ hr hy H
    refine ⟨fun h => (by rw [h] at hr; cases hr), fun j hj => ?_⟩
    by_cases hji : j = i
    · subst hji; exact hy.wpOp hi trivial ⟨.inr id, H⟩
    · have := ready_mono hj hji
      rw [H.1] at this
      cases this
  | succ fuel ih =>
    intro listed a w hfree hr hy H
    refine ⟨fun h => (by rw [h] at hr; cases hr), fun j hj => ?_⟩
    by_cases hji : j = i
    · subst hji; exact hy.wpOp hi trivial ⟨.inr id, H⟩
    · have h1 := H.2 j (ready_mono hj hji)
      obtain ⟨hjun, oj, hoj, hall⟩ := mem_ready.1 hj
      have hnot : ∀ e ∈ oj.after, Region.binds md e = true → e.on ≠ i := fun e he hb heq => by
        have h1 := hall e he hb
        have h0 := (mem_ready.1 hr).1
        rw [heq] at h1
        rcases Nat.lt_or_ge i listed.size with h' | h'
        · simp [h'] at h0 h1; rw [h0] at h1; cases h1
        · simp [Array.getElem?_eq_none h'] at h1
      have h2 := wpOp_putIf hoj (hfree j oj hoj hji hjun hnot) (fun cs b => hsel i oi cs b hi) (fun cs b => hsel j oj cs b hoj) hQ hy h1
      have hfree' : ∀ k ok, ops[k]? = some ok → k ≠ i → (listed.setIfInBounds j true).getD k true = false →
          (∀ e ∈ ok.after, Region.binds md e = true → e.on ≠ i) → oi.apart ops ok = true := fun k ok hk hki hun hno => by
        refine hfree k ok hk hki ?_ hno
        by_cases hjk : j = k
        · subst hjk; exact hjun
        · rw [getD_set_ne true hjk] at hun; exact hun
      refine wpOp_mono (fun a' w' h3 => ?_) h2
      refine ⟨h3.2.1, ih (listed.setIfInBounds j true) a' w' hfree' (ready_mono hr (Ne.symm hji)) h3.1 ?_⟩
      rw [Array.setIfInBounds_comm _ _ hji]
      exact h3.2.2
/-- A region that draws, of which one operation reads no memory and is taken first. -/
theorem wp_region_u1 (m : Nat) (S : World → Prop) (i n : Nat) (d : Option Tmp) (v : Value) {id : Nat} {oi : Oper} {a : Act} {w : World} (hm : P.follows .mixedOrders = true) (hn : ops.size = n + 1) (hi : ops[i]? = some oi) (hd : oi.dst = d)
    (hs : Region.noSelect ops = true) (hf : Region.free .any ops (Array.replicate ops.size false) i = true) (hr : (Region.ready .any ops (Array.replicate ops.size false)).contains i = true)
    (hQ : ∀ c a w, Q (.panic c) (a.put oi.dst v) w → Q (.panic c) a w) (hy : YieldsIf P ops (fun _ => True) oi v a)
    (h : UwA P .any ops Q S m n ((Array.replicate ops.size false).setIfInBounds i true) (a.put d v) w.drew) : (Code.region id ops true).wp P Q a w := by
  subst hd
  refine wp_region_any hm (wpAny_of_V (S := S) (m := m) _ _ _ _ ?_)
  rw [show ops.size = n + 1 from hn]
  rw [show ops.size = n + 1 from hn] at hf hr h
  exact wpAnyV_pure hi (Region.noSelect_spec hs) hQ n _ _ _ (Region.free_spec hi hf) (by simpa using hr) hy (wpAnyV_of_U _ _ _ _ h.h)
variable {oi : Oper} {a : Act} {w : World}
theorem wp_knownD {K : Act → World → Prop} (d : Option Tmp) (hd : oi.dst = d) (v : Value) (w2 : World) (hx : (execOp a.eval oi).run P w = .ok (.value v) w2) (h : K (a.put d v) w2) : Oper.wp P oi a w K Q := by
  subst hd
  unfold Oper.wp
  rw [hx, Oper.upon_value]
  exact h
/-- What the operation yields, at its slot. -/
theorem wp_dst {K : Act → World → Prop} (d : Option Tmp) (hd : oi.dst = d) (h : oi.dst = d → Oper.wp P oi a w K Q) : Oper.wp P oi a w K Q := h hd
end
end Go.Proofs.YtfihfjbakfadkaaGreatDoor
namespace Go.Proofs.YtfihfjbakfadkaaGreatDoor
open Go.RowKit Go.BigFrame
set_option maxRecDepth 100000
set_option linter.unusedVariables false

theorem lim_size9 : (Tryz.prog.info? 67).map (·.size) = some 6 := by kernel_rfl
theorem memLimits_ok {m : Nat} {k : Int} {l : Lm} {x : St} (w : World) (h : Mm w m k l x) : Calls Tryz.prog 63 #[.pointer (some ⟨m, 0, none⟩)] w fun e w' => e = .returned (.agg (lmA l)) ∧ Fr none_ w w' := by
  obtain ⟨w0, hw0⟩ : ∃ z, z = w.alloc (.cells #[.int .i64 0, .int .i64 0, .int .i64 0, .int .i64 0, .int .i64 0, .int .i64 0] 67) := ⟨_, rfl⟩
  have f0 : Fr none_ w w0 := by rw [hw0]; exact (Fr.refl none_ w).alloc _
  have BZ : Hid (Blk w0 w.heap.size 67 #[.int .i64 0, .int .i64 0, .int .i64 0, .int .i64 0, .int .i64 0, .int .i64 0]) := hid_ (by rw [hw0]; exact Blk.new w _ _)
  have h2 := h.b.fr f0 id
  have F0 := hid_ f0
  have c1 : w0.cell? ⟨m, 1, none⟩ = some (.int .i64 (l.s : Int)) := h2.cell' rfl
  have c2 : w0.cell? ⟨m, 2, none⟩ = some (.int .i64 (l.p : Int)) := h2.cell' rfl
  have c3 : w0.cell? ⟨m, 3, none⟩ = some (.int .i64 l.t) := h2.cell' rfl
  have c4 : w0.cell? ⟨m, 4, none⟩ = some (.int .i64 l.r) := h2.cell' rfl
  have c5 : w0.cell? ⟨m, 5, none⟩ = some (.int .i64 l.c) := h2.cell' rfl
  have c6 : w0.cell? ⟨m, 6, none⟩ = some (.int .i64 l.n) := h2.cell' rfl
  clear h h2 f0
  go_enter Tryz.func63, Tryz.ntmps63
  go_upto_region 1 with fail
  change Code.wp _ _ _ _ (w.alloc (.cells #[.int .i64 0, .int .i64 0, .int .i64 0, .int .i64 0, .int .i64 0, .int .i64 0] 67))
  rw [← hw0]
  clear hw0
  go_wp2_with (refine wpList_store_mid rfl 67 (.tmp 2) (.tmp 9) rfl w.heap.size 0 (lmA l) rfl rfl (BZ.out.there9 rfl) lim_size9 (by simp [Value.oneCell']) ?_; have ov := BZ.out.over9 (lmA l).toList rfl; obtain ⟨w9, hw9⟩ : ∃ z, z = w0.setCells w.heap.size 0 (lmA l).toList := ⟨_, rfl⟩; rw [← hw9] at ov; change wpList _ _ _ _ _ (w0.setCells w.heap.size 0 (lmA l).toList); rw [← hw9]; have OV := hid_ ov; clear hw9 ov)
  exact bodyPost_ret (results_cell7 _ _ rfl w.heap.size 0 (lmA l).toList _ rfl (Blk.range7 (l := (lmA l).toList) OV.out.1) Tryz.underlying67 rfl lim_size9) rfl ⟨rfl, F0.out.then_only OV.out.2 (.inr (Nat.le_refl _))⟩
theorem ld_range5 {w : World} {g : Nat} {s : LdS} (h : Blk w g 137 (ldA s)) : w.rangeAt g 5 [.int .i64 s.ns, .int .i64 s.ng] := fun j v hv => by
  match j, hv with
  | 0, hv => have e : some _ = some v := hv; rw [← e]; exact h.cell' rfl
  | 1, hv => have e : some _ = some v := hv; rw [← e]; exact h.cell' rfl
  | k + 2, hv => simp at hv
theorem ref_size9 : (Tryz.prog.info? 23).map (·.size) = some 2 := by kernel_rfl
/-- Within a step: a loader whose rows grow. -/
structure LdW (b0 g b m : Nat) (k : Int) (l : Lm) (x : St) (w : World) (s : LdS) (C : Cr) (vl : Value) (nl : Nat) (xl : List Value) (vr : Value) (nr : Nat) (xr : List Value) (wr : World) : Prop where
  l_ : wr.ownsRow b0 33 15 vl nl xl
  r_ : wr.ownsRow b0 23 2 vr nr xr
  nl : ∀ k, vl.ownBlock = some k → k ≠ b
  bg : Blk wr g 137 (ldA s)
  bt : Blk wr b 33 (crA C)
  lb : b0 ≤ g
  own : ∀ D ∈ s.L ++ [C], RecOwn wr b0 D.R (.slice D.A D.R.rows.length D.c) (.slice D.B D.R.ents.length D.d)
  mm : Mm wr m k l x
  f : Fr (lown m x g s) w wr
  ol : ∀ k, vl.ownBlock = some k → (Value.slice s.A s.L.length s.c).ownBlock = some k ∨ w.heap.size ≤ k
  or_ : ∀ k, vr.ownBlock = some k → (Value.slice s.B s.refs.length s.e).ownBlock = some k ∨ w.heap.size ≤ k
section
variable {b0 g b m : Nat} {k : Int} {l : Lm} {x : St} {w wr w' : World} {s : LdS} {C : Cr} {vl : Value} {nl : Nat} {xl : List Value} {vr : Value} {nr : Nat} {xr : List Value}
theorem LdW.keep (h : LdW b0 g b m k l x w s C vl nl xl vr nr xr wr) (hf : Fr none_ wr w') : LdW b0 g b m k l x w s C vl nl xl vr nr xr w' :=
  ⟨own_none h.l_ hf, own_none h.r_ hf, h.nl, h.bg.fr hf id, h.bt.fr hf id, h.lb, fun D hD => (h.own D hD).keep hf, h.mm.keep hf, h.f.then_none hf, h.ol, h.or_⟩
theorem LdW.sz (h : LdW b0 g b m k l x w s C vl nl xl vr nr xr wr) : b0 ≤ wr.heap.size := by have := h.bg.lt; have := h.lb; omega
theorem LdW.putL (h : LdW b0 g b m k l x w s C vl nl xl vr nr xr wr) {v' : Value} {q : Nat} {ys : List Value} (ho : w'.ownsRow b0 33 15 v' (nl + q) (xl ++ ys)) (hg : wr.grownBy w' vl.ownBlock) (hat : v'.ownBlock = vl.ownBlock ∨ v'.ownBlock = some wr.heap.size) : LdW b0 g b m k l x w s C v' (nl + q) (xl ++ ys) vr nr xr w' :=
  ⟨ho, own_kept h.r_ h.l_ (by decide) hg, fun k hk => by
      rcases hat with e | e
      · exact h.nl k (e ▸ hk)
      · have h1 := h.bt.lt
        have : wr.heap.size = k := Option.some.inj (e.symm.trans hk)
        omega, h.bg.grown hg (fun e => own_blk_ne h.l_ h.bg (by decide) e.symm), h.bt.grown hg (fun e => h.nl b e.symm rfl), h.lb, fun D hD => (h.own D hD).grown h.l_ (by decide) (by decide) hg, h.mm.grown h.l_ (.inl rfl) hg, h.f.grown hg (fun k hk => (h.ol k hk).imp (fun e => .inr (.inr (.inl e))) id), fun k hk => by
      rcases hat with e | e
      · exact h.ol k (e ▸ hk)
      · have : wr.heap.size = k := Option.some.inj (e.symm.trans hk)
        have := h.f.size
        exact .inr (by omega), h.or_⟩
theorem LdW.putR (h : LdW b0 g b m k l x w s C vl nl xl vr nr xr wr) {v' : Value} {q : Nat} {ys : List Value} (ho : w'.ownsRow b0 23 2 v' (nr + q) (xr ++ ys)) (hg : wr.grownBy w' vr.ownBlock) (hat : v'.ownBlock = vr.ownBlock ∨ v'.ownBlock = some wr.heap.size) : LdW b0 g b m k l x w s C vl nl xl v' (nr + q) (xr ++ ys) w' :=
  ⟨own_kept h.l_ h.r_ (by decide) hg, ho, h.nl, h.bg.grown hg (fun e => own_blk_ne h.r_ h.bg (by decide) e.symm), h.bt.grown hg (fun e => own_blk_ne h.r_ h.bt (by decide) e.symm), h.lb, fun D hD => (h.own D hD).grown h.r_ (by decide) (by decide) hg, h.mm.grown h.r_ (.inr rfl) hg, h.f.grown hg (fun k hk => (h.or_ k hk).imp (fun e => .inr (.inr (.inr e))) id), h.ol, fun k hk => by
      rcases hat with e | e
      · exact h.or_ k (e ▸ hk)
      · have : wr.heap.size = k := Option.some.inj (e.symm.trans hk)
        have := h.f.size
        exact .inr (by omega)⟩
theorem LdW.fin {A' B' : Option Addr} {c' d' : Nat} (h : LdW b0 g b m k l x w s C (.slice A' (s.L.length + 1) c') (s.L.length + 1) (crFlat s.L ++ (crA C).toList) (.slice B' (s.refs.length + 1) d') (s.refs.length + 1) (rf9Flat s.refs ++ [.int .i64 s.ns, .int .i64 s.ng]) wr)
    (hb : Blk w' g 137 #[.int .i64 s.n, .bool s.begun, .bool s.over, .int .i64 s.hs, .int .i64 s.hg, .int .i64 s.ns, .int .i64 s.ng, .slice A' (s.L.length + 1) c', .slice B' (s.refs.length + 1) d', s.ve]) (hf : Fr (only g) wr w') :
    Ldr b0 w' g ⟨s.n, s.begun, s.over, s.hs, s.hg, s.ns, s.ng, A', c', s.L ++ [C], B', d', s.refs ++ [(s.ns, s.ng)], s.ve⟩ ∧ Mm w' m k l x ∧ Blk w' b 33 (crA C) ∧ Fr (lown m x g s) w w' ∧ (∀ k, (Value.slice A' (s.L.length + 1) c').ownBlock = some k → (Value.slice s.A s.L.length s.c).ownBlock = some k ∨ w.heap.size ≤ k) ∧ (∀ k, (Value.slice B' (s.refs.length + 1) d').ownBlock = some k → (Value.slice s.B s.refs.length s.e).ownBlock = some k ∨ w.heap.size ≤ k) := by
  have e1 : (s.L ++ [C]).length = s.L.length + 1 := by simp
  have e2 : (s.refs ++ [(s.ns, s.ng)]).length = s.refs.length + 1 := by simp
  refine ⟨⟨?_, h.lb, ?_, ?_, fun D hD => (h.own D hD).only hf h.bg (by decide) (by decide)⟩, h.mm.ldr h.bg hf, h.bt.fr hf (only_ne (Blk.ne_ h.bt h.bg (by decide))), h.f.then_only hf (.inl (.inr (.inl rfl))), h.ol, h.or_⟩
  · show Blk w' g 137 #[.int .i64 s.n, .bool s.begun, .bool s.over, .int .i64 s.hs, .int .i64 s.hg, .int .i64 s.ns, .int .i64 s.ng, .slice A' (s.L ++ [C]).length c', .slice B' (s.refs ++ [(s.ns, s.ng)]).length d', s.ve]
    rw [e1, e2]
    exact hb
  · show w'.ownsRow b0 33 15 (.slice A' (s.L ++ [C]).length c') (s.L ++ [C]).length (crFlat (s.L ++ [C]))
    rw [e1, crFlat_snoc]
    exact own_fr h.l_ hf (fun k hk e => own_blk_ne h.l_ h.bg (by decide) (by rw [hk, show k = g from e]))
  · show w'.ownsRow b0 23 2 (.slice B' (s.refs ++ [(s.ns, s.ng)]).length d') (s.refs ++ [(s.ns, s.ng)]).length (rf9Flat (s.refs ++ [(s.ns, s.ng)]))
    rw [e2, rf9Flat_snoc]
    exact own_fr h.r_ hf (fun k hk e => own_blk_ne h.r_ h.bg (by decide) (by rw [hk, show k = g from e]))
end
/-- What Step's later accesses tell. -/
def LdNextO (b0 g m : Nat) (k : Int) (l : Lm) (x : St) (s : LdS) (w : World) (e : Ending) (w' : World) : Prop :=
  ∃ (R : Rc) (A : Option Addr) (c : Nat) (B : Option Addr) (d : Nat) (kk : Int) (v : Value), LoadR x.ss s.ns s.ng R kk ∧ Ev w' v sArena9 s.ns kk ∧ Mm w' m (k + 1) l x ∧ Fr (lown m x g s) w w' ∧
    ((kk ≠ 0 ∧ e = .returned (.bool true) ∧ Ldr b0 w' g { s with over := true, ve := v }) ∨
     (kk = 0 ∧ ∃ (A' : Option Addr) (c' : Nat) (B' : Option Addr) (d' : Nat) (ov : Bool) (ve : Value), e = .returned (.bool ov) ∧ Ldr b0 w' g ⟨s.n, s.begun, ov, s.hs, s.hg, R.nslot, R.ngen, A', c', s.L ++ [⟨R, A, c, B, d⟩], B', d', s.refs ++ [(s.ns, s.ng)], ve⟩ ∧ (∀ k, (Value.slice A' (s.L.length + 1) c').ownBlock = some k → (Value.slice s.A s.L.length s.c).ownBlock = some k ∨ w.heap.size ≤ k) ∧ (∀ k, (Value.slice B' (s.refs.length + 1) d').ownBlock = some k → (Value.slice s.B s.refs.length s.e).ownBlock = some k ∨ w.heap.size ≤ k) ∧
       ((R.nslot = 0 ∧ R.ngen = 0 ∧ ov = true ∧ ve = .nilIface) ∨ (¬ (R.nslot = 0 ∧ R.ngen = 0) ∧ l.s ≤ s.L.length + 1 ∧ ov = true ∧ ve = errV 10) ∨ (¬ (R.nslot = 0 ∧ R.ngen = 0) ∧ s.L.length + 1 < l.s ∧ ov = false ∧ ve = s.ve))))
set_option maxHeartbeats 8000000 in
theorem step_nextO {b0 g m : Nat} {k : Int} {l : Lm} {x : St} {w : World} {s : LdS} (h : Ldr b0 w g s) (hm : Mm w m k l x) (hb : ∀ i, mall m x i → i < b0) (h0 : 0 ≤ k) (h1 : k ≤ 100000) (ho : s.over = false) (hg : s.begun = true) (hl1 : s.L.length ≤ 5000) (hl2 : s.refs.length ≤ 5000) :
    Calls Tryz.prog 28 #[.pointer (some ⟨g, 0, none⟩), .pointer (some ⟨m, 0, none⟩)] w (LdNextO b0 g m k l x s w) := by
  have H := hid_ h
  have HM := hid_ hm
  have HB := hid_ hb
  have HO := hid_ ho
  have c1 : w.cell? ⟨g, 1, none⟩ = some (.bool true) := by rw [← hg]; exact h.b.cell' rfl
  have c5 : w.cell? ⟨g, 5, none⟩ = some (.int .i64 s.ns) := h.b.cell' rfl
  have c6 : w.cell? ⟨g, 6, none⟩ = some (.int .i64 s.ng) := h.b.cell' rfl
  have hsg := h.b.lt
  have HG := hid_ hg
  obtain ⟨i0, hi0, hz0, hs0, hb0⟩ := info_parts rec_info9
  have Hi := hid_ (And.intro hi0 (And.intro hz0 (And.intro hs0 hb0)))
  obtain ⟨j0, hj0, hy0, ht0, hc0⟩ := info_parts ref_info9
  have Hj := hid_ (And.intro hj0 (And.intro hy0 (And.intro ht0 hc0)))
  clear hi0 hz0 hs0 hb0 hj0 hy0 ht0 hc0 h hm hb ho hg
  go_enter Tryz.func28, Tryz.ntmps28
  go_wp2_with fail
  refine (ldOver_ok H.out).mono ?_
  rintro e w' ⟨rfl, rfl⟩
  rw [HO.out]
  go_wp2_with fail
  refine (memLoad_any m k l x _ HM.out h0 h1 s.ns s.ng).mono ?_
  rintro e w1 ⟨R, A, c, B, d, kk, v, rfl, hld, hev, hmm, hro, hf1⟩
  have LD := hid_ hld
  have EV := hid_ hev
  have RO := hid_ (hro.base (show b0 ≤ w.heap.size by have := H.out.lb; omega))
  replace H := hid_ (H.out.fr hf1 HB.out)
  replace HM := hid_ hmm
  have F1 := hid_ (hf1.mono (S' := lown m x g s) (fun i _ e => .inl e))
  have hsz1 := hf1.size
  have hNL1 : Hid (∀ k, (Value.slice s.A s.L.length s.c).ownBlock = some k → k ≠ w1.heap.size) := hid_ (fun k hk => by have := (H.out.l.lt k hk).2; omega)
  clear hld hev hmm hro hf1 c1 c5 c6
  go_upto_region 12 with (refine wpList_store_mid rfl 33 (.tmp 7) (.tmp 56) rfl w1.heap.size 0 (crA (⟨R, A, c, B, d⟩ : Cr)) rfl rfl (new_there w1 _ recZ) rec_size (by simp [Value.oneCell']) ?_; obtain ⟨w2, hw2⟩ : ∃ z, z = (w1.alloc (.cells recZ 33)).setCells w1.heap.size 0 (crA (⟨R, A, c, B, d⟩ : Cr)).toList := ⟨_, rfl⟩; change wpList _ _ _ _ _ ((w1.alloc (.cells recZ 33)).setCells w1.heap.size 0 (crA (⟨R, A, c, B, d⟩ : Cr)).toList); rw [← hw2]; have P2 : Hid (Blk w2 w1.heap.size 33 (crA (⟨R, A, c, B, d⟩ : Cr)) ∧ Fr none_ w1 w2) := hid_ (by rw [hw2]; exact new_copy w1 _ recZ _ rfl); clear hw2)
  replace H := hid_ (H.out.keep P2.out.2)
  replace HM := hid_ (HM.out.keep P2.out.2)
  replace EV := hid_ (EV.out.keep P2.out.2)
  replace RO := hid_ (RO.out.keep P2.out.2)
  replace F1 := hid_ (F1.out.then_none P2.out.2)
  have BT := hid_ P2.out.1
  have hszb := P2.out.1.lt
  have hlb := H.out.lb
  obtain ⟨b, hbq⟩ : ∃ b, b = w1.heap.size := ⟨_, rfl⟩
  rw [← hbq] at BT hszb
  rw [← hbq]
  have hgb : g < b := by have := H.out.b; omega
  have hNL : Hid (∀ k, (Value.slice s.A s.L.length s.c).ownBlock = some k → k ≠ b) := hid_ (by rw [hbq]; exact hNL1.out)
  clear hbq P2
  rcases EV.out with ⟨hc, rfl⟩ | ⟨hc, q, rfl, -⟩
  rotate_left
  · have HC := hid_ hc
    have EQ := hid_ EV.out
    clear hc
    go_wp2_with fail
    refine (ldStop_ok (.iface 239 (.pointer (some ⟨q, 0, none⟩))) (.inr ⟨_, _, rfl⟩) H.out).mono ?_
    rintro e w3 ⟨rfl, hl3, hf3⟩
    go_wp2_with fail
    go_ret
    exact ⟨R, A, c, B, d, kk, _, LD.out, EQ.out.only hf3 H.out.b (by decide), HM.out.ldr H.out.b hf3, F1.out.then_only hf3 (.inl (.inr (.inl rfl))), .inl ⟨HC.out, rfl, hl3⟩⟩
  have HC := hid_ hc
  clear hc EV
  have P0 : Hid (LdW b0 g b m (k + 1) l x w s (⟨R, A, c, B, d⟩ : Cr) (.slice s.A s.L.length s.c) s.L.length (crFlat s.L) (.slice s.B s.refs.length s.e) s.refs.length (rf9Flat s.refs) w2) := hid_ ⟨H.out.l, H.out.r, hNL.out, H.out.b, BT.out, hlb, fun D hD => by
    rcases List.mem_append.1 hD with h | h
    · exact H.out.own D h
    · obtain rfl : D = ⟨R, A, c, B, d⟩ := by simpa using h
      exact RO.out, HM.out, F1.out, fun k hk => .inl hk, fun k hk => .inl hk⟩
  clear H HM RO F1 BT hNL
  go_upto_region 14 with fail
  (try go_frame)
  go_cut [4] (fun u wq => ∃ (A' : Option Addr) (c' : Nat) (B' : Option Addr) (d' : Nat), u = .bool false ∧ Ldr b0 wq g (⟨s.n, s.begun, s.over, s.hs, s.hg, s.ns, s.ng, A', c', s.L ++ [⟨R, A, c, B, d⟩], B', d', s.refs ++ [(s.ns, s.ng)], s.ve⟩ : LdS) ∧ Mm wq m (k + 1) l x ∧ Blk wq b 33 (crA (⟨R, A, c, B, d⟩ : Cr)) ∧ Fr (lown m x g s) w wq ∧ (∀ k, (Value.slice A' (s.L.length + 1) c').ownBlock = some k → (Value.slice s.A s.L.length s.c).ownBlock = some k ∨ w.heap.size ≤ k) ∧ (∀ k, (Value.slice B' (s.refs.length + 1) d').ownBlock = some k → (Value.slice s.B s.refs.length s.e).ownBlock = some k ∨ w.heap.size ≤ k))
  case first =>
    have hS0 : (fun w' : World => Blk w' g 137 (ldA s) ∧ Blk w' b 33 (crA (⟨R, A, c, B, d⟩ : Cr))) w2.drew := ⟨P0.out.bg.drew, P0.out.bt.drew⟩
    refine wp_region_u1 21 (fun w' : World => Blk w' g 137 (ldA s) ∧ Blk w' b 33 (crA (⟨R, A, c, B, d⟩ : Cr))) 1 24 (some 64) (.pointer (some ⟨g, 0, none⟩)) (by kernel_rfl) rfl rfl rfl (by kernel_rfl) (by kernel_rfl) (by kernel_rfl) (fun _ _ _ h => h) (y_val (by kernel_rfl) (fun w' hS => by kernel_rfl)) ?_
    refine u_take 0 (some 63) (.pointer (some ⟨g, 0, none⟩)) rfl rfl (by kernel_rfl) (by kernel_rfl) (by kernel_rfl) (by kernel_rfl) (fun _ _ _ h => h) (y_val (by kernel_rfl) (fun w' hS => by kernel_rfl)) hS0 ?_
    go_frame
    refine u_take 2 (some 65) (.pointer (some ⟨g, 0, none⟩)) rfl rfl (by kernel_rfl) (by kernel_rfl) (by kernel_rfl) (by kernel_rfl) (fun _ _ _ h => h) (y_val (by kernel_rfl) (fun w' hS => by kernel_rfl)) hS0 ?_
    go_frame
    refine u_take 3 (some 66) (.pointer (some ⟨g, 0, none⟩)) rfl rfl (by kernel_rfl) (by kernel_rfl) (by kernel_rfl) (by kernel_rfl) (fun _ _ _ h => h) (y_val (by kernel_rfl) (fun w' hS => by kernel_rfl)) hS0 ?_
    go_frame
    refine u_take 4 (some 67) (.pointer (some ⟨g, 7, none⟩)) rfl rfl (by kernel_rfl) (by kernel_rfl) (by kernel_rfl) (by kernel_rfl) (fun _ _ _ h => h) (y_val (by kernel_rfl) (fun w' hS => by kernel_rfl)) hS0 ?_
    go_frame
    refine u_take 5 (some 68) (.slice s.A s.L.length s.c) rfl rfl (by kernel_rfl) (by kernel_rfl) (by kernel_rfl) (by kernel_rfl) (fun _ _ _ h => h) (y_cell 24 (.tmp 67) ⟨g, 7, none⟩ _ (by kernel_rfl) rfl (by kernel_rfl) (fun w' hS => hS.1.cell' rfl) Tryz.underlying24 rfl) hS0 ?_
    go_frame
    refine u_take 6 (some 69) (.agg (crA (⟨R, A, c, B, d⟩ : Cr))) rfl rfl (by kernel_rfl) (by kernel_rfl) (by kernel_rfl) (by kernel_rfl) (fun _ _ _ h => h) (yieldsIf_load_mid (by kernel_rfl) 33 (.tmp 7) rfl b 0 (by kernel_rfl) (crA (⟨R, A, c, B, d⟩ : Cr)).toList _ (fun w' hS => Blk.range7 (l := (crA (⟨R, A, c, B, d⟩ : Cr)).toList) hS.2) Tryz.underlying33 rfl rec_size) hS0 ?_
    go_frame
    refine u_take 9 (some 72) (.pointer (some ⟨g, 0, none⟩)) rfl rfl (by kernel_rfl) (by kernel_rfl) (by kernel_rfl) (by kernel_rfl) (fun _ _ _ h => h) (y_val (by kernel_rfl) (fun w' hS => by kernel_rfl)) hS0 ?_
    go_frame
    refine u_take 10 (some 73) (.pointer (some ⟨g, 0, none⟩)) rfl rfl (by kernel_rfl) (by kernel_rfl) (by kernel_rfl) (by kernel_rfl) (fun _ _ _ h => h) (y_val (by kernel_rfl) (fun w' hS => by kernel_rfl)) hS0 ?_
    go_frame
    refine u_take 11 (some 74) (.pointer (some ⟨g, 8, none⟩)) rfl rfl (by kernel_rfl) (by kernel_rfl) (by kernel_rfl) (by kernel_rfl) (fun _ _ _ h => h) (y_val (by kernel_rfl) (fun w' hS => by kernel_rfl)) hS0 ?_
    go_frame
    refine u_take 12 (some 75) (.slice s.B s.refs.length s.e) rfl rfl (by kernel_rfl) (by kernel_rfl) (by kernel_rfl) (by kernel_rfl) (fun _ _ _ h => h) (y_cell 27 (.tmp 74) ⟨g, 8, none⟩ _ (by kernel_rfl) rfl (by kernel_rfl) (fun w' hS => hS.1.cell' rfl) Tryz.underlying27 rfl) hS0 ?_
    go_frame
    refine u_take 13 (some 76) (.pointer (some ⟨g, 0, none⟩)) rfl rfl (by kernel_rfl) (by kernel_rfl) (by kernel_rfl) (by kernel_rfl) (fun _ _ _ h => h) (y_val (by kernel_rfl) (fun w' hS => by kernel_rfl)) hS0 ?_
    go_frame
    refine u_take 14 (some 77) (.pointer (some ⟨g, 0, none⟩)) rfl rfl (by kernel_rfl) (by kernel_rfl) (by kernel_rfl) (by kernel_rfl) (fun _ _ _ h => h) (y_val (by kernel_rfl) (fun w' hS => by kernel_rfl)) hS0 ?_
    go_frame
    refine u_take 15 (some 78) (.pointer (some ⟨g, 5, none⟩)) rfl rfl (by kernel_rfl) (by kernel_rfl) (by kernel_rfl) (by kernel_rfl) (fun _ _ _ h => h) (y_val (by kernel_rfl) (fun w' hS => by kernel_rfl)) hS0 ?_
    go_frame
    refine u_take 16 (some 79) (.agg #[.int .i64 s.ns, .int .i64 s.ng]) rfl rfl (by kernel_rfl) (by kernel_rfl) (by kernel_rfl) (by kernel_rfl) (fun _ _ _ h => h) (yieldsIf_load_mid (by kernel_rfl) 23 (.tmp 78) rfl g 5 (by kernel_rfl) [.int .i64 s.ns, .int .i64 s.ng] _ (fun w' hS => ld_range5 hS.1) Tryz.underlying23 rfl ref_size9) hS0 ?_
    go_frame
    clear hS0
    obtain ⟨y0, hy0⟩ : ∃ z, z = w2.drew := ⟨_, rfl⟩
    have Q0 := hid_ (P0.out.keep (Fr.refl none_ w2).drew)
    rw [← hy0] at Q0
    rw [← hy0]
    clear hy0 P0
    refine u_two 7 17 rfl rfl (by kernel_rfl) (by kernel_rfl) (by kernel_rfl) ?_ ?_
    · skip
      refine wp_knownD (some 70) rfl (.slice (some ⟨y0.heap.size, 0, none⟩) 1 1) (y0.alloc (.cells (crA (⟨R, A, c, B, d⟩ : Cr)) 33)) (by kernel_rfl) ⟨(.inr ⟨(Q0.out.keep ((Fr.refl none_ _).alloc _)).bg, (Q0.out.keep ((Fr.refl none_ _).alloc _)).bt⟩), ?_⟩
      go_frame
      obtain ⟨y1, hy1⟩ : ∃ z, z = y0.alloc (.cells (crA (⟨R, A, c, B, d⟩ : Cr)) 33) := ⟨_, rfl⟩
      have f2 : Fr none_ y0 y1 := by rw [hy1]; exact (Fr.refl none_ _).alloc _
      have B4 : Hid (Blk y1 y0.heap.size 33 (crA (⟨R, A, c, B, d⟩ : Cr))) := hid_ (by rw [hy1]; exact Blk.new _ _ _)
      have Q3 := hid_ (Q0.out.keep f2)
      rw [← hy1]
      clear hy1 f2 Q0
      refine u_two 8 17 rfl rfl (by kernel_rfl) (by kernel_rfl) (by kernel_rfl) ?_ ?_
      · skip
        refine wp_dst (some 71) rfl (fun hds => ?_)
        refine wp_append_at _ (.tmp 68) (.tmp 70) 24 rfl b0 33 i0 _ 15 192 Tryz.underlying24 Hi.out.1 Hi.out.2.1 Hi.out.2.2.1 Hi.out.2.2.2 rfl (by omega) _ _ _ (by kernel_rfl) Q3.out.l_ (some ⟨y0.heap.size, 0, none⟩) 1 1 (crA (⟨R, A, c, B, d⟩ : Cr)).toList (by kernel_rfl) (reads_blk9 B4.out) (cr_one _) (by simp only [maxLen]; omega) (by omega) Q3.out.sz ?_
        intro v7 y6 hown hgr hat
        have Q5 := hid_ (Q3.out.putL hown hgr hat)
        refine ⟨.inr ⟨Q5.out.bg, Q5.out.bt⟩, ?_⟩
        rw [hds]
        clear hown hgr hat hds Q3 B4
        go_frame
        refine u_run 17 (some 80) (.slice (some ⟨y6.heap.size, 0, none⟩) 1 1) (y6.alloc (.cells #[.int .i64 s.ns, .int .i64 s.ng] 23)) rfl rfl (by kernel_rfl) (by kernel_rfl) (by kernel_rfl) (.inr ⟨(Q5.out.keep ((Fr.refl none_ _).alloc _)).bg, (Q5.out.keep ((Fr.refl none_ _).alloc _)).bt⟩) ?_
        go_frame
        obtain ⟨y8, hy8⟩ : ∃ z, z = y6.alloc (.cells #[.int .i64 s.ns, .int .i64 s.ng] 23) := ⟨_, rfl⟩
        have f9 : Fr none_ y6 y8 := by rw [hy8]; exact (Fr.refl none_ _).alloc _
        have B11 : Hid (Blk y8 y6.heap.size 23 #[.int .i64 s.ns, .int .i64 s.ng]) := hid_ (by rw [hy8]; exact Blk.new _ _ _)
        have Q10 := hid_ (Q5.out.keep f9)
        rw [← hy8]
        clear hy8 f9 Q5
        refine u_one 18 rfl (by kernel_rfl) (by kernel_rfl) ?_
        refine wp_dst (some 81) rfl (fun hds => ?_)
        refine wp_append_at _ (.tmp 75) (.tmp 80) 27 rfl b0 23 j0 _ 2 16 Tryz.underlying27 Hj.out.1 Hj.out.2.1 Hj.out.2.2.1 Hj.out.2.2.2 rfl (by omega) _ _ _ (by kernel_rfl) Q10.out.r_ (some ⟨y6.heap.size, 0, none⟩) 1 1 [.int .i64 s.ns, .int .i64 s.ng] (by kernel_rfl) (reads_blk9 B11.out) (by simp [Value.oneCell']) (by simp only [maxLen]; omega) (by omega) Q10.out.sz ?_
        intro v14 y13 hown hgr hat
        have Q12 := hid_ (Q10.out.putR hown hgr hat)
        refine ⟨.inr ⟨Q12.out.bg, Q12.out.bt⟩, ?_⟩
        rw [hds]
        clear hown hgr hat hds Q10 B11
        go_frame
        obtain ⟨A', c', e1⟩ := Q12.out.l_.shape
        obtain ⟨B', d', e2⟩ := Q12.out.r_.shape
        subst e1
        subst e2
        (try go_frame)
        refine u_run 19 (some 82) (.pointer (some ⟨g, 0, none⟩)) y13 rfl rfl (by kernel_rfl) (by kernel_rfl) (by kernel_rfl) (.inr ⟨Q12.out.bg, Q12.out.bt⟩) ?_
        go_frame
        refine u_run 20 (some 83) (.pointer (some ⟨g, 7, none⟩)) y13 rfl rfl (by kernel_rfl) (by kernel_rfl) (by kernel_rfl) (.inr ⟨Q12.out.bg, Q12.out.bt⟩) ?_
        go_frame
        refine u_one 21 rfl (by kernel_rfl) (by kernel_rfl) ?_
        have c7 : y13.cell? ⟨g, 7, none⟩ = some (.slice s.A s.L.length s.c) := Q12.out.bg.cell' rfl
        have y7 := Q12.out.bg.frozen 7
        go_simp
        have hk := And.intro (Q12.out.bg.set_ 7 (.slice A' (s.L.length + 1) c')) (Fr.only1 y13 ⟨g, 7, none⟩ (.slice A' (s.L.length + 1) c'))
        obtain ⟨y15, hy15⟩ : ∃ z, z = y13.setCell ⟨g, 7, none⟩ (.slice A' (s.L.length + 1) c') := ⟨_, rfl⟩
        rw [← hy15] at hk
        rw [← hy15]
        have K16 := hid_ hk
        clear hk hy15 c7 y7
        refine u_run 22 (some 84) (.pointer (some ⟨g, 0, none⟩)) y15 rfl rfl (by kernel_rfl) (by kernel_rfl) (by kernel_rfl) (.inl (by decide)) ?_
        go_frame
        refine u_run 23 (some 85) (.pointer (some ⟨g, 8, none⟩)) y15 rfl rfl (by kernel_rfl) (by kernel_rfl) (by kernel_rfl) (.inl (by decide)) ?_
        go_frame
        refine u_one 24 rfl (by kernel_rfl) (by kernel_rfl) ?_
        have c7 : y15.cell? ⟨g, 8, none⟩ = some (.slice s.B s.refs.length s.e) := K16.out.1.cell' rfl
        have y7 := K16.out.1.frozen 8
        go_simp
        have hk := And.intro (K16.out.1.set_ 8 (.slice B' (s.refs.length + 1) d')) (Fr.setCell (p := ⟨g, 8, none⟩) K16.out.2 (.inl rfl) (.slice B' (s.refs.length + 1) d'))
        obtain ⟨y17, hy17⟩ : ∃ z, z = y15.setCell ⟨g, 8, none⟩ (.slice B' (s.refs.length + 1) d') := ⟨_, rfl⟩
        rw [← hy17] at hk
        rw [← hy17]
        have K18 := hid_ hk
        clear hk hy17 c7 y7
        have FIN := hid_ (Q12.out.fin K18.out.1 K18.out.2)
        refine u_done (by kernel_rfl) ?_
        (try simp only [Exit.then])
        (try go_frame)
        (first | (rename_i hKm; refine hKm _ _ ?_) | (rename_i hKm _; refine hKm _ _ ?_) | (rename_i hKm _ _; refine hKm _ _ ?_) | (rename_i hKm _ _ _; refine hKm _ _ ?_))
        go_meet
        case rel => exact ⟨A', c', B', d', rfl, FIN.out⟩
      · skip
        refine wp_knownD (some 80) rfl (.slice (some ⟨y1.heap.size, 0, none⟩) 1 1) (y1.alloc (.cells #[.int .i64 s.ns, .int .i64 s.ng] 23)) (by kernel_rfl) ⟨(.inr ⟨(Q3.out.keep ((Fr.refl none_ _).alloc _)).bg, (Q3.out.keep ((Fr.refl none_ _).alloc _)).bt⟩), ?_⟩
        go_frame
        obtain ⟨y19, hy19⟩ : ∃ z, z = y1.alloc (.cells #[.int .i64 s.ns, .int .i64 s.ng] 23) := ⟨_, rfl⟩
        have f20 : Fr none_ y1 y19 := by rw [hy19]; exact (Fr.refl none_ _).alloc _
        have B22 : Hid (Blk y19 y1.heap.size 23 #[.int .i64 s.ns, .int .i64 s.ng]) := hid_ (by rw [hy19]; exact Blk.new _ _ _)
        have Q21 := hid_ (Q3.out.keep f20)
        replace B4 := hid_ (B4.out.fr f20 id)
        rw [← hy19]
        clear hy19 f20 Q3
        refine u_one 8 rfl (by kernel_rfl) (by kernel_rfl) ?_
        refine wp_dst (some 71) rfl (fun hds => ?_)
        refine wp_append_at _ (.tmp 68) (.tmp 70) 24 rfl b0 33 i0 _ 15 192 Tryz.underlying24 Hi.out.1 Hi.out.2.1 Hi.out.2.2.1 Hi.out.2.2.2 rfl (by omega) _ _ _ (by kernel_rfl) Q21.out.l_ (some ⟨y0.heap.size, 0, none⟩) 1 1 (crA (⟨R, A, c, B, d⟩ : Cr)).toList (by kernel_rfl) (reads_blk9 B4.out) (cr_one _) (by simp only [maxLen]; omega) (by omega) Q21.out.sz ?_
        intro v25 y24 hown hgr hat
        have Q23 := hid_ (Q21.out.putL hown hgr hat)
        replace B22 := hid_ (B22.out.grown hgr (fun e => own_blk_ne Q21.out.l_ B22.out (by decide) e.symm))
        refine ⟨.inr ⟨Q23.out.bg, Q23.out.bt⟩, ?_⟩
        rw [hds]
        clear hown hgr hat hds Q21 B4
        go_frame
        refine u_one 18 rfl (by kernel_rfl) (by kernel_rfl) ?_
        refine wp_dst (some 81) rfl (fun hds => ?_)
        refine wp_append_at _ (.tmp 75) (.tmp 80) 27 rfl b0 23 j0 _ 2 16 Tryz.underlying27 Hj.out.1 Hj.out.2.1 Hj.out.2.2.1 Hj.out.2.2.2 rfl (by omega) _ _ _ (by kernel_rfl) Q23.out.r_ (some ⟨y1.heap.size, 0, none⟩) 1 1 [.int .i64 s.ns, .int .i64 s.ng] (by kernel_rfl) (reads_blk9 B22.out) (by simp [Value.oneCell']) (by simp only [maxLen]; omega) (by omega) Q23.out.sz ?_
        intro v28 y27 hown hgr hat
        have Q26 := hid_ (Q23.out.putR hown hgr hat)
        refine ⟨.inr ⟨Q26.out.bg, Q26.out.bt⟩, ?_⟩
        rw [hds]
        clear hown hgr hat hds Q23 B22
        go_frame
        obtain ⟨A', c', e1⟩ := Q26.out.l_.shape
        obtain ⟨B', d', e2⟩ := Q26.out.r_.shape
        subst e1
        subst e2
        (try go_frame)
        refine u_run 19 (some 82) (.pointer (some ⟨g, 0, none⟩)) y27 rfl rfl (by kernel_rfl) (by kernel_rfl) (by kernel_rfl) (.inr ⟨Q26.out.bg, Q26.out.bt⟩) ?_
        go_frame
        refine u_run 20 (some 83) (.pointer (some ⟨g, 7, none⟩)) y27 rfl rfl (by kernel_rfl) (by kernel_rfl) (by kernel_rfl) (.inr ⟨Q26.out.bg, Q26.out.bt⟩) ?_
        go_frame
        refine u_one 21 rfl (by kernel_rfl) (by kernel_rfl) ?_
        have c7 : y27.cell? ⟨g, 7, none⟩ = some (.slice s.A s.L.length s.c) := Q26.out.bg.cell' rfl
        have y7 := Q26.out.bg.frozen 7
        go_simp
        have hk := And.intro (Q26.out.bg.set_ 7 (.slice A' (s.L.length + 1) c')) (Fr.only1 y27 ⟨g, 7, none⟩ (.slice A' (s.L.length + 1) c'))
        obtain ⟨y29, hy29⟩ : ∃ z, z = y27.setCell ⟨g, 7, none⟩ (.slice A' (s.L.length + 1) c') := ⟨_, rfl⟩
        rw [← hy29] at hk
        rw [← hy29]
        have K30 := hid_ hk
        clear hk hy29 c7 y7
        refine u_run 22 (some 84) (.pointer (some ⟨g, 0, none⟩)) y29 rfl rfl (by kernel_rfl) (by kernel_rfl) (by kernel_rfl) (.inl (by decide)) ?_
        go_frame
        refine u_run 23 (some 85) (.pointer (some ⟨g, 8, none⟩)) y29 rfl rfl (by kernel_rfl) (by kernel_rfl) (by kernel_rfl) (.inl (by decide)) ?_
        go_frame
        refine u_one 24 rfl (by kernel_rfl) (by kernel_rfl) ?_
        have c7 : y29.cell? ⟨g, 8, none⟩ = some (.slice s.B s.refs.length s.e) := K30.out.1.cell' rfl
        have y7 := K30.out.1.frozen 8
        go_simp
        have hk := And.intro (K30.out.1.set_ 8 (.slice B' (s.refs.length + 1) d')) (Fr.setCell (p := ⟨g, 8, none⟩) K30.out.2 (.inl rfl) (.slice B' (s.refs.length + 1) d'))
        obtain ⟨y31, hy31⟩ : ∃ z, z = y29.setCell ⟨g, 8, none⟩ (.slice B' (s.refs.length + 1) d') := ⟨_, rfl⟩
        rw [← hy31] at hk
        rw [← hy31]
        have K32 := hid_ hk
        clear hk hy31 c7 y7
        have FIN := hid_ (Q26.out.fin K32.out.1 K32.out.2)
        refine u_done (by kernel_rfl) ?_
        (try simp only [Exit.then])
        (try go_frame)
        (first | (rename_i hKm; refine hKm _ _ ?_) | (rename_i hKm _; refine hKm _ _ ?_) | (rename_i hKm _ _; refine hKm _ _ ?_) | (rename_i hKm _ _ _; refine hKm _ _ ?_))
        go_meet
        case rel => exact ⟨A', c', B', d', rfl, FIN.out⟩
    · skip
      refine wp_knownD (some 80) rfl (.slice (some ⟨y0.heap.size, 0, none⟩) 1 1) (y0.alloc (.cells #[.int .i64 s.ns, .int .i64 s.ng] 23)) (by kernel_rfl) ⟨(.inr ⟨(Q0.out.keep ((Fr.refl none_ _).alloc _)).bg, (Q0.out.keep ((Fr.refl none_ _).alloc _)).bt⟩), ?_⟩
      go_frame
      obtain ⟨y33, hy33⟩ : ∃ z, z = y0.alloc (.cells #[.int .i64 s.ns, .int .i64 s.ng] 23) := ⟨_, rfl⟩
      have f34 : Fr none_ y0 y33 := by rw [hy33]; exact (Fr.refl none_ _).alloc _
      have B36 : Hid (Blk y33 y0.heap.size 23 #[.int .i64 s.ns, .int .i64 s.ng]) := hid_ (by rw [hy33]; exact Blk.new _ _ _)
      have Q35 := hid_ (Q0.out.keep f34)
      rw [← hy33]
      clear hy33 f34 Q0
      refine u_run 7 (some 70) (.slice (some ⟨y33.heap.size, 0, none⟩) 1 1) (y33.alloc (.cells (crA (⟨R, A, c, B, d⟩ : Cr)) 33)) rfl rfl (by kernel_rfl) (by kernel_rfl) (by kernel_rfl) (.inr ⟨(Q35.out.keep ((Fr.refl none_ _).alloc _)).bg, (Q35.out.keep ((Fr.refl none_ _).alloc _)).bt⟩) ?_
      go_frame
      obtain ⟨y37, hy37⟩ : ∃ z, z = y33.alloc (.cells (crA (⟨R, A, c, B, d⟩ : Cr)) 33) := ⟨_, rfl⟩
      have f38 : Fr none_ y33 y37 := by rw [hy37]; exact (Fr.refl none_ _).alloc _
      have B40 : Hid (Blk y37 y33.heap.size 33 (crA (⟨R, A, c, B, d⟩ : Cr))) := hid_ (by rw [hy37]; exact Blk.new _ _ _)
      have Q39 := hid_ (Q35.out.keep f38)
      replace B36 := hid_ (B36.out.fr f38 id)
      rw [← hy37]
      clear hy37 f38 Q35
      refine u_one 8 rfl (by kernel_rfl) (by kernel_rfl) ?_
      refine wp_dst (some 71) rfl (fun hds => ?_)
      refine wp_append_at _ (.tmp 68) (.tmp 70) 24 rfl b0 33 i0 _ 15 192 Tryz.underlying24 Hi.out.1 Hi.out.2.1 Hi.out.2.2.1 Hi.out.2.2.2 rfl (by omega) _ _ _ (by kernel_rfl) Q39.out.l_ (some ⟨y33.heap.size, 0, none⟩) 1 1 (crA (⟨R, A, c, B, d⟩ : Cr)).toList (by kernel_rfl) (reads_blk9 B40.out) (cr_one _) (by simp only [maxLen]; omega) (by omega) Q39.out.sz ?_
      intro v43 y42 hown hgr hat
      have Q41 := hid_ (Q39.out.putL hown hgr hat)
      replace B36 := hid_ (B36.out.grown hgr (fun e => own_blk_ne Q39.out.l_ B36.out (by decide) e.symm))
      refine ⟨.inr ⟨Q41.out.bg, Q41.out.bt⟩, ?_⟩
      rw [hds]
      clear hown hgr hat hds Q39 B40
      go_frame
      refine u_one 18 rfl (by kernel_rfl) (by kernel_rfl) ?_
      refine wp_dst (some 81) rfl (fun hds => ?_)
      refine wp_append_at _ (.tmp 75) (.tmp 80) 27 rfl b0 23 j0 _ 2 16 Tryz.underlying27 Hj.out.1 Hj.out.2.1 Hj.out.2.2.1 Hj.out.2.2.2 rfl (by omega) _ _ _ (by kernel_rfl) Q41.out.r_ (some ⟨y0.heap.size, 0, none⟩) 1 1 [.int .i64 s.ns, .int .i64 s.ng] (by kernel_rfl) (reads_blk9 B36.out) (by simp [Value.oneCell']) (by simp only [maxLen]; omega) (by omega) Q41.out.sz ?_
      intro v46 y45 hown hgr hat
      have Q44 := hid_ (Q41.out.putR hown hgr hat)
      refine ⟨.inr ⟨Q44.out.bg, Q44.out.bt⟩, ?_⟩
      rw [hds]
      clear hown hgr hat hds Q41 B36
      go_frame
      obtain ⟨A', c', e1⟩ := Q44.out.l_.shape
      obtain ⟨B', d', e2⟩ := Q44.out.r_.shape
      subst e1
      subst e2
      (try go_frame)
      refine u_run 19 (some 82) (.pointer (some ⟨g, 0, none⟩)) y45 rfl rfl (by kernel_rfl) (by kernel_rfl) (by kernel_rfl) (.inr ⟨Q44.out.bg, Q44.out.bt⟩) ?_
      go_frame
      refine u_run 20 (some 83) (.pointer (some ⟨g, 7, none⟩)) y45 rfl rfl (by kernel_rfl) (by kernel_rfl) (by kernel_rfl) (.inr ⟨Q44.out.bg, Q44.out.bt⟩) ?_
      go_frame
      refine u_one 21 rfl (by kernel_rfl) (by kernel_rfl) ?_
      have c7 : y45.cell? ⟨g, 7, none⟩ = some (.slice s.A s.L.length s.c) := Q44.out.bg.cell' rfl
      have y7 := Q44.out.bg.frozen 7
      go_simp
      have hk := And.intro (Q44.out.bg.set_ 7 (.slice A' (s.L.length + 1) c')) (Fr.only1 y45 ⟨g, 7, none⟩ (.slice A' (s.L.length + 1) c'))
      obtain ⟨y47, hy47⟩ : ∃ z, z = y45.setCell ⟨g, 7, none⟩ (.slice A' (s.L.length + 1) c') := ⟨_, rfl⟩
      rw [← hy47] at hk
      rw [← hy47]
      have K48 := hid_ hk
      clear hk hy47 c7 y7
      refine u_run 22 (some 84) (.pointer (some ⟨g, 0, none⟩)) y47 rfl rfl (by kernel_rfl) (by kernel_rfl) (by kernel_rfl) (.inl (by decide)) ?_
      go_frame
      refine u_run 23 (some 85) (.pointer (some ⟨g, 8, none⟩)) y47 rfl rfl (by kernel_rfl) (by kernel_rfl) (by kernel_rfl) (.inl (by decide)) ?_
      go_frame
      refine u_one 24 rfl (by kernel_rfl) (by kernel_rfl) ?_
      have c7 : y47.cell? ⟨g, 8, none⟩ = some (.slice s.B s.refs.length s.e) := K48.out.1.cell' rfl
      have y7 := K48.out.1.frozen 8
      go_simp
      have hk := And.intro (K48.out.1.set_ 8 (.slice B' (s.refs.length + 1) d')) (Fr.setCell (p := ⟨g, 8, none⟩) K48.out.2 (.inl rfl) (.slice B' (s.refs.length + 1) d'))
      obtain ⟨y49, hy49⟩ : ∃ z, z = y47.setCell ⟨g, 8, none⟩ (.slice B' (s.refs.length + 1) d') := ⟨_, rfl⟩
      rw [← hy49] at hk
      rw [← hy49]
      have K50 := hid_ hk
      clear hk hy49 c7 y7
      have FIN := hid_ (Q44.out.fin K50.out.1 K50.out.2)
      refine u_done (by kernel_rfl) ?_
      (try simp only [Exit.then])
      (try go_frame)
      (first | (rename_i hKm; refine hKm _ _ ?_) | (rename_i hKm _; refine hKm _ _ ?_) | (rename_i hKm _ _; refine hKm _ _ ?_) | (rename_i hKm _ _ _; refine hKm _ _ ?_))
      go_meet
      case rel => exact ⟨A', c', B', d', rfl, FIN.out⟩
  case rest =>
  obtain ⟨A', c', B', d', rfl, hL, hM, hT, hF, ho1⟩ := hcut
  obtain ⟨w3, rfl⟩ : ∃ z : World, z = wc := ⟨_, rfl⟩
  have HL := hid_ hL
  have HM := hid_ hM
  have HT := hid_ hT
  have HF := hid_ hF
  have HOW := hid_ ho1
  have hlc : (s.L ++ [(⟨R, A, c, B, d⟩ : Cr)]).length = s.L.length + 1 := by simp
  clear hL hM hT hF ho1
  have b13 : w3.cell? ⟨b, 13, none⟩ = some (.int .i64 R.nslot) := HT.out.cell' rfl
  have b14 : w3.cell? ⟨b, 14, none⟩ = some (.int .i64 R.ngen) := HT.out.cell' rfl
  have g5 : w3.cell? ⟨g, 5, none⟩ = some (.int .i64 s.ns) := HL.out.b.cell' rfl
  have g6 : w3.cell? ⟨g, 6, none⟩ = some (.int .i64 s.ng) := HL.out.b.cell' rfl
  have y5 := HL.out.b.frozen 5
  have y6 := HL.out.b.frozen 6
  go_upto_region 16 with fail
  obtain ⟨w4, hw4⟩ : ∃ z, z = (w3.setCell ⟨g, 5, none⟩ (.int .i64 R.nslot)).setCell ⟨g, 6, none⟩ (.int .i64 R.ngen) := ⟨_, rfl⟩
  have f4 : Fr (only g) w3 w4 := by rw [hw4]; exact Fr.setCell (p := ⟨g, 6, none⟩) (Fr.only1 w3 ⟨g, 5, none⟩ _) (.inl rfl) _
  have b4 := (HL.out.b.set_ 5 (.int .i64 R.nslot)).set_ 6 (.int .i64 R.ngen)
  rw [← hw4] at b4
  rw [← hw4]
  clear hw4 b13 b14 g5 g6 y5 y6
  have L4 : Hid (Ldr b0 w4 g (⟨s.n, s.begun, s.over, s.hs, s.hg, R.nslot, R.ngen, A', c', s.L ++ [⟨R, A, c, B, d⟩], B', d', s.refs ++ [(s.ns, s.ng)], s.ve⟩ : LdS)) := hid_ (HL.out.upd b4 f4 rfl)
  replace HM := hid_ (HM.out.ldr HL.out.b f4)
  replace HF := hid_ (HF.out.then_only f4 (.inl (.inr (.inl rfl))))
  clear HL HT f4 b4
  have hg5 : w4.cell? ⟨g, 5, none⟩ = some (.int .i64 R.nslot) := L4.out.b.cell' rfl
  have hg6 : w4.cell? ⟨g, 6, none⟩ = some (.int .i64 R.ngen) := L4.out.b.cell' rfl
  have hq := eql_ref
  by_cases hz : R.nslot = 0 ∧ R.ngen = 0
  · have hd : (R.nslot == 0 && R.ngen == 0) = true := by simp [hz.1, hz.2]
    have HZ := hid_ hz
    clear hz
    go_wp2_with fail
    refine (ldStop_ok .nilIface (.inl rfl) L4.out).mono ?_
    rintro e w5 ⟨rfl, hl5, hf5⟩
    go_wp2_with fail
    go_ret
    exact ⟨R, A, c, B, d, kk, .nilIface, LD.out, .inl ⟨HC.out, rfl⟩, HM.out.ldr L4.out.b hf5, HF.out.then_only hf5 (.inl (.inr (.inl rfl))), .inr ⟨HC.out, A', c', B', d', true, .nilIface, rfl, hl5, HOW.out.1, HOW.out.2, .inl ⟨HZ.out.1, HZ.out.2, rfl, rfl⟩⟩⟩
  · have hd : (R.nslot == 0 && R.ngen == 0) = false := by
      simp only [Bool.and_eq_false_iff, beq_eq_false_iff_ne]
      omega
    have HZ := hid_ hz
    clear hz
    have hg7 : w4.cell? ⟨g, 7, none⟩ = some (.slice A' (s.L.length + 1) c') := by have := L4.out.b.cell' (i := 7) (v := .slice A' (s.L ++ [(⟨R, A, c, B, d⟩ : Cr)]).length c') rfl; rwa [hlc] at this
    go_upto_region 18 with fail
    (try go_frame)
    go_cut [107] (fun u wq => u = .bool (decide ((l.s : Int) ≤ ((s.L.length + 1 : Nat) : Int))) ∧ Fr none_ w4 wq)
    case first =>
      have hS0 : (fun w' : World => Fr none_ w4 w') w4.drew := (Fr.refl none_ w4).drew
      refine wp_region_u 9 (fun w' : World => Fr none_ w4 w') (by kernel_rfl) ?_
      refine u_take 0 (some 99) (.pointer (some ⟨g, 0, none⟩)) rfl rfl (by kernel_rfl) (by kernel_rfl) (by kernel_rfl) (by kernel_rfl) (fun _ _ _ h => h) (y_val (by kernel_rfl) (fun w' hS => by kernel_rfl)) hS0 ?_
      go_frame
      refine u_take 1 (some 100) (.pointer (some ⟨g, 0, none⟩)) rfl rfl (by kernel_rfl) (by kernel_rfl) (by kernel_rfl) (by kernel_rfl) (fun _ _ _ h => h) (y_val (by kernel_rfl) (fun w' hS => by kernel_rfl)) hS0 ?_
      go_frame
      refine u_take 2 (some 101) (.pointer (some ⟨g, 7, none⟩)) rfl rfl (by kernel_rfl) (by kernel_rfl) (by kernel_rfl) (by kernel_rfl) (fun _ _ _ h => h) (y_val (by kernel_rfl) (fun w' hS => by kernel_rfl)) hS0 ?_
      go_frame
      refine u_take 3 (some 102) (.slice A' (s.L.length + 1) c') rfl rfl (by kernel_rfl) (by kernel_rfl) (by kernel_rfl) (by kernel_rfl) (fun _ _ _ h => h) (y_cell 24 (.tmp 101) ⟨g, 7, none⟩ _ (by kernel_rfl) rfl (by kernel_rfl) (fun w' hS => cellFr hg7 hS) Tryz.underlying24 rfl) hS0 ?_
      go_frame
      refine u_take 4 (some 103) (.int .i64 ((s.L.length + 1 : Nat) : Int)) rfl rfl (by kernel_rfl) (by kernel_rfl) (by kernel_rfl) (by kernel_rfl) (fun _ _ _ h => h) (y_val (by kernel_rfl) (fun w' hS => by kernel_rfl)) hS0 ?_
      go_frame
      refine u_take 5 (some 104) (.pointer (some ⟨m, 0, none⟩)) rfl rfl (by kernel_rfl) (by kernel_rfl) (by kernel_rfl) (by kernel_rfl) (fun _ _ _ h => h) (y_val (by kernel_rfl) (fun w' hS => by kernel_rfl)) hS0 ?_
      go_frame
      clear hS0
      refine u_call 6 (some 105) 63 #[.pointer (some ⟨m, 0, none⟩)] (.agg (lmA l)) (Fr none_ w4.drew) rfl rfl (by kernel_rfl) (by kernel_rfl) (by kernel_rfl) (memLimits_ok _ (HM.out.keep (Fr.refl none_ w4).drew)) ?_
      intro w5 hf5
      have F5 := hid_ (((Fr.refl none_ w4).drew).then_none hf5)
      refine ⟨F5.out, ?_⟩
      go_frame
      refine u_run 7 (some 106) (.int .i64 (l.s : Int)) w5 rfl rfl (by kernel_rfl) (by kernel_rfl) (by kernel_rfl) (.inr F5.out) ?_
      go_frame
      refine u_run 8 (some 107) (.bool (decide ((l.s : Int) ≤ ((s.L.length + 1 : Nat) : Int)))) w5 rfl rfl (by kernel_rfl) (by kernel_rfl) (by kernel_rfl) (.inr F5.out) ?_
      go_frame
      refine u_done (by kernel_rfl) ?_
      (try simp only [Exit.then])
      (try go_frame)
      (first | (rename_i hKm; refine hKm _ _ ?_) | (rename_i hKm _; refine hKm _ _ ?_) | (rename_i hKm _ _; refine hKm _ _ ?_) | (rename_i hKm _ _ _; refine hKm _ _ ?_))
      go_meet
      case rel => exact ⟨rfl, F5.out⟩
    case rest =>
    obtain ⟨rfl, hf5⟩ := hcut
    obtain ⟨w5, rfl⟩ : ∃ z : World, z = wc := ⟨_, rfl⟩
    replace L4 := hid_ (L4.out.keep hf5)
    replace HM := hid_ (HM.out.keep hf5)
    replace HF := hid_ (HF.out.then_none hf5)
    clear hf5 hg5 hg6 hg7 hq hd
    by_cases hle : l.s ≤ s.L.length + 1
    · have hd : decide ((l.s : Int) ≤ ((s.L.length + 1 : Nat) : Int)) = true := by simp; omega
      have HLE := hid_ hle
      rw [hd]
      clear hd hle
      go_wp2_with fail
      refine (ldStop_ok (errV 10) (.inr ⟨_, _, rfl⟩) L4.out).mono ?_
      rintro e w6 ⟨rfl, hl6, hf6⟩
      go_wp2_with fail
      go_ret
      exact ⟨R, A, c, B, d, kk, .nilIface, LD.out, .inl ⟨HC.out, rfl⟩, HM.out.ldr L4.out.b hf6, HF.out.then_only hf6 (.inl (.inr (.inl rfl))), .inr ⟨HC.out, A', c', B', d', true, errV 10, rfl, hl6, HOW.out.1, HOW.out.2, .inr (.inl ⟨HZ.out, HLE.out, rfl, rfl⟩)⟩⟩
    · have hd : decide ((l.s : Int) ≤ ((s.L.length + 1 : Nat) : Int)) = false := by simp; omega
      have HLE := hid_ hle
      rw [hd]
      clear hd hle
      go_wp2_with fail
      go_ret
      exact ⟨R, A, c, B, d, kk, .nilIface, LD.out, .inl ⟨HC.out, rfl⟩, HM.out, HF.out, .inr ⟨HC.out, A', c', B', d', false, s.ve, rfl, by rw [← HO.out]; exact L4.out, HOW.out.1, HOW.out.2, .inr (.inr ⟨HZ.out, by have := HLE.out; omega, rfl, rfl⟩)⟩⟩
/-- What Step's later accesses tell. -/
def LdNext (b0 g m : Nat) (k : Int) (l : Lm) (x : St) (s : LdS) (w : World) (e : Ending) (w' : World) : Prop :=
  ∃ (R : Rc) (A : Option Addr) (c : Nat) (B : Option Addr) (d : Nat) (kk : Int) (v : Value), LoadR x.ss s.ns s.ng R kk ∧ Ev w' v sArena9 s.ns kk ∧ Mm w' m (k + 1) l x ∧ Fr (lall m x b0) w w' ∧
    ((kk ≠ 0 ∧ e = .returned (.bool true) ∧ Ldr b0 w' g { s with over := true, ve := v }) ∨
     (kk = 0 ∧ ∃ (A' : Option Addr) (c' : Nat) (B' : Option Addr) (d' : Nat) (ov : Bool) (ve : Value), e = .returned (.bool ov) ∧ Ldr b0 w' g ⟨s.n, s.begun, ov, s.hs, s.hg, R.nslot, R.ngen, A', c', s.L ++ [⟨R, A, c, B, d⟩], B', d', s.refs ++ [(s.ns, s.ng)], ve⟩ ∧
       ((R.nslot = 0 ∧ R.ngen = 0 ∧ ov = true ∧ ve = .nilIface) ∨ (¬ (R.nslot = 0 ∧ R.ngen = 0) ∧ l.s ≤ s.L.length + 1 ∧ ov = true ∧ ve = errV 10) ∨ (¬ (R.nslot = 0 ∧ R.ngen = 0) ∧ s.L.length + 1 < l.s ∧ ov = false ∧ ve = s.ve))))
theorem step_next {b0 g m : Nat} {k : Int} {l : Lm} {x : St} {w : World} {s : LdS} (h : Ldr b0 w g s) (hm : Mm w m k l x) (hb : ∀ i, mall m x i → i < b0) (h0 : 0 ≤ k) (h1 : k ≤ 100000) (ho : s.over = false) (hg : s.begun = true) (hl1 : s.L.length ≤ 5000) (hl2 : s.refs.length ≤ 5000) :
    Calls Tryz.prog 28 #[.pointer (some ⟨g, 0, none⟩), .pointer (some ⟨m, 0, none⟩)] w (LdNext b0 g m k l x s w) := (step_nextO h hm hb h0 h1 ho hg hl1 hl2).mono fun e w' hh => by
  obtain ⟨R, A, c, B, d, kk, v, h1, h2, h3, h4, h5⟩ := hh
  refine ⟨R, A, c, B, d, kk, v, h1, h2, h3, h4.mono (fun i _ e => h.lall i e), ?_⟩
  rcases h5 with h5 | ⟨h5, A', c', B', d', ov, ve, h6, h7, _, _, h8⟩
  · exact .inl h5
  · exact .inr ⟨h5, A', c', B', d', ov, ve, h6, h7, h8⟩
end Go.Proofs.YtfihfjbakfadkaaGreatDoor
namespace Go.Proofs.YtfihfjbakfadkaaGreatDoor
open Go.RowKit Go.BigFrame
set_option maxRecDepth 100000
set_option linter.unusedVariables false

abbrev toCh (C : Cr) : Ch := ⟨C.R, C.A, C.c, C.B, C.d⟩
/-- A record's texts and entries are not too long. -/
structure RcOk (R : Rc) : Prop where
  low : SzOk R.low
  high : SzOk R.high
  key : SzOk R.key
  hkey : SzOk R.hkey
  ents : EtsOk R.ents
theorem flat_toCh (L : List Cr) : recFlat (L.map toCh) = crFlat L := by
  induction L with
  | nil => rfl
  | cons C t ih => simp only [recFlat, crFlat, List.map_cons, List.flatten_cons] at ih ⊢; rw [ih]
theorem map_toCh (L : List Cr) : (L.map toCh).map (·.R) = L.map (·.R) := by induction L with
  | nil => rfl
  | cons C t ih => simp only [List.map_cons]; rw [ih]
theorem Ldr.ch {b0 g : Nat} {w : World} {s : LdS} (h : Ldr b0 w g s) (hs : ∀ C ∈ s.L, RcOk C.R) : ChReads w s.A s.L.length (s.L.map toCh) := by
  refine chReads_own (Cs := s.L.map toCh) (base := b0) (c := s.c) (by rw [flat_toCh]; exact h.l) (by simp) (fun C hC => ?_)
  obtain ⟨D, hD, rfl⟩ := List.mem_map.1 hC
  have hk := hs D hD
  exact ChOwn.ok ⟨(h.own D hD).base (Nat.zero_le _), hk.low, hk.high, hk.key, hk.hkey, hk.ents⟩
theorem PgIn.only {b0 : Nat} {w w' : World} {L : List Rc} {refs : List (Int × Int)} {lv : Lw} {iv : Vw} {A B C D : Option Addr} {c d x y X : Nat} (h : PgIn b0 w L refs lv iv A c B d C x D y) (hX : Blk w X 40 pgZ) (hf : Fr (only X) w w') : PgIn b0 w' L refs lv iv A c B d C x D y := by
  obtain ⟨Cs, h1, h2, h3⟩ := h.ch
  exact ⟨⟨own_fr h.lv.own hf (fun k hk e => own_blk_ne h.lv.own hX (by decide) (by rw [hk, show k = X from e])), h.lv.ok⟩, h.iv.farZ hX hf,
    ⟨Cs, h1, own_fr h2 hf (fun k hk e => own_blk_ne h2 hX (by decide) (by rw [hk, show k = X from e])), fun E hE => (h3 E hE).only hf hX (by decide) (by decide)⟩,
    own_fr h.rf hf (fun k hk e => own_blk_ne h.rf hX (by decide) (by rw [hk, show k = X from e]))⟩
theorem PgIn.base {b0 b1 : Nat} {w : World} {L : List Rc} {refs : List (Int × Int)} {lv : Lw} {iv : Vw} {A B C D : Option Addr} {c d x y : Nat} (h : PgIn b1 w L refs lv iv A c B d C x D y) (hb : b0 ≤ b1) : PgIn b0 w L refs lv iv A c B d C x D y := by
  obtain ⟨Cs, h1, h2, h3⟩ := h.ch
  exact ⟨⟨own_base h.lv.own hb, h.lv.ok⟩, h.iv, ⟨Cs, h1, own_base h2 hb, h3⟩, own_base h.rf hb⟩
/-- What a call of Of told, in a world behind it, and all older than b0 is as it was. -/
def LdMade (b0 : Nat) (s : LdS) (w : World) (v : Value) (w' : World) : Prop :=
  ((∃ leaf lv iv A c B d C x D y, ofM (s.L.map (·.R)) = some (leaf, lv, iv) ∧ v = .tuple #[.agg (pgA s.n s.hs s.hg (.slice C s.L.length x) (.slice D s.refs.length y) leaf lv (.slice A lv.rows.length c) iv (.slice B iv.ents.length d)), .nilIface] ∧ PgIn b0 w' (s.L.map (·.R)) s.refs lv iv A c B d C x D y) ∨
   (∃ k : Int, CodeOf (s.L.map (·.R)) k ∧ ofM (s.L.map (·.R)) = none ∧ v = .tuple #[.agg pgZ, errV k])) ∧ Fr none_ w w'
theorem LdMade.only {b0 : Nat} {s : LdS} {w w1 w' : World} {v : Value} {X : Nat} (h : LdMade b0 s w v w1) (hX : Blk w1 X 40 pgZ) (hf : Fr (only X) w1 w') (hn : w.heap.size ≤ X) : LdMade b0 s w v w' := by
  obtain ⟨h, hf0⟩ := h
  refine ⟨?_, hf0.then_only hf (.inr hn)⟩
  rcases h with ⟨leaf, lv, iv, A, c, B, d, C, x, D, y, h1, h2, h3⟩ | h
  · exact .inl ⟨leaf, lv, iv, A, c, B, d, C, x, D, y, h1, h2, h3.only hX hf⟩
  · exact .inr h
theorem LdMade.of {b0 : Nat} {s : LdS} {w w1 w' : World} {v : Value} (h : OfPostO s.n s.hs s.hg ((s.L.map toCh).map (·.R)) s.refs w1 (.returned v) w') (hf : Fr none_ w w1) (hb : b0 ≤ w1.heap.size) : LdMade b0 s w v w' := by
  unfold OfPostO at h
  rw [map_toCh] at h
  rcases h with ⟨leaf, lv, iv, A, c, B, d, C, x, D, y, h1, h2, h3, h4⟩ | ⟨k, hk, h1, h2, h4⟩
  · refine ⟨.inl ⟨leaf, lv, iv, A, c, B, d, C, x, D, y, h1, ?_, h3.in_.base hb⟩, hf.then_none h4⟩
    have := Ending.returned.inj h2
    rw [this]
    simp
  · exact ⟨.inr ⟨k, hk, h1, Ending.returned.inj h2⟩, hf.then_none h4⟩
theorem LdMade.shape {b0 : Nat} {s : LdS} {w w' : World} {v : Value} (h : LdMade b0 s w v w') : ∃ (pv : Array Value) (ev : Value), v = .tuple #[.agg pv, ev] ∧ pv.size = 21 ∧ pv.all (·.oneCell') = true := by
  rcases h.1 with ⟨leaf, lv, iv, A, c, B, d, C, x, D, y, h1, h2, h3⟩ | ⟨k, hk, h1, h2⟩
  · exact ⟨_, _, h2, rfl, by simp [Value.oneCell']⟩
  · exact ⟨_, _, h2, rfl, by simp [Value.oneCell']⟩
theorem ld_range3 {w : World} {g : Nat} {s : LdS} (h : Blk w g 137 (ldA s)) : w.rangeAt g 3 [.int .i64 s.hs, .int .i64 s.hg] := fun j v hv => by
  match j, hv with
  | 0, hv => have e : some _ = some v := hv; rw [← e]; exact h.cell' rfl
  | 1, hv => have e : some _ = some v := hv; rw [← e]; exact h.cell' rfl
  | k + 2, hv => simp at hv
set_option maxHeartbeats 4000000 in
theorem ldMade_ok {b0 g bx : Nat} {w : World} {s : LdS} (h : Ldr b0 w g s) (hx : Blk w bx 84 #[.pointer (some ⟨g, 0, none⟩)]) (hs : ∀ C ∈ s.L, RcOk C.R) (hl : s.L.length ≤ 400) (h7 : RwOkL (s.L.map toCh)) (he : ∀ C ∈ s.L.map toCh, C.R.ents.length ≤ 500) (hr : s.refs.length ≤ 5000) :
    Calls Tryz.prog 59 #[.pointer (some ⟨bx, 0, none⟩)] w fun e w' => ∃ v, e = .returned v ∧ LdMade w.heap.size s w v w' := by
  obtain ⟨w0, hw0⟩ : ∃ z, z = w.alloc (.cells pgZ 40) := ⟨_, rfl⟩
  have f0 : Fr none_ w w0 := by rw [hw0]; exact (Fr.refl none_ w).alloc _
  have BZ : Hid (Blk w0 w.heap.size 40 pgZ) := hid_ (by rw [hw0]; exact Blk.new w _ _)
  have H := hid_ (h.keep f0)
  have BX := hid_ (hx.fr f0 id)
  have F0 := hid_ f0
  have HS := hid_ (And.intro hs (And.intro hl (And.intro h7 (And.intro he hr))))
  have hsz0 := BZ.out.lt
  clear h hx hs hl h7 he hr f0
  go_enter Tryz.func59, Tryz.ntmps59
  go_upto_region 1 with fail
  change Code.wp _ _ _ _ (w.alloc (.cells pgZ 40))
  rw [← hw0]
  clear hw0
  have hS0 : (fun w' : World => Blk w' g 137 (ldA s) ∧ Blk w' bx 84 #[.pointer (some ⟨g, 0, none⟩)]) w0.drew := ⟨H.out.b.drew, BX.out.drew⟩
  refine wp_region_u 21 (fun w' : World => Blk w' g 137 (ldA s) ∧ Blk w' bx 84 #[.pointer (some ⟨g, 0, none⟩)]) (by kernel_rfl) ?_
  refine u_take 0 (some 3) (.pointer (some ⟨g, 0, none⟩)) rfl rfl (by kernel_rfl) (by kernel_rfl) (by kernel_rfl) (by kernel_rfl) (fun _ _ _ h => h) (y_cell 84 (.tmp 0) ⟨bx, 0, none⟩ _ (by kernel_rfl) rfl (by kernel_rfl) (fun w' hS => hS.2.cell' rfl) Tryz.underlying84 rfl) hS0 ?_
  go_frame
  refine u_take 1 (some 4) (.pointer (some ⟨g, 0, none⟩)) rfl rfl (by kernel_rfl) (by kernel_rfl) (by kernel_rfl) (by kernel_rfl) (fun _ _ _ h => h) (y_val (by kernel_rfl) (fun w' hS => by kernel_rfl)) hS0 ?_
  go_frame
  refine u_take 2 (some 5) (.pointer (some ⟨g, 0, none⟩)) rfl rfl (by kernel_rfl) (by kernel_rfl) (by kernel_rfl) (by kernel_rfl) (fun _ _ _ h => h) (y_val (by kernel_rfl) (fun w' hS => by kernel_rfl)) hS0 ?_
  go_frame
  refine u_take 3 (some 6) (.int .i64 s.n) rfl rfl (by kernel_rfl) (by kernel_rfl) (by kernel_rfl) (by kernel_rfl) (fun _ _ _ h => h) (y_cell 3 (.tmp 5) ⟨g, 0, none⟩ _ (by kernel_rfl) rfl (by kernel_rfl) (fun w' hS => hS.1.cell' rfl) Tryz.underlying3 rfl) hS0 ?_
  go_frame
  refine u_take 4 (some 7) (.pointer (some ⟨g, 0, none⟩)) rfl rfl (by kernel_rfl) (by kernel_rfl) (by kernel_rfl) (by kernel_rfl) (fun _ _ _ h => h) (y_cell 84 (.tmp 0) ⟨bx, 0, none⟩ _ (by kernel_rfl) rfl (by kernel_rfl) (fun w' hS => hS.2.cell' rfl) Tryz.underlying84 rfl) hS0 ?_
  go_frame
  refine u_take 5 (some 8) (.pointer (some ⟨g, 0, none⟩)) rfl rfl (by kernel_rfl) (by kernel_rfl) (by kernel_rfl) (by kernel_rfl) (fun _ _ _ h => h) (y_val (by kernel_rfl) (fun w' hS => by kernel_rfl)) hS0 ?_
  go_frame
  refine u_take 6 (some 9) (.pointer (some ⟨g, 3, none⟩)) rfl rfl (by kernel_rfl) (by kernel_rfl) (by kernel_rfl) (by kernel_rfl) (fun _ _ _ h => h) (y_val (by kernel_rfl) (fun w' hS => by kernel_rfl)) hS0 ?_
  go_frame
  refine u_take 7 (some 10) (.agg #[.int .i64 s.hs, .int .i64 s.hg]) rfl rfl (by kernel_rfl) (by kernel_rfl) (by kernel_rfl) (by kernel_rfl) (fun _ _ _ h => h) (yieldsIf_load_mid (by kernel_rfl) 23 (.tmp 9) rfl g 3 (by kernel_rfl) [.int .i64 s.hs, .int .i64 s.hg] _ (fun w' hS => ld_range3 hS.1) Tryz.underlying23 rfl ref_size9) hS0 ?_
  go_frame
  refine u_take 8 (some 11) (.pointer (some ⟨g, 0, none⟩)) rfl rfl (by kernel_rfl) (by kernel_rfl) (by kernel_rfl) (by kernel_rfl) (fun _ _ _ h => h) (y_cell 84 (.tmp 0) ⟨bx, 0, none⟩ _ (by kernel_rfl) rfl (by kernel_rfl) (fun w' hS => hS.2.cell' rfl) Tryz.underlying84 rfl) hS0 ?_
  go_frame
  refine u_take 9 (some 12) (.pointer (some ⟨g, 0, none⟩)) rfl rfl (by kernel_rfl) (by kernel_rfl) (by kernel_rfl) (by kernel_rfl) (fun _ _ _ h => h) (y_val (by kernel_rfl) (fun w' hS => by kernel_rfl)) hS0 ?_
  go_frame
  refine u_take 10 (some 13) (.pointer (some ⟨g, 7, none⟩)) rfl rfl (by kernel_rfl) (by kernel_rfl) (by kernel_rfl) (by kernel_rfl) (fun _ _ _ h => h) (y_val (by kernel_rfl) (fun w' hS => by kernel_rfl)) hS0 ?_
  go_frame
  refine u_take 11 (some 14) (.slice s.A s.L.length s.c) rfl rfl (by kernel_rfl) (by kernel_rfl) (by kernel_rfl) (by kernel_rfl) (fun _ _ _ h => h) (y_cell 24 (.tmp 13) ⟨g, 7, none⟩ _ (by kernel_rfl) rfl (by kernel_rfl) (fun w' hS => hS.1.cell' rfl) Tryz.underlying24 rfl) hS0 ?_
  go_frame
  refine u_take 12 (some 15) (.pointer (some ⟨g, 0, none⟩)) rfl rfl (by kernel_rfl) (by kernel_rfl) (by kernel_rfl) (by kernel_rfl) (fun _ _ _ h => h) (y_cell 84 (.tmp 0) ⟨bx, 0, none⟩ _ (by kernel_rfl) rfl (by kernel_rfl) (fun w' hS => hS.2.cell' rfl) Tryz.underlying84 rfl) hS0 ?_
  go_frame
  refine u_take 13 (some 16) (.pointer (some ⟨g, 0, none⟩)) rfl rfl (by kernel_rfl) (by kernel_rfl) (by kernel_rfl) (by kernel_rfl) (fun _ _ _ h => h) (y_val (by kernel_rfl) (fun w' hS => by kernel_rfl)) hS0 ?_
  go_frame
  refine u_take 14 (some 17) (.pointer (some ⟨g, 8, none⟩)) rfl rfl (by kernel_rfl) (by kernel_rfl) (by kernel_rfl) (by kernel_rfl) (fun _ _ _ h => h) (y_val (by kernel_rfl) (fun w' hS => by kernel_rfl)) hS0 ?_
  go_frame
  refine u_take 15 (some 18) (.slice s.B s.refs.length s.e) rfl rfl (by kernel_rfl) (by kernel_rfl) (by kernel_rfl) (by kernel_rfl) (fun _ _ _ h => h) (y_cell 27 (.tmp 17) ⟨g, 8, none⟩ _ (by kernel_rfl) rfl (by kernel_rfl) (fun w' hS => hS.1.cell' rfl) Tryz.underlying27 rfl) hS0 ?_
  go_frame
  clear hS0
  refine u_callE 16 (some 19) 9 #[.int .i64 s.n, .agg #[.int .i64 s.hs, .int .i64 s.hg], .slice s.A s.L.length s.c, .slice s.B s.refs.length s.e] (fun v w' => LdMade w.heap.size s w v w' ∧ Fr none_ w0 w') rfl rfl (by kernel_rfl) (by kernel_rfl) (by kernel_rfl) ((of_okO s.n s.hs s.hg s.A s.L.length s.c (s.L.map toCh) s.refs s.B s.e w0.drew ((H.out.ch HS.out.1).keep (Fr.refl none_ w0).drew) HS.out.2.1 HS.out.2.2.1 HS.out.2.2.2.1 (Reads.of_own (own_none H.out.r (Fr.refl none_ w0).drew)) HS.out.2.2.2.2).mono (fun e w' hh => ?_)) ?_
  · have hfr : Fr none_ w0.drew w' := by rcases hh with ⟨_, _, _, _, _, _, _, _, _, _, _, _, _, _, h4⟩ | ⟨_, _, _, _, h4⟩ <;> exact h4
    have he : ∃ v, e = .returned v := by rcases hh with ⟨_, _, _, _, _, _, _, _, _, _, _, _, h2, _⟩ | ⟨_, _, _, h2, _⟩ <;> exact ⟨_, h2⟩
    obtain ⟨v, rfl⟩ := he
    exact ⟨v, rfl, LdMade.of hh (F0.out.then_none (Fr.refl none_ w0).drew) (by have := F0.out.size; simp; omega), (Fr.refl none_ w0).drew.then_none hfr⟩
  intro v w5 hh
  obtain ⟨pv, ev, rfl, hps, hpo⟩ := hh.1.shape
  have LM := hid_ hh.1
  have BZ5 := hid_ (BZ.out.fr hh.2 id)
  have hS5 : (fun w' : World => Blk w' g 137 (ldA s) ∧ Blk w' bx 84 #[.pointer (some ⟨g, 0, none⟩)]) w5 := ⟨H.out.b.fr hh.2 id, BX.out.fr hh.2 id⟩
  have FR5 := hid_ hh.2
  have hsz5 := hh.2.size
  clear hh
  refine ⟨hS5, ?_⟩
  go_frame
  refine u_take 17 (some 20) (.agg pv) rfl rfl (by kernel_rfl) (by kernel_rfl) (by kernel_rfl) (by kernel_rfl) (fun _ _ _ h => h) (y_val (by kernel_rfl) (fun w' hS => by kernel_rfl)) hS5 ?_
  go_frame
  refine u_take 18 (some 21) (ev) rfl rfl (by kernel_rfl) (by kernel_rfl) (by kernel_rfl) (by kernel_rfl) (fun _ _ _ h => h) (y_val (by kernel_rfl) (fun w' hS => by kernel_rfl)) hS5 ?_
  go_frame
  clear hS5
  have S5 : Hid ((fun w' : World => Blk w' g 137 (ldA s) ∧ Blk w' bx 84 #[.pointer (some ⟨g, 0, none⟩)]) w5) := hid_ ⟨H.out.b.fr FR5.out id, BX.out.fr FR5.out id⟩
  refine u_store 19 40 (.tmp 1) (.tmp 20) w.heap.size 0 pv rfl rfl (by kernel_rfl) (by kernel_rfl) rfl (by kernel_rfl) (by kernel_rfl) (by rw [hps]; exact BZ5.out.there7 rfl) (by rw [hps]; exact page_size) hpo ?_
  intro w6 hw6
  have ov := BZ5.out.over7 pv.toList (by simp [hps])
  rw [← hw6] at ov
  have OV := hid_ ov
  have LM6 := hid_ (LM.out.only BZ5.out ov.2 (Nat.le_refl _))
  have S6 : Hid ((fun w' : World => Blk w' g 137 (ldA s) ∧ Blk w' bx 84 #[.pointer (some ⟨g, 0, none⟩)]) w6) := hid_ ⟨S5.out.1.fr ov.2 (only_ne (Blk.ne_ S5.out.1 BZ5.out (by decide))), S5.out.2.fr ov.2 (only_ne (Blk.ne_ S5.out.2 BZ5.out (by decide)))⟩
  clear hw6 ov
  refine ⟨S6.out, ?_⟩
  refine u_run 20 (some 2) ev w6 rfl rfl (by kernel_rfl) (by kernel_rfl) (by kernel_rfl) (.inr S6.out) ?_
  go_frame
  refine u_done (by kernel_rfl) ?_
  go_wp2_with fail
  refine bodyPost_ret (results_cell_tmp7 _ _ rfl w.heap.size 0 pv.toList _ rfl (Blk.range7 (l := pv.toList) (by simpa using OV.out.1)) Tryz.underlying40 rfl (by rw [Array.length_toList, hps]; exact page_size)) rfl ⟨_, rfl, ?_⟩
  simpa using LM6.out
end Go.Proofs.YtfihfjbakfadkaaGreatDoor
namespace Go.Proofs.YtfihfjbakfadkaaGreatDoor
open Go.RowKit Go.BigFrame
set_option maxRecDepth 100000
set_option linter.unusedVariables false

/-- The two boxes that Page begins with. -/
theorem page_boxes (w : World) (v : Value) : ∃ w0, w0 = (w.alloc (.cells #[v] 84)).alloc (.cells pgZ 40) ∧ Fr none_ w w0 ∧ Blk w0 w.heap.size 84 #[v] ∧ Blk w0 (w.heap.size + 1) 40 pgZ :=
  ⟨_, rfl, ((Fr.refl none_ w).alloc _).alloc _, (Blk.new w _ _).alloc _, Blk.new7 _ _ (by simp)⟩
theorem LdMade.wide {b0 b1 : Nat} {s : LdS} {w w1 w' : World} {v : Value} (h : LdMade b1 s w1 v w') (hf : Fr none_ w w1) (hb : b0 ≤ b1) : LdMade b0 s w v w' := by
  obtain ⟨h, hf0⟩ := h
  refine ⟨?_, hf.then_none hf0⟩
  rcases h with ⟨leaf, lv, iv, A, c, B, d, C, x, D, y, h1, h2, h3⟩ | h
  · exact .inl ⟨leaf, lv, iv, A, c, B, d, C, x, D, y, h1, h2, h3.base hb⟩
  · exact .inr h
set_option maxHeartbeats 4000000 in
theorem ldPage_made {b0 g : Nat} {w : World} {s : LdS} (h : Ldr b0 w g s) (ho : s.over = true) (hv : s.ve = .nilIface) (hs : ∀ C ∈ s.L, RcOk C.R) (hl : s.L.length ≤ 400) (h7 : RwOkL (s.L.map toCh)) (he : ∀ C ∈ s.L.map toCh, C.R.ents.length ≤ 500) (hr : s.refs.length ≤ 5000) :
    Calls Tryz.prog 25 #[.pointer (some ⟨g, 0, none⟩)] w fun e w' => ∃ v, e = .returned v ∧ LdMade w.heap.size s w v w' := by
  obtain ⟨w0, hw0, f0, bx, bz⟩ := page_boxes w (.pointer (some ⟨g, 0, none⟩))
  have BX := hid_ bx
  have BZ := hid_ bz
  have F0 := hid_ f0
  have H := hid_ (h.keep f0)
  have HS := hid_ (And.intro hs (And.intro hl (And.intro h7 (And.intro he hr))))
  have x0 : w0.cell? ⟨w.heap.size, 0, none⟩ = some (.pointer (some ⟨g, 0, none⟩)) := bx.cell' rfl
  have g2 : w0.cell? ⟨g, 2, none⟩ = some (.bool true) := by rw [← ho]; exact H.out.b.cell' rfl
  have g9 : w0.cell? ⟨g, 9, none⟩ = some .nilIface := by rw [← hv]; exact H.out.b.cell' rfl
  have hsz0 := f0.size
  have hbl := bz.lt
  clear bx bz f0 h ho hv hs hl h7 he hr
  go_enter Tryz.func25, Tryz.ntmps25
  go_upto_region 1 with fail
  change Code.wp _ _ _ _ ((w.alloc (.cells #[.pointer (some ⟨g, 0, none⟩)] 84)).alloc (.cells pgZ 40))
  rw [← hw0]
  clear hw0
  go_wp2_with fail
  refine (ldMade_ok H.out BX.out HS.out.1 HS.out.2.1 HS.out.2.2.1 HS.out.2.2.2.1 HS.out.2.2.2.2).mono ?_
  rintro e w5 ⟨v, rfl, hm⟩
  obtain ⟨pv, ev, rfl, hps, hpo⟩ := hm.shape
  have LM := hid_ hm
  have BZ5 := hid_ (BZ.out.fr hm.2 id)
  clear hm x0 g2 g9
  go_wp2_with (refine wpList_store_mid rfl 40 (.tmp 2) (.tmp 32) rfl (w.heap.size + 1) 0 pv rfl rfl (by rw [hps]; exact BZ5.out.there7 rfl) (by rw [hps]; exact page_size) hpo ?_; have ov := BZ5.out.over7 pv.toList (by simp [hps]); obtain ⟨w9, hw9⟩ : ∃ z, z = w5.setCells (w.heap.size + 1) 0 pv.toList := ⟨_, rfl⟩; rw [← hw9] at ov; change wpList _ _ _ _ _ (w5.setCells (w.heap.size + 1) 0 pv.toList); rw [← hw9]; have OV := hid_ ov; clear hw9 ov)
  refine bodyPost_ret (results_cell_tmp7 _ _ rfl (w.heap.size + 1) 0 pv.toList _ rfl (Blk.range7 (l := pv.toList) (by simpa using OV.out.1)) Tryz.underlying40 rfl (by rw [Array.length_toList, hps]; exact page_size)) rfl ⟨_, rfl, ?_⟩
  have hfin := (LM.out.wide F0.out hsz0).only BZ5.out OV.out.2 (by omega)
  simpa using hfin
end Go.Proofs.YtfihfjbakfadkaaGreatDoor
namespace Go.Proofs.YtfihfjbakfadkaaGreatDoor
open Go.RowKit Go.BigFrame
set_option maxRecDepth 100000
set_option linter.unusedVariables false

theorem memCount_ok {m : Nat} {k : Int} {l : Lm} {x : St} (w : World) (h : Mm w m k l x) : Calls Tryz.prog 23 #[.pointer (some ⟨m, 0, none⟩)] w fun e w' => e = .returned (.int .i64 k) ∧ w = w' := by
  have c0 : w.cell? ⟨m, 0, none⟩ = some (.int .i64 k) := h.b.cell' rfl
  clear h
  go_enter Tryz.func23, Tryz.ntmps23
  go_wp2
  go_ret
  exact ⟨rfl, rfl⟩
theorem Mm.mall_lt {w : World} {m : Nat} {k : Int} {l : Lm} {x : St} (h : Mm w m k l x) : ∀ i, mall m x i → i < w.heap.size := by
  obtain ⟨cs, hG, _⟩ := h.ar.hG
  obtain ⟨cap, cur, hT0, hH, _⟩ := id h.tb
  rintro i (e | e | e | e | e)
  · rw [e]; exact h.b.lt
  · rw [e]; exact hG.lt
  · rw [e]; exact hH.lt
  · rw [e]; exact h.ck.hC.lt
  · obtain ⟨es, clock, hm, r⟩ := h.ck.hM
    rw [e]
    rcases Nat.lt_or_ge x.M w.heap.size with h1 | h1
    · exact h1
    · rw [Array.getElem?_eq_none h1] at hm; cases hm
abbrev lim10 : Lm := ⟨100, 4, 2, 4, 4, 99⟩
theorem lim10_right : lim10.Right := ⟨by decide, by decide, by decide, by decide, by decide, by decide⟩
theorem limits10_ok (w : World) : Calls Tryz.prog 19 #[] w fun e w' => e = .returned (.agg (lmA lim10)) ∧ Fr none_ w w' := by
  obtain ⟨w0, hw0⟩ : ∃ z, z = w.alloc (.cells #[.int .i64 0, .int .i64 0, .int .i64 0, .int .i64 0, .int .i64 0, .int .i64 0] 67) := ⟨_, rfl⟩
  have f0 : Fr none_ w w0 := by rw [hw0]; exact (Fr.refl none_ w).alloc _
  have BZ : Hid (Blk w0 w.heap.size 67 #[.int .i64 0, .int .i64 0, .int .i64 0, .int .i64 0, .int .i64 0, .int .i64 0]) := hid_ (by rw [hw0]; exact Blk.new w _ _)
  have F0 := hid_ f0
  clear f0
  go_enter Tryz.func19, Tryz.ntmps19
  go_upto_region 1 with fail
  change Code.wp _ _ _ _ (w.alloc (.cells #[.int .i64 0, .int .i64 0, .int .i64 0, .int .i64 0, .int .i64 0, .int .i64 0] 67))
  rw [← hw0]
  clear hw0
  go_wp2_with (refine wpList_store_mid rfl 67 (.tmp 0) (.tmp 1) rfl w.heap.size 0 (lmA lim10) rfl rfl (BZ.out.there9 rfl) lim_size9 (by simp [Value.oneCell']) ?_; have ov := BZ.out.over9 (lmA lim10).toList rfl; obtain ⟨w9, hw9⟩ : ∃ z, z = w0.setCells w.heap.size 0 (lmA lim10).toList := ⟨_, rfl⟩; rw [← hw9] at ov; change wpList _ _ _ _ _ (w0.setCells w.heap.size 0 (lmA lim10).toList); rw [← hw9]; have OV := hid_ ov; clear hw9 ov)
  exact bodyPost_ret (results_cell7 _ _ rfl w.heap.size 0 (lmA lim10).toList _ rfl (Blk.range7 (l := (lmA lim10).toList) OV.out.1) Tryz.underlying67 rfl lim_size9) rfl ⟨rfl, F0.out.then_only OV.out.2 (.inr (Nat.le_refl _))⟩
theorem lt_nil10 (x : ByteArray) : ltS x nilS = false := by
  rcases ltS_total x nilS with h | h | h
  · exfalso
    have h2 : ltL x.data.toList [] = true := h
    cases hx : x.data.toList <;> rw [hx] at h2 <;> simp [ltL] at h2
  · rw [h]; exact ltS_irrefl _
  · exact ltS_asymm h
abbrev lvZ10 : Lw := ⟨nilS, nilS, true, 0, [], false⟩
theorem of_leaf10 : ofM [leafR] = some (true, lvZ10, Vw.zero) := by
  unfold ofM
  rw [if_pos (by rfl), foldL_one leafR rfl ⟨fun _ => rfl, ⟨(fun p hp => by cases hp), (fun i p q hp hq => by simp at hp)⟩, (fun p hp => by cases hp)⟩]
  rfl
theorem leafR_ok : RcOk leafR := ⟨SzOk.nil, SzOk.nil, SzOk.nil, SzOk.nil, ⟨Nat.zero_le _, fun p hp => by cases hp⟩⟩
/-- A new memory's parts. -/
abbrev ss10 (vr ve : Value) : List Sl := ⟨1, true, leafR, vr, ve⟩ :: List.replicate (lim10.s - 1) Sl.zero
abbrev ps10 : List Pg := (true, 1, 1) :: List.replicate (lim10.p - 1) (false, 0, 0)
theorem head10 {s g c : Int} (h : HeadR ps10 0 s g c) : s = 1 ∧ g = 1 ∧ c = 0 := by
  rcases h with ⟨i, hi, hp, hc⟩ | ⟨h, _⟩
  · obtain rfl : i = 0 := by omega
    simp at hp
    exact ⟨hp.1.symm, hp.2.symm, hc⟩
  · exact absurd (pgC_used (i := 0) (ps := ps10) (s := 1) (g := 1) rfl) h
theorem load10 {vr ve : Value} {R : Rc} {c : Int} (h : LoadR (ss10 vr ve) 1 1 R c) : R = leafR ∧ c = 0 := by
  rcases h with ⟨i, s, hi, hs, _, _, hc, hR⟩ | ⟨h, _⟩
  · obtain rfl : i = 0 := by omega
    have hs' : s = ⟨1, true, leafR, vr, ve⟩ := by simpa using hs.symm
    rw [hR, hs']
    exact ⟨rfl, hc⟩
  · exact absurd (show atC (ss10 vr ve) 1 1 = 0 by rfl) h
set_option maxHeartbeats 8000000 in
theorem awake10_ok (w : World) : Calls Tryz.prog 7 #[] w fun e w' => e = .returned (.bool true) ∧ Fr none_ w w' := by
  go_enter Tryz.func7, Tryz.ntmps7
  go_wp2_with fail
  refine (limits10_ok w).mono ?_
  rintro e w0 ⟨rfl, hf0⟩
  have F0 := hid_ hf0
  clear hf0
  go_wp2_with fail
  refine (memNew_ok lim10 _ lim10_right).mono ?_
  rintro e w1 ⟨m, a, G, vr, ve, T, H, C, M, rfl, hM, hf1, hm1, hC1, hM1, hG1, hH1⟩
  obtain ⟨x, hx⟩ : ∃ x : St, x = ⟨a, G, ss10 vr ve, T, H, ps10, C, M, 1, 0, .map []⟩ := ⟨_, rfl⟩
  have HX := hid_ hx
  have M1 : Hid (Mm w1 m 0 lim10 x) := hid_ (by rw [hx]; exact hM)
  have HN : Hid (∀ i, mall m x i → w.heap.size ≤ i) := hid_ (by
    have h0 := F0.out.size
    subst hx
    rintro i (e | e | e | e | e) <;> subst e <;> omega)
  have F1 := hid_ (F0.out.then_none hf1)
  clear hM hf1 hx hm1 hC1 hM1 hG1 hH1
  go_wp2_with fail
  refine (ldBegin_ok 0 w1).mono ?_
  rintro e w2 ⟨rfl, hL, hf2⟩
  have L2 := hid_ hL
  have M2 := hid_ (M1.out.keep hf2)
  have HB := hid_ M1.out.mall_lt
  have F2 := hid_ (F1.out.then_none hf2)
  have HW := hid_ F1.out.size
  clear hL hf2 M1
  have HPS : Hid (x.ps = ps10) := hid_ (by rw [HX.out])
  have HSS : Hid (x.ss = ss10 vr ve) := hid_ (by rw [HX.out])
  clear HX
  go_wp2_with fail
  refine (step_first L2.out M2.out HB.out (by omega) (by omega) rfl rfl).mono ?_
  rintro e w3 ⟨s0, g0, c0, v0, hhd, -, hm3, hf3, hcase⟩
  obtain ⟨rfl, rfl, rfl⟩ := head10 (by rw [← HPS.out]; exact hhd)
  obtain ⟨rfl, hL3⟩ : e = .returned (.bool false) ∧ Ldr w1.heap.size w3 w1.heap.size { LdS.new 0 with begun := true, hs := 1, hg := 1, ns := 1, ng := 1 } := by
    rcases hcase with ⟨h, _⟩ | ⟨_, h, _⟩ | ⟨_, _, h1, h2⟩
    · exact absurd rfl h
    · exact absurd h (by decide)
    · exact ⟨h1, h2⟩
  have L3 := hid_ hL3
  have M3 := hid_ hm3
  have F3 : Hid (Fr none_ w w3) := hid_ (F2.out.trans hf3 (fun _ _ => id) (fun i hi e => by
    rcases e with e | e
    · have := HN.out i e; omega
    · have := HW.out; omega))
  clear hhd hcase hL3 hm3 hf3 L2 M2
  go_wp2_with fail
  refine (step_next L3.out M3.out HB.out (by omega) (by omega) rfl rfl (Nat.zero_le _) (Nat.zero_le _)).mono ?_
  rintro e w4 ⟨R, A, c, B, d, kk, v1, hld, -, hm4, hf4, hcase⟩
  obtain ⟨rfl, rfl⟩ := load10 (vr := vr) (ve := ve) (by rw [← HSS.out]; exact hld)
  obtain ⟨A1, c1, B1, d1, rfl, hL4⟩ : ∃ (A1 : Option Addr) (c1 : Nat) (B1 : Option Addr) (d1 : Nat), e = .returned (.bool true) ∧ Ldr w1.heap.size w4 w1.heap.size ⟨0, true, true, 1, 1, 0, 0, A1, c1, [⟨leafR, A, c, B, d⟩], B1, d1, [(1, 1)], .nilIface⟩ := by
    rcases hcase with ⟨h, _⟩ | ⟨_, A1, c1, B1, d1, ov, ve1, h1, h2, h3⟩
    · exact absurd rfl h
    · rcases h3 with ⟨_, _, rfl, rfl⟩ | ⟨h, _⟩ | ⟨h, _⟩
      · exact ⟨A1, c1, B1, d1, h1, h2⟩
      · exact absurd ⟨rfl, rfl⟩ h
      · exact absurd ⟨rfl, rfl⟩ h
  have L4 := hid_ hL4
  have M4 := hid_ hm4
  have F4 : Hid (Fr none_ w w4) := hid_ (F3.out.trans hf4 (fun _ _ => id) (fun i hi e => by
    rcases e with e | e
    · have := HN.out i e; omega
    · have := HW.out; omega))
  clear hld hcase hL4 hm4 hf4 L3 M3
  go_wp2_with fail
  refine (ldPage_made L4.out rfl rfl (fun D hD => by
    obtain rfl : D = ⟨leafR, A, c, B, d⟩ := by simpa using hD
    exact leafR_ok) (show 1 ≤ 400 by omega) (fun D hD => by
    obtain rfl : D = toCh ⟨leafR, A, c, B, d⟩ := by simpa using hD
    exact ⟨SzOk.nil, ⟨Nat.zero_le _, fun p hp => by cases hp⟩, Nat.zero_le _⟩) (fun D hD => by
    obtain rfl : D = toCh ⟨leafR, A, c, B, d⟩ := by simpa using hD
    exact Nat.zero_le _) (show 1 ≤ 5000 by omega)).mono ?_
  rintro e w5 ⟨v, rfl, hmd⟩
  have F5 := hid_ (F4.out.then_none hmd.2)
  have M5 := hid_ (M4.out.keep hmd.2)
  obtain ⟨P, rfl, hpv, hpl, hpu, hll, hlh⟩ : ∃ P : Pz, v = .tuple #[.agg (pzA P), .nilIface] ∧ (pzA P).all (·.oneCell') = true ∧ P.leaf = true ∧ P.lv.unb = true ∧ P.lv.low = nilS ∧ P.lv.high = nilS := by
    rcases hmd.1 with ⟨leaf, lv, iv, A2, c2, B2, d2, C2, x2, D2, y2, h1, h2, h3⟩ | ⟨k, _, h1, _⟩
    · have h4 : some (true, lvZ10, Vw.zero) = some (leaf, lv, iv) := of_leaf10.symm.trans h1
      simp only [Option.some.injEq, Prod.mk.injEq] at h4
      obtain ⟨rfl, rfl, rfl⟩ := h4
      exact ⟨⟨0, 1, 1, C2, 1, x2, .slice D2 1 y2, true, lvZ10, A2, c2, Vw.zero, B2, d2⟩, h2, by simp [Value.oneCell'], rfl, rfl, rfl, rfl⟩
    · exact absurd (of_leaf10.symm.trans h1) (by simp)
  have HPL := hid_ hpl
  have HIN : Hid (SzOk P.low ∧ SzOk P.high ∧ inS P.low P.high P.unb ⟨#[97]⟩ = true) := hid_ (by
    have e1 : P.low = nilS := by unfold Pz.low; rw [hpl, hll]; rfl
    have e2 : P.high = nilS := by unfold Pz.high; rw [hpl, hlh]; rfl
    have e3 : P.unb = true := by unfold Pz.unb; rw [hpl, hpu]; rfl
    rw [e1, e2, e3]
    exact ⟨SzOk.nil, SzOk.nil, by simp [inS, lt_nil10]⟩)
  have HPU := hid_ hpu
  have HPV := hid_ hpv
  replace M5 : Hid (Mm w5 m 2 lim10 x) := hid_ M5.out
  clear hmd hpv hpl hpu hll hlh M4
  go_upto_region 5 with (refine wpList_store_mid rfl 40 (.tmp 6) (.tmp 23) rfl w5.heap.size 0 (pzA P) rfl rfl (new_there w5 _ pgZ) page_size HPV.out ?_; obtain ⟨w6, hw6⟩ : ∃ z, z = (w5.alloc (.cells pgZ 40)).setCells w5.heap.size 0 (pzA P).toList := ⟨_, rfl⟩; change wpList _ _ _ _ _ ((w5.alloc (.cells pgZ 40)).setCells w5.heap.size 0 (pzA P).toList); rw [← hw6]; have P6 : Hid (Blk w6 w5.heap.size 40 (pzA P) ∧ Fr none_ w5 w6) := hid_ (by rw [hw6]; exact new_copy w5 _ pgZ _ rfl); clear hw6)
  have M6 := hid_ (M5.out.keep P6.out.2)
  have F6 := hid_ (F5.out.then_none P6.out.2)
  have B6 := hid_ P6.out.1
  have p5 : w6.cell? ⟨w5.heap.size, 5, none⟩ = some (.bool true) := by rw [← HPL.out]; exact B6.out.cell' rfl
  have p8 : w6.cell? ⟨w5.heap.size, 8, none⟩ = some (.bool true) := by rw [← HPU.out]; exact B6.out.cell' rfl
  clear P6 M5 F5
  go_wp2_with (first | (refine wpList_load_mid rfl 40 (.tmp 6) rfl w5.heap.size 0 rfl (pzA P).toList _ (Blk.range7 (l := (pzA P).toList) B6.out) Tryz.underlying40 rfl page_size ?_) | (refine wpList_load_midG (by kernel_rfl) 40 (.tmp 6) rfl w5.heap.size 0 rfl (pzA P).toList _ (Blk.range7 (l := (pzA P).toList) B6.out) Tryz.underlying40 rfl page_size ?_))
  refine (phas_ok P ⟨#[97]⟩ w6 HIN.out.1 HIN.out.2.1 (by unfold SzOk; decide)).mono ?_
  rintro e w7 ⟨rfl, hf7⟩
  rw [HIN.out.2.2]
  have M7 := hid_ (M6.out.keep hf7)
  have F7 := hid_ (F6.out.then_none hf7)
  clear hf7 p5 p8
  go_wp2_with fail
  refine (memCount_ok w7 M7.out).mono ?_
  rintro e w8 ⟨rfl, rfl⟩
  go_wp2_with fail
  go_ret
  exact ⟨rfl, F7.out⟩
end Go.Proofs.YtfihfjbakfadkaaGreatDoor
namespace Go.Proofs.YtfihfjbakfadkaaGreatDoor
open Go.RowKit Go.BigFrame Go.ChangeShapes Go.WideShapes
set_option maxRecDepth 100000
set_option linter.unusedVariables false

set_option maxHeartbeats 1000000 in
theorem ins_of3 {H : Type} {enc : TypeId × Value → H} {w : World} {A : Option Addr} {n : Nat} (h : RecordAt enc w A n) : ∃ L, InReads w A n L ∧ RwIn L ∧ RwCap L := by
  rcases Nat.eq_zero_or_pos n with h0 | h0
  · subst h0; exact ⟨[], ⟨rfl, fun h => absurd h (by omega)⟩, (fun C hC => by simp at hC), fun C hC => by simp at hC⟩
  · obtain ⟨b, off, hA, hb, hc⟩ := h h0
    obtain ⟨L, hl, hL⟩ := choose_list (α := Ch) (P := fun k C => (w.rangeAt b (off + k * 15) (recL C) ∧ ChIn w C) ∧ ((SzOk C.R.val ∧ ∀ p ∈ C.R.rows, SzOk p.1 ∧ SzOk p.2) ∧ C.R.rows.length ≤ C.c ∧ C.c ≤ maxLen)) n (fun k hk => by
      obtain ⟨x0, x1, x2, x3, x4, x5, x6, x7, x8, x9, x10, x11, x12, x13, x14, w0, w1, w2, w4, w5, w6, w7, w8, w9, w10, w11, w12, w13, w14, h0, h1, h2, h3, h4, h5, h6, h7, h8, h9, h10, h11, h12, h13, h14⟩ := hc k hk
      obtain ⟨A5, n5, c5, L5, rfl, q1, q2, r5⟩ := rows_conf2 w5
      obtain ⟨A6, n6, c6, L6, rfl, p1, p2, -, r6⟩ := ents_conf w6
      have ks : ∀ p ∈ L6, SzOk p.1 := fun p hp => by
        obtain ⟨j, hj⟩ := List.mem_iff_getElem?.1 hp
        obtain ⟨_, _, _, _, hc⟩ := r6.2 (by have := (List.getElem?_eq_some_iff.1 hj).1; have := r6.1; omega)
        exact szOk_of (hc j p hj).1.1
      have kr : ∀ p ∈ L5, SzOk p.1 ∧ SzOk p.2 := fun p hp => by
        obtain ⟨j, hj⟩ := List.mem_iff_getElem?.1 hp
        obtain ⟨_, _, _, _, hc⟩ := r5.2 (by have := (List.getElem?_eq_some_iff.1 hj).1; have := r5.1; omega)
        exact ⟨szOk_of (hc j p hj).1.1, szOk_of (hc j p hj).1.2⟩
      obtain rfl := r5.1
      obtain rfl := r6.1
      refine ⟨⟨⟨x0, x1, x2, x3, x4, L5, L6, x7, x8, x9, x10, x11, x12, x13, x14⟩, A5, c5, A6, c6⟩, ⟨fun j v hv => ?_, ⟨r5.reads, r6.reads⟩, szOk_of w1, szOk_of w2, szOk_of w7, szOk_of w12, ks, p1, p2, by show L5.length ≤ _; omega⟩, ⟨szOk_of w8, kr⟩, (by show L5.length ≤ c5; exact q1), (by show c5 ≤ maxLen; unfold maxLen; omega)⟩
      match j, hv with
      | 0, hv => have e : some (.int .i64 x0) = some v := hv; rw [← Option.some.inj e]; exact h0
      | 1, hv => have e : some (.string x1) = some v := hv; rw [← Option.some.inj e]; exact h1
      | 2, hv => have e : some (.string x2) = some v := hv; rw [← Option.some.inj e]; exact h2
      | 3, hv => have e : some (.bool x3) = some v := hv; rw [← Option.some.inj e]; exact h3
      | 4, hv => have e : some (.int .i64 x4) = some v := hv; rw [← Option.some.inj e]; exact h4
      | 5, hv => have e : some (.slice A5 L5.length c5) = some v := hv; rw [← Option.some.inj e]; exact h5
      | 6, hv => have e : some (.slice A6 L6.length c6) = some v := hv; rw [← Option.some.inj e]; exact h6
      | 7, hv => have e : some (.string x7) = some v := hv; rw [← Option.some.inj e]; exact h7
      | 8, hv => have e : some (.string x8) = some v := hv; rw [← Option.some.inj e]; exact h8
      | 9, hv => have e : some (.int .i64 x9) = some v := hv; rw [← Option.some.inj e]; exact h9
      | 10, hv => have e : some (.int .i64 x10) = some v := hv; rw [← Option.some.inj e]; exact h10
      | 11, hv => have e : some (.int .i64 x11) = some v := hv; rw [← Option.some.inj e]; exact h11
      | 12, hv => have e : some (.string x12) = some v := hv; rw [← Option.some.inj e]; exact h12
      | 13, hv => have e : some (.int .i64 x13) = some v := hv; rw [← Option.some.inj e]; exact h13
      | 14, hv => have e : some (.int .i64 x14) = some v := hv; rw [← Option.some.inj e]; exact h14
      | j + 15, hv => simp at hv)
    exact ⟨L, ⟨hl, fun _ => ⟨b, off, hA, hb, fun k C hC => (hL k C hC).1⟩⟩, fun C hC => by obtain ⟨k, hk⟩ := List.mem_iff_getElem?.1 hC; exact (hL k C hk).2.1, fun C hC => by obtain ⟨k, hk⟩ := List.mem_iff_getElem?.1 hC; exact (hL k C hk).2.2⟩
end Go.Proofs.YtfihfjbakfadkaaGreatDoor
namespace Go.Proofs.YtfihfjbakfadkaaGreatDoor
open Go.RowKit Go.Extern.Stop Go.Stop Go.Extern
set_option linter.unusedVariables false

def hdl (t : Nat) : Value := .pointer (some ⟨1, t, none⟩)
theorem as_nil (t : Value) (w : World) : Calls Tryz.prog 39 #[.nilIface, t] w fun e w' => e = .returned (.bool false) ∧ w = w' := by
  go_enter Tryz.func39, Tryz.ntmps39
  go_wp2
  go_ret
  exact ⟨rfl, rfl⟩

theorem valueOfT (t : Addr) (w : World) : (ReflectliteValue.unpack (.iface 104 (.pointer (some t)))).run Tryz.prog w
    = .ok (.agg #[.pointer (some ⟨1, 104, none⟩), .pointer (some ⟨w.heap.size, 0, none⟩), .int .u64 150]) (w.alloc (.cells #[.pointer (some t)] 104)) := by kernel_rfl
theorem typeT (a : Addr) (w : World) : (ReflectliteValue.methodAny (ReflectliteValue.valueError "reflectlite.Value.Type" 0) (fun t _ _ _ => ReflectliteType.toType t) #[.agg #[.pointer (some ⟨1, 104, none⟩), .pointer (some a), .int .u64 150]]).run Tryz.prog w
    = .ok (.iface 227 (.agg #[.pointer (some ⟨1, 104, none⟩)])) w := by kernel_rfl
theorem methodKind (h : Value) (w : World) : (Go.method 380 227 (.agg #[h]) "Kind").run Tryz.prog w = .ok (140, h) w := by kernel_rfl
theorem kindT (w : World) : ((ReflectliteType.abiMethod fun t => (fun a : Nat => Value.int IntKind.u8 (a : Int)) <$> Rtype.kind t) #[.pointer (some ⟨1, 104, none⟩)]).run Tryz.prog w = .ok (.int .u8 22) w := by kernel_rfl
theorem kindC (w : World) : ((ReflectliteType.abiMethod fun t => (fun a : Nat => Value.int IntKind.u8 (a : Int)) <$> Rtype.kind t) #[.pointer (some ⟨1, 49, none⟩)]).run Tryz.prog w = .ok (.int .u8 2) w := by kernel_rfl
theorem rlm (z : Sem Value) (f : TypeId → Addr → Nat → Nat → Sem Value) (v : Value) :
    ReflectliteValue.method z f #[v] = (do match ← ReflectliteValue.parts v with | none => z | some (t, a, fl) => f t a fl (fl % 32)) := rfl
theorem partsT (a : Addr) (w : World) : (ReflectliteValue.parts (.agg #[.pointer (some ⟨1, 104, none⟩), .pointer (some a), .int .u64 150])).run Tryz.prog w = .ok (some (104, a, 150)) w := by kernel_rfl
theorem isNilT (a p : Addr) (W : World) (ha : W.cell? a = some (.pointer (some p))) :
    (ReflectliteValue.method (ReflectliteValue.valueError "reflectlite.Value.IsNil" 0) ReflectliteValue.isNil #[.agg #[.pointer (some ⟨1, 104, none⟩), .pointer (some a), .int .u64 150]]).run Tryz.prog W = .ok (.bool false) W := by
  rw [rlm]
  simp only [Sem.run_bind, partsT, Result.andThen]
  simp [ReflectliteValue.isNil, loadVar, isAgg, underlying, Tryz.underlying104, ha, Result.andThen]
theorem methodElem (h : Value) (w : World) : (Go.method 380 227 (.agg #[h]) "Elem").run Tryz.prog w = .ok (156, .agg #[h]) w := by kernel_rfl
theorem methodImplements (h : Value) (w : World) : (Go.method 380 227 (.agg #[h]) "Implements").run Tryz.prog w = .ok (157, .agg #[h]) w := by kernel_rfl
theorem methodAssignableTo (h : Value) (w : World) : (Go.method 380 227 (.agg #[h]) "AssignableTo").run Tryz.prog w = .ok (154, .agg #[h]) w := by kernel_rfl
theorem elemT (w : World) : (ReflectliteType.method ReflectliteType.elem #[.agg #[.pointer (some ⟨1, 104, none⟩)]]).run Tryz.prog w = .ok (.iface 227 (.agg #[.pointer (some ⟨1, 49, none⟩)])) w := by kernel_rfl
theorem implementsC (w : World) : (ReflectliteType.relation "Implements" ReflectliteType.implements_ #[.agg #[.pointer (some ⟨1, 49, none⟩)], .iface 227 (.agg #[.pointer (some ⟨1, 42, none⟩)])]).run Tryz.prog w = .ok (.bool true) w := by kernel_rfl
theorem typeOfC (v : Value) (w : World) : (ReflectliteType.typeOf #[.iface 49 v]).run Tryz.prog w = .ok (.iface 227 (.agg #[.pointer (some ⟨1, 49, none⟩)])) w := by kernel_rfl
theorem assignableC (w : World) : (ReflectliteType.relation "AssignableTo" ReflectliteType.assignableTo #[.agg #[.pointer (some ⟨1, 49, none⟩)], .iface 227 (.agg #[.pointer (some ⟨1, 49, none⟩)])]).run Tryz.prog w = .ok (.bool true) w := by kernel_rfl
theorem valueOfC (k : Int) (w : World) : (ReflectliteValue.unpack (.iface 49 (.int .i64 k))).run Tryz.prog w
    = .ok (.agg #[.pointer (some ⟨1, 49, none⟩), .pointer (some ⟨w.heap.size, 0, none⟩), .int .u64 130]) (w.alloc (.cells #[.int .i64 k] 49)) := by kernel_rfl
theorem elemOfT (w : World) : (Rtype.elem? 104).run Tryz.prog w = .ok (some 49) w := by kernel_rfl
theorem mkC (p : Addr) (w : World) : (ReflectliteValue.mk 49 p ReflectliteValue.flagAddr).run Tryz.prog w = .ok (.agg #[.pointer (some ⟨1, 49, none⟩), .pointer (some p), .int .u64 386]) w := by kernel_rfl
theorem elemV (a p : Addr) (W : World) (ha : W.cell? a = some (.pointer (some p))) :
    (ReflectliteValue.method (ReflectliteValue.valueError "reflectlite.Value.Elem" 0) ReflectliteValue.elem #[.agg #[.pointer (some ⟨1, 104, none⟩), .pointer (some a), .int .u64 150]]).run Tryz.prog W
      = .ok (.agg #[.pointer (some ⟨1, 49, none⟩), .pointer (some p), .int .u64 386]) W := by
  rw [rlm]
  simp only [Sem.run_bind, partsT, Result.andThen]
  simp [ReflectliteValue.elem, loadVar, isAgg, underlying, Tryz.underlying104, ha, Result.andThen, elemOfT, mkC]
theorem rls (v x : Value) : ∃ s1 s2 s3 s4 s5 : String, ReflectliteValue.set #[v, x] = (do
    let (some (dst, a, fl), some (src, b, _)) := (← ReflectliteValue.parts v, ← ReflectliteValue.parts x)
      | unsupported (.noEntry s1)
    if fl / ReflectliteValue.flagAddr % 2 == 0 then unsupported (.noEntry s2)
    let val ← loadVar src b
    if ← Rtype.directlyAssignable dst src then storeVar dst a val
    else if ← Rtype.implements dst src then
      if (← Rtype.kind src) == 20 then
        match val with
        | .nilIface => unsupported (.noEntry s3)
        | _ => storeVar dst a val
      else storeVar dst a (.iface src val)
    else panicString (s4 ++ (← Rtype.spelt src) ++ s5 ++ (← Rtype.spelt dst))
    pure (.tuple #[])) := ⟨_, _, _, _, _, rfl⟩
theorem partsA (a : Addr) (w : World) : (ReflectliteValue.parts (.agg #[.pointer (some ⟨1, 49, none⟩), .pointer (some a), .int .u64 386])).run Tryz.prog w = .ok (some (49, a, 386)) w := by kernel_rfl
theorem partsB (a : Addr) (w : World) : (ReflectliteValue.parts (.agg #[.pointer (some ⟨1, 49, none⟩), .pointer (some a), .int .u64 130])).run Tryz.prog w = .ok (some (49, a, 130)) w := by kernel_rfl
theorem directC (w : World) : (Rtype.directlyAssignable 49 49).run Tryz.prog w = .ok true w := by kernel_rfl
theorem setC (ta b : Addr) (k : Int) (old : Value) (W : World) (hb : W.cell? b = some (.int .i64 k)) (ht : W.cell? ta = some old) (hf : W.frozen? ta = false) :
    (ReflectliteValue.set #[.agg #[.pointer (some ⟨1, 49, none⟩), .pointer (some ta), .int .u64 386], .agg #[.pointer (some ⟨1, 49, none⟩), .pointer (some b), .int .u64 130]]).run Tryz.prog W
      = .ok (.tuple #[]) (W.setCell ta (.int .i64 k)) := by
  obtain ⟨s1, s2, s3, s4, s5, e⟩ := rls (.agg #[.pointer (some ⟨1, 49, none⟩), .pointer (some ta), .int .u64 386]) (.agg #[.pointer (some ⟨1, 49, none⟩), .pointer (some b), .int .u64 130])
  rw [e]
  simp only [Sem.run_bind, partsA, partsB, Result.andThen]
  simp [ReflectliteValue.flagAddr, loadVar, isAgg, underlying, Tryz.underlying49, hb, Result.andThen, directC, storeVar, Value.cells, storeCells, Addr.add]
  rw [run_store Tryz.prog W ta _ _ (by rfl)]
  simp [ht, hf]

set_option maxHeartbeats 4000000 in
/-- errors.As(a code, the address of a code): true; the code is laid there. -/
theorem as_hit (k old : Int) (t : Nat) (w : World) (hg : w.cell? ⟨0, 0, none⟩ = some (.iface 227 (.agg #[.pointer (some ⟨1, 42, none⟩)]))) (hT : Blk w t 49 #[.int .i64 old]) :
    Calls Tryz.prog 39 #[.iface 49 (.int .i64 k), .iface 104 (.pointer (some ⟨t, 0, none⟩))] w fun ev w' => ev = .returned (.bool true) ∧ Blk w' t 49 #[.int .i64 k] ∧ Fr (only t) w w' := by
  have h6 := @run_callFunc_extern Tryz.prog 81 _ (fun args => ReflectliteValue.unpack (args.getD 0 (.tuple #[]))) Tryz.func81 (by kernel_rfl) (by kernel_rfl) (by kernel_rfl) (by kernel_rfl)
  have h7 := @run_callFunc_extern Tryz.prog 82 _ (ReflectliteValue.methodAny (ReflectliteValue.valueError "reflectlite.Value.Type" 0) (fun t _ _ _ => ReflectliteType.toType t)) Tryz.func82 (by kernel_rfl) (by kernel_rfl) (by kernel_rfl) (by kernel_rfl)
  have h8 := @run_callFunc_extern Tryz.prog 83 _ (ReflectliteValue.method (ReflectliteValue.valueError "reflectlite.Value.IsNil" 0) ReflectliteValue.isNil) Tryz.func83 (by kernel_rfl) (by kernel_rfl) (by kernel_rfl) (by kernel_rfl)
  have h27 := @run_callFunc_extern Tryz.prog 140 _ (ReflectliteType.abiMethod fun t => do pure (.int .u8 (← Rtype.kind t))) Tryz.func140 (by kernel_rfl) (by kernel_rfl) (by kernel_rfl) (by kernel_rfl)
  have h37 := @run_callFunc_extern Tryz.prog 156 _ (ReflectliteType.method ReflectliteType.elem) Tryz.func156 (by kernel_rfl) (by kernel_rfl) (by kernel_rfl) (by kernel_rfl)
  have h38 := @run_callFunc_extern Tryz.prog 157 _ (ReflectliteType.relation "Implements" ReflectliteType.implements_) Tryz.func157 (by kernel_rfl) (by kernel_rfl) (by kernel_rfl) (by kernel_rfl)
  have h10 := @run_callFunc_extern Tryz.prog 101 _ ReflectliteType.typeOf Tryz.func101 (by kernel_rfl) (by kernel_rfl) (by kernel_rfl) (by kernel_rfl)
  have h35 := @run_callFunc_extern Tryz.prog 154 _ (ReflectliteType.relation "AssignableTo" ReflectliteType.assignableTo) Tryz.func154 (by kernel_rfl) (by kernel_rfl) (by kernel_rfl) (by kernel_rfl)
  have h11 := @run_callFunc_extern Tryz.prog 116 _ (ReflectliteValue.method (ReflectliteValue.valueError "reflectlite.Value.Elem" 0) ReflectliteValue.elem) Tryz.func116 (by kernel_rfl) (by kernel_rfl) (by kernel_rfl) (by kernel_rfl)
  have h12 := @run_callFunc_extern Tryz.prog 117 _ ReflectliteValue.set Tryz.func117 (by kernel_rfl) (by kernel_rfl) (by kernel_rfl) (by kernel_rfl)
  have tO := typeOfC
  have mA := methodAssignableTo
  have a25 := assignableC
  have v25 := valueOfC
  have f6 := valueOfT
  have f7 := typeT
  have mK := methodKind
  have mE := methodElem
  have mI := methodImplements
  have k27 := kindT
  have k25 := kindC
  have e27 := elemT
  have i25 := implementsC
  obtain ⟨w1, hw1⟩ : ∃ w1, w1 = w.alloc (.cells #[.pointer (some ⟨t, 0, none⟩)] 104) := ⟨_, rfl⟩
  obtain ⟨w2, hw2⟩ : ∃ w2, w2 = w1.alloc (.cells #[.pointer (some ⟨1, 104, none⟩), .pointer (some ⟨w.heap.size, 0, none⟩), .int .u64 150] 166) := ⟨_, rfl⟩
  obtain ⟨w3, hw3⟩ : ∃ w3, w3 = w2.alloc (.cells #[.pointer (some ⟨1, 104, none⟩), .pointer (some ⟨w.heap.size, 0, none⟩), .int .u64 150] 166) := ⟨_, rfl⟩
  obtain ⟨w4, hw4⟩ : ∃ w4, w4 = w3.alloc (.cells #[.int .i64 k] 49) := ⟨_, rfl⟩
  have B1 : Blk w1 w.heap.size 104 #[.pointer (some ⟨t, 0, none⟩)] := by rw [hw1]; exact Blk.new _ _ _
  have s1 : w1.heap.size = w.heap.size + 1 := by rw [hw1]; simp
  have s2 : w2.heap.size = w.heap.size + 1 + 1 := by rw [hw2]; simp [s1]
  have s3 : w3.heap.size = w.heap.size + 1 + 1 + 1 := by rw [hw3]; simp [s2]
  have B2 : Blk w2 w.heap.size 104 #[.pointer (some ⟨t, 0, none⟩)] := by rw [hw2]; exact B1.alloc _
  have B3 : Blk w3 w.heap.size 104 #[.pointer (some ⟨t, 0, none⟩)] := by rw [hw3]; exact B2.alloc _
  have B4 : Blk w4 (w.heap.size + 1 + 1 + 1) 49 #[.int .i64 k] := by rw [hw4, ← s3]; exact Blk.new _ _ _
  have T4 : Blk w4 t 49 #[.int .i64 old] := by rw [hw4, hw3, hw2, hw1]; exact (((hT.alloc _).alloc _).alloc _).alloc _
  have F4 : Fr (only t) w w4 := by rw [hw4, hw3, hw2, hw1]; exact ((((Fr.refl _ _).alloc _).alloc _).alloc _).alloc _
  have hlt : 0 < w.heap.size := World.block_lt_of_cell? w _ hg
  have hg2 : w2.cell? ⟨0, 0, none⟩ = some (.iface 227 (.agg #[.pointer (some ⟨1, 42, none⟩)])) := by
    rw [hw2, hw1, World.cell?_alloc_lt _ _ ⟨0, 0, none⟩ (by simp), World.cell?_alloc_lt _ _ ⟨0, 0, none⟩ hlt]; exact hg
  have n8 := isNilT ⟨w.heap.size, 0, none⟩ ⟨t, 0, none⟩ w2 (B2.cell' rfl)
  have el := elemV ⟨w.heap.size, 0, none⟩ ⟨t, 0, none⟩ w3 (B3.cell' rfl)
  have st := setC ⟨t, 0, none⟩ ⟨w.heap.size + 1 + 1 + 1, 0, none⟩ k (.int .i64 old) w4 (B4.cell' rfl) (T4.cell' rfl) (T4.frozen 0)
  have fin : Hid (Blk (w4.setCell ⟨t, 0, none⟩ (.int .i64 k)) t 49 #[.int .i64 k] ∧ Fr (only t) w (w4.setCell ⟨t, 0, none⟩ (.int .i64 k))) := hid_ ⟨T4.set_ 0 (.int .i64 k), F4.setCell (p := ⟨t, 0, none⟩) (.inl (Eq.refl t)) _⟩
  clear B1 B2 B3 B4 T4 F4 s1 s2 s3 hT
  subst hw4
  subst hw3
  subst hw2
  subst hw1
  go_enter Tryz.func39, Tryz.ntmps39
  go_wp2
  refine wp_loop_rounds 1 ?_
  rw [rounds_succ]
  go_wp2
  go_ret
  exact ⟨rfl, fin.out⟩
end Go.Proofs.YtfihfjbakfadkaaGreatDoor
namespace Go.Proofs.YtfihfjbakfadkaaGreatDoor
open Go.RowKit
set_option linter.unusedVariables false

/-- The variable errors.errorType holds the handle of the type error. -/
def Laid (w : World) : Prop := w.cell? ⟨0, 0, none⟩ = some (.iface 227 (.agg #[.pointer (some ⟨1, 42, none⟩)]))
theorem Laid.lt {w : World} (h : Laid w) : 0 < w.heap.size := World.block_lt_of_cell? w _ h
theorem Laid.fr {w w' : World} {S : Nat → Prop} (h : Laid w) (hf : Fr S w w') (hS : ¬ S 0) : Laid w' :=
  (World.cell?_of_block (hf.block 0 h.lt hS)).trans h
theorem Laid.alloc {w : World} (h : Laid w) (o : Obj) : Laid (w.alloc o) := h.fr ((Fr.refl none_ w).alloc o) id

theorem code_nil (w : World) : Calls Tryz.prog 12 #[.nilIface] w fun e w' => e = .returned (.int .i64 0) ∧ Fr none_ w w' := by
  go_enter Tryz.func12, Tryz.ntmps12
  go_wp2_with (go_at_call 39; refine (as_nil _ _).mono ?_; rintro e w' ⟨rfl, rfl⟩)
  go_ret
  exact ⟨rfl, by repeat (first | exact Fr.refl _ _ | apply Fr.drew | apply Fr.alloc)⟩

theorem code_hit (k : Int) (w : World) (hL : Laid w) : Calls Tryz.prog 12 #[errV k] w fun e w' => e = .returned (.int .i64 k) ∧ Fr none_ w w' := by
  have HL := hid_ hL
  clear hL
  go_enter Tryz.func12, Tryz.ntmps12
  go_wp2_with fail
  refine (as_hit k 0 _ _ (HL.out.alloc _) (Blk.new w _ _)).mono ?_
  rintro e w1 ⟨rfl, hb, hf⟩
  have c0 : w1.cell? ⟨w.heap.size, 0, none⟩ = some (.int .i64 k) := hb.cell' rfl
  have F1 := hid_ (((Fr.refl none_ w).alloc (.cells #[.int .i64 0] 49)).then_only hf (.inr (Nat.le_refl _)))
  clear hb hf
  go_wp2
  go_ret
  exact ⟨rfl, F1.out⟩

end Go.Proofs.YtfihfjbakfadkaaGreatDoor

/- Texts of one proof, merged: ArFirst, Map, Map2, ClkN, HeldU, Mem9, Chain9, ErrOf, Acc9, Mc9, U7, Ldr10, LdrA10, Uw, Cmp, Qx, Vw, Join, Rw7. -/
import Derived.LaidEql
import Derived.Stop.Asserts
import Derived.RowKitTokens
import Derived.Test.YtfihfjbakfadkaaDoorProg
import Derived.WalkLawsBesides
import Derived.WalkSpells
import Derived.BigQuiet
import Derived.Maps.OwnOps
import Derived.Maps.OwnSet
import Derived.Maps.RangeWalk
import Derived.IntWalk
import Derived.Deep.Cut
import Derived.Deep.DeepCutAuto
import Derived.BigRegion
import Derived.Deep.MidRow
import Derived.Deep.QuietTactic
import Derived.Deep.RegionHeld3
import Derived.Test.YtfihfjbakfadkaaDoorMsA
import Derived.Test.YtfihfjbakfadkaaDoorMsB
namespace Go.Proofs.YtfihfjbakfadkaaDoor
open Go.RowKit
set_option maxRecDepth 100000
set_option linter.unusedVariables false

theorem AllocPost.first {w w' : World} {a G : Nat} {last : Int} {ss : List Sl} {R : Rc} {e : Ending} (h : AllocPost w a G last ss R e w') {i : Nat} {s : Sl} (hs : ss[i]? = some s) (hu : s.used = false) (hg : s.gen ≠ last) (hno : ∀ j t, j < i → ss[j]? = some t → t.used = true ∨ t.gen = last) :
    ∃ vr ve, e = .returned (.tuple #[.agg #[.int .i64 ((i : Int) + 1), .int .i64 (s.gen + 1)], .nilIface]) ∧ Ar w' a G last (ss.set i ⟨s.gen + 1, true, R, vr, ve⟩) ∧ RecOwn w' w.heap.size R vr ve ∧ Fr (only G) w w' := by
  rcases h with ⟨k, t, vr, ve, ht, ⟨h1, h2⟩, h3, he, hA, hO, hF⟩ | ⟨h1, _⟩
  · obtain rfl : k = i := by
      rcases Nat.lt_trichotomy k i with hl | hl | hl
      · rcases hno k t hl ht with h | h
        · rw [h1] at h; cases h
        · exact absurd h h2
      · exact hl
      · rcases h3 i s hl hs with h | h
        · rw [hu] at h; cases h
        · exact absurd h hg
    obtain rfl := Option.some.inj (hs.symm.trans ht)
    exact ⟨vr, ve, he, hA, hO, hF⟩
  · rcases h1 i s hs with h | h
    · rw [hu] at h; cases h
    · exact absurd h hg
theorem AllocPost.none {w w' : World} {a G : Nat} {last : Int} {ss : List Sl} {R : Rc} {e : Ending} (h : AllocPost w a G last ss R e w') (hno : ∀ (j : Nat) t, ss[j]? = some t → t.used = true ∨ t.gen = last) :
    e = .returned (.tuple #[.agg #[.int .i64 0, .int .i64 0], errV (allocErr ss)]) ∧ Fr none_ w w' := by
  rcases h with ⟨k, t, vr, ve, ht, ⟨h1, h2⟩, _⟩ | ⟨_, h2⟩
  · rcases hno k t ht with h | h
    · rw [h1] at h; cases h
    · exact absurd h h2
  · exact h2
end Go.Proofs.YtfihfjbakfadkaaDoor
namespace Go.Proofs.YtfihfjbakfadkaaDoor
open Go.RowKit

/-- A page: is it used, and its head. -/
abbrev Pg := Bool × Int × Int

theorem eql_ref (s g a b : Int) (w : World) : (binOp .eql 25 (.agg #[.int .i64 s, .int .i64 g]) (.agg #[.int .i64 a, .int .i64 b])).run Tryd.prog w = .ok (.bool (s == a && g == b)) w := by
  have h : (Op.equal 25 (.agg #[.int .i64 s, .int .i64 g]) (.agg #[.int .i64 a, .int .i64 b])).run Tryd.prog w = .ok (s == a && g == b) w := by
    simp only [Op.equal, Op.maxDepth]
    by_cases h1 : s = a <;> by_cases h2 : g = b <;> go_simp <;> simp [h1, h2]
  simp [binOp, h]
theorem neq_ref (s g a b : Int) (w : World) : (binOp .neq 25 (.agg #[.int .i64 s, .int .i64 g]) (.agg #[.int .i64 a, .int .i64 b])).run Tryd.prog w = .ok (.bool (!(s == a && g == b))) w := by
  have h : (Op.equal 25 (.agg #[.int .i64 s, .int .i64 g]) (.agg #[.int .i64 a, .int .i64 b])).run Tryd.prog w = .ok (s == a && g == b) w := by
    simp only [Op.equal, Op.maxDepth]
    by_cases h1 : s = a <;> by_cases h2 : g = b <;> go_simp <;> simp [h1, h2]
  simp [binOp, h]

structure TblAt (w : World) (T G cap : Nat) (cur : Array Value) (ps : List Pg) : Prop where
  hT : Blk w T 146 #[.slice (some ⟨G, 0, none⟩) ps.length cap]
  hG : Blk w G 154 cur
  hn : ps.length ≤ 256
  hc : ps.length ≤ cap
  hm : cap ≤ maxLen
  hs : ps.length * 3 ≤ cur.size
  hp : ∀ i p, ps[i]? = some p → cur[i * 3]? = some (.bool p.1) ∧ cur[i * 3 + 1]? = some (.int .i64 p.2.1) ∧ cur[i * 3 + 1 + 1]? = some (.int .i64 p.2.2)
def Tbl (w : World) (T G : Nat) (ps : List Pg) : Prop := ∃ cap cur, TblAt w T G cap cur ps

theorem mapAt_arg (T G : Nat) (ps : List Pg) (n : Int) (w : World) (h : Tbl w T G ps) (hn : n < 0 ∨ (ps.length : Int) ≤ n) :
    Calls Tryd.prog 62 #[.pointer (some ⟨T, 0, none⟩), .int .i64 n] w fun e w' => e = .returned (.tuple #[.pointer none, errV 1]) ∧ w = w' := by
  obtain ⟨cap, cur, hT, hG, h1, h2, h3, h4, h5⟩ := h
  have c0 := hT.cell' (i := 0) rfl
  clear hT hG h5
  by_cases hn0 : n < 0
  · clear hn
    go_enter Tryd.func62, Tryd.ntmps62
    go_wp2
    go_ret2
    exact ⟨rfl, rfl⟩
  · have hle : (ps.length : Int) ≤ n := by omega
    clear hn
    go_enter Tryd.func62, Tryd.ntmps62
    go_wp2
    go_ret2
    exact ⟨rfl, rfl⟩

theorem mapAt_ok (T G : Nat) (ps : List Pg) (i : Nat) (s g : Int) (w : World) (h : Tbl w T G ps) (hi : ps[i]? = some (true, s, g)) :
    Calls Tryd.prog 62 #[.pointer (some ⟨T, 0, none⟩), .int .i64 i] w fun e w' => e = .returned (.tuple #[.pointer (some ⟨G, i * 3, none⟩), .nilIface]) ∧ w = w' := by
  obtain ⟨cap, cur, hT, hG, h1, h2, h3, h4, h5⟩ := h
  obtain ⟨d0, d1, d2⟩ := h5 i _ hi
  have c0 := hT.cell' (i := 0) rfl
  have c1 := hG.cell' d0
  have c2 := hG.cell' d1
  have c3 := hG.cell' d2
  have hlt : i < ps.length := (List.getElem?_eq_some_iff.1 hi).1
  clear hT hG h5 d0 d1 d2 hi
  go_enter Tryd.func62, Tryd.ntmps62
  go_wp2
  go_ret2
  exact ⟨rfl, rfl⟩

theorem mapAt_none (T G : Nat) (ps : List Pg) (i : Nat) (s g : Int) (w : World) (h : Tbl w T G ps) (hi : ps[i]? = some (false, s, g)) :
    Calls Tryd.prog 62 #[.pointer (some ⟨T, 0, none⟩), .int .i64 i] w fun e w' => e = .returned (.tuple #[.pointer none, errV 6]) ∧ w = w' := by
  obtain ⟨cap, cur, hT, hG, h1, h2, h3, h4, h5⟩ := h
  obtain ⟨d0, d1, d2⟩ := h5 i _ hi
  have c0 := hT.cell' (i := 0) rfl
  have c1 := hG.cell' d0
  have c2 := hG.cell' d1
  have c3 := hG.cell' d2
  have hlt : i < ps.length := (List.getElem?_eq_some_iff.1 hi).1
  clear hT hG h5 d0 d1 d2 hi
  go_enter Tryd.func62, Tryd.ntmps62
  go_wp2
  all_goals
    go_ret2
    exact ⟨rfl, rfl⟩

def setPg (w : World) (G i : Nat) (p : Pg) : World := ((w.setCell ⟨G, i * 3, none⟩ (.bool p.1)).setCell ⟨G, i * 3 + 1, none⟩ (.int .i64 p.2.1)).setCell ⟨G, i * 3 + 1 + 1, none⟩ (.int .i64 p.2.2)

theorem Tbl.ne_ {w : World} {T G : Nat} {ps : List Pg} (h : Tbl w T G ps) : T ≠ G := by
  obtain ⟨cap, cur, hT, hG, _⟩ := h
  exact Blk.ne_ hT hG (by decide)

theorem Tbl.lt {w : World} {T G : Nat} {ps : List Pg} (h : Tbl w T G ps) : T < w.heap.size ∧ G < w.heap.size := by
  obtain ⟨cap, cur, hT, hG, _⟩ := h
  exact ⟨hT.lt, hG.lt⟩

theorem Tbl.set_ {w : World} {T G : Nat} {ps : List Pg} (h : Tbl w T G ps) {i : Nat} (hi : i < ps.length) (p : Pg) : Tbl (setPg w G i p) T G (ps.set i p) := by
  have hne := h.ne_
  obtain ⟨cap, cur, hT, hG, h1, h2, h3, h4, h5⟩ := h
  refine ⟨cap, ((cur.setIfInBounds (i * 3) (.bool p.1)).setIfInBounds (i * 3 + 1) (.int .i64 p.2.1)).setIfInBounds (i * 3 + 1 + 1) (.int .i64 p.2.2), ?_, ?_, by simpa using h1, by simpa using h2, h3, by simpa using h4, ?_⟩
  · rw [List.length_set]
    exact ((hT.far hne _).far hne _).far hne _
  · exact ((hG.set_ _ _).set_ _ _).set_ _ _
  · intro j q hj
    by_cases hji : j = i
    · subst hji
      rw [List.getElem?_set_self hi] at hj
      obtain rfl : p = q := by simpa using hj
      have e0 : j * 3 + 1 + 1 < cur.size := by omega
      refine ⟨?_, ?_, ?_⟩ <;> grind
    · rw [List.getElem?_set_ne (fun e => hji e.symm)] at hj
      obtain ⟨d0, d1, d2⟩ := h5 j q hj
      refine ⟨?_, ?_, ?_⟩ <;> grind

theorem Tbl.set_head {w : World} {T G : Nat} {ps : List Pg} (h : Tbl w T G ps) {i : Nat} {b : Bool} {s g : Int} (hi : ps[i]? = some (b, s, g)) (c d : Int) :
    Tbl ((w.setCell ⟨G, i * 3 + 1, none⟩ (.int .i64 c)).setCell ⟨G, i * 3 + 1 + 1, none⟩ (.int .i64 d)) T G (ps.set i (b, c, d)) := by
  have hne := h.ne_
  have hlt : i < ps.length := (List.getElem?_eq_some_iff.1 hi).1
  obtain ⟨cap, cur, hT, hG, h1, h2, h3, h4, h5⟩ := h
  refine ⟨cap, (cur.setIfInBounds (i * 3 + 1) (.int .i64 c)).setIfInBounds (i * 3 + 1 + 1) (.int .i64 d), ?_, ?_, by simpa using h1, by simpa using h2, h3, by simpa using h4, ?_⟩
  · rw [List.length_set]
    exact (hT.far hne _).far hne _
  · exact (hG.set_ _ _).set_ _ _
  · intro j q hj
    by_cases hji : j = i
    · subst hji
      rw [List.getElem?_set_self hlt] at hj
      obtain rfl : (b, c, d) = q := by simpa using hj
      obtain ⟨d0, d1, d2⟩ := h5 j _ hi
      have e0 : j * 3 + 1 + 1 < cur.size := by omega
      refine ⟨?_, ?_, ?_⟩ <;> grind
    · rw [List.getElem?_set_ne (fun e => hji e.symm)] at hj
      obtain ⟨d0, d1, d2⟩ := h5 j q hj
      refine ⟨?_, ?_, ?_⟩ <;> grind

theorem Tbl.fr {w w' : World} {S : Nat → Prop} {T G : Nat} {ps : List Pg} (h : Tbl w T G ps) (hf : Fr S w w') (hT : ¬ S T) (hG : ¬ S G) : Tbl w' T G ps := by
  obtain ⟨cap, cur, a, b, h1, h2, h3, h4, h5⟩ := h
  exact ⟨cap, cur, a.fr hf hT, b.fr hf hG, h1, h2, h3, h4, h5⟩

theorem setPg_fr {S : Nat → Prop} {a w : World} (h : Fr S a w) {G : Nat} (hG : S G ∨ a.heap.size ≤ G) (i : Nat) (p : Pg) : Fr S a (setPg w G i p) := ((h.setCell hG _).setCell hG _).setCell hG _

theorem setPg_only (w : World) (G i : Nat) (p : Pg) : Fr (only G) w (setPg w G i p) := setPg_fr (Fr.refl (only G) w) (.inl (Eq.refl G)) i p

theorem head_err (o : Option Addr) (n : Int) (k : Int) (w : World)
    (hat : ∀ w1 : World, Fr none_ w w1 → Calls Tryd.prog 62 #[.pointer o, .int .i64 n] w1 fun e w' => e = .returned (.tuple #[.pointer none, errV k]) ∧ w1 = w') :
    Calls Tryd.prog 44 #[.pointer o, .int .i64 n] w fun e w' => e = .returned (.tuple #[.agg #[.int .i64 0, .int .i64 0], errV k]) ∧ Fr none_ w w' := by
  have H := hid_ hat
  clear hat
  go_enter Tryd.func44, Tryd.ntmps44
  go_wp2_with (go_at_call 62; refine (H.out _ ((Fr.refl _ _).alloc _)).mono ?_; rintro e w' ⟨rfl, rfl⟩)
  exact bodyPost_ret (v := .tuple #[.agg #[.int .i64 0, .int .i64 0], errV k]) (by simp [results, Tryd.results44, go_sem]) rfl ⟨rfl, (Fr.refl _ _).alloc _⟩

theorem head_ok (T G : Nat) (ps : List Pg) (i : Nat) (s g : Int) (w : World) (h : Tbl w T G ps) (hi : ps[i]? = some (true, s, g)) :
    Calls Tryd.prog 44 #[.pointer (some ⟨T, 0, none⟩), .int .i64 i] w fun e w' => e = .returned (.tuple #[.agg #[.int .i64 s, .int .i64 g], .nilIface]) ∧ Fr none_ w w' := by
  have h' := h
  obtain ⟨cap, cur, hT, hG, h1, h2, h3, h4, h5⟩ := h
  obtain ⟨d0, d1, d2⟩ := h5 i _ hi
  have c2 := hG.cell' d1
  have c3 := hG.cell' d2
  have hlt := hG.lt
  have H := hid_ h'
  have Hi := hid_ hi
  clear hT hG h5 d0 d1 d2 h' hi
  go_enter Tryd.func44, Tryd.ntmps44
  go_wp2_with (go_at_call 62; refine (mapAt_ok T G ps i s g _ (H.out.fr ((Fr.refl none_ _).alloc _) id id) Hi.out).mono ?_; rintro e w' ⟨rfl, rfl⟩)
  exact bodyPost_ret (v := .tuple #[.agg #[.int .i64 s, .int .i64 g], .nilIface]) (by simp [results, Tryd.results44, go_sem]) rfl ⟨rfl, (Fr.refl _ _).alloc _⟩

theorem swap_err (o : Option Addr) (n : Int) (k a b c d : Int) (w : World)
    (hat : ∀ w1 : World, Fr none_ w w1 → Calls Tryd.prog 62 #[.pointer o, .int .i64 n] w1 fun e w' => e = .returned (.tuple #[.pointer none, errV k]) ∧ w1 = w') :
    Calls Tryd.prog 34 #[.pointer o, .int .i64 n, .agg #[.int .i64 a, .int .i64 b], .agg #[.int .i64 c, .int .i64 d]] w fun e w' => e = .returned (.tuple #[.bool false, errV k]) ∧ Fr none_ w w' := by
  have H := hid_ hat
  clear hat
  go_enter Tryd.func34, Tryd.ntmps34
  go_wp2_with (go_at_call 62; refine (H.out _ (((Fr.refl _ _).alloc _).alloc _)).mono ?_; rintro e w' ⟨rfl, rfl⟩)
  go_ret2
  exact ⟨rfl, ((Fr.refl _ _).alloc _).alloc _⟩

theorem swap_ok (T G : Nat) (ps : List Pg) (i : Nat) (s g a b c d : Int) (w : World) (h : Tbl w T G ps) (hi : ps[i]? = some (true, s, g)) :
    Calls Tryd.prog 34 #[.pointer (some ⟨T, 0, none⟩), .int .i64 i, .agg #[.int .i64 a, .int .i64 b], .agg #[.int .i64 c, .int .i64 d]] w fun e w' =>
      e = .returned (.tuple #[.bool (s == a && g == b), .nilIface]) ∧ Tbl w' T G (if s = a ∧ g = b then ps.set i (true, c, d) else ps) ∧ Fr (only G) w w' := by
  have h' := h
  obtain ⟨cap, cur, hT, hG, h1, h2, h3, h4, h5⟩ := h
  obtain ⟨d0, d1, d2⟩ := h5 i _ hi
  have c2 := hG.cell' d1
  have c3 := hG.cell' d2
  have f := hG.frozen
  have f1 := f (i * 3 + 1)
  have f2 := f (i * 3 + 1 + 1)
  have hlt := hG.lt
  have H := hid_ h'
  have Hi := hid_ hi
  clear hT hG h5 d0 d1 d2 h' hi f
  by_cases hc : s = a ∧ g = b
  · obtain ⟨rfl, rfl⟩ := hc
    go_enter Tryd.func34, Tryd.ntmps34
    go_wp2_with (go_at_call 62; refine (mapAt_ok T G ps i s g _ (H.out.fr (((Fr.refl none_ _).alloc _).alloc _) id id) Hi.out).mono ?_; rintro e w' ⟨rfl, rfl⟩)
    go_region
    all_goals go_wp2
    go_ret2
    exact ⟨rfl, (H.out.set_head Hi.out c d).fr ((((Fr.refl none_ _).alloc _).alloc _).drew) id id, (((((Fr.refl (only G) w).setCell (p := ⟨G, i * 3 + 1, none⟩) (.inl (Eq.refl G)) _).setCell (p := ⟨G, i * 3 + 1 + 1, none⟩) (.inl (Eq.refl G)) _).alloc _).alloc _).drew⟩
  · have hq : ∀ w, (binOp .neq 25 (.agg #[.int .i64 s, .int .i64 g]) (.agg #[.int .i64 a, .int .i64 b])).run Tryd.prog w = .ok (.bool true) w := fun w => by
      rw [neq_ref]
      have : (s == a && g == b) = false := by simpa using hc
      rw [this]; rfl
    have Hc := hid_ hc
    clear hc
    go_enter Tryd.func34, Tryd.ntmps34
    go_wp2_with (go_at_call 62; refine (mapAt_ok T G ps i s g _ (H.out.fr (((Fr.refl none_ _).alloc _).alloc _) id id) Hi.out).mono ?_; rintro e w' ⟨rfl, rfl⟩)
    go_region
    all_goals go_wp2
    go_ret2
    refine ⟨?_, ?_, ?_⟩
    · have : (s == a && g == b) = false := by simpa using Hc.out
      rw [this]; rfl
    · exact H.out.fr ((((Fr.refl none_ _).alloc _).alloc _).drew) id id
    · exact (((Fr.refl _ _).alloc _).alloc _).drew

end Go.Proofs.YtfihfjbakfadkaaDoor
namespace Go.Proofs.YtfihfjbakfadkaaDoor
open Go.RowKit

theorem page_info : (Tryd.prog.info? 154).map (fun i => (i.zero, i.size, i.bytes)) = some (some (.agg #[.bool false, .int .i64 0, .int .i64 0]), 3, 24) := by kernel_rfl

theorem run_make_rowN {P : Program} (t e : TypeId) (i : TypeInfo) (z : Value) (ht : P.underlying t = some (.slice e)) (hi : P.info? e = some i) (hz : i.zero = some z)
    (kl kc : IntKind) (n c : Nat) (hnc : n ≤ c) (hbytes : i.bytes * c ≤ 281474976710656) (h63 : c ≤ 9223372036854775807) (w : World) :
    (Instr.makeSlice t (.int kl (n : Int)) (.int kc (c : Int))).run P w = .ok (.slice (some ⟨w.heap.size, 0, none⟩) n c) (w.alloc (.cells (madeCells z.cells (c * i.size)) e)) := by
  have hb : (i.bytes : Int) * (c : Int) ≤ 281474976710656 := by
    have h : ((i.bytes * c : Nat) : Int) ≤ 281474976710656 := by omega
    rwa [Int.natCast_mul] at h
  have hr := run_make (P := P) w t e i z ht hi hz kl kc n c (by omega) (by omega) hb (by omega)
  simp only [Int.toNat_natCast] at hr
  exact hr

theorem madeCells3 (a b c : Value) (n i : Nat) (hi : i < n) : (madeCells #[a, b, c] (n * 3))[i * 3]? = some a ∧ (madeCells #[a, b, c] (n * 3))[i * 3 + 1]? = some b ∧ (madeCells #[a, b, c] (n * 3))[i * 3 + 1 + 1]? = some c := by
  have h0 : i * 3 < n * 3 := by omega
  have h1 : i * 3 + 1 < n * 3 := by omega
  have h2 : i * 3 + 1 + 1 < n * 3 := by omega
  refine ⟨?_, ?_, ?_⟩
  · simp [madeCells, h0]
  · have : (i * 3 + 1) % 3 = 1 := by omega
    simp [madeCells, h1, this]
  · have : (i * 3 + 1 + 1) % 3 = 2 := by omega
    simp [madeCells, h2, this]

def NewPost (n : Nat) (w : World) (e : Ending) (w' : World) : Prop :=
  e = .returned (.pointer (some ⟨w.heap.size + 1, 0, none⟩)) ∧ Tbl w' (w.heap.size + 1) w.heap.size (List.replicate n (false, 0, 0)) ∧ Fr none_ w w' ∧ w'.heap.size = w.heap.size + 2

theorem mapNew_ok (n : Nat) (w : World) (h1 : 1 ≤ n) (h2 : n ≤ 256) : Calls Tryd.prog 30 #[.int .i64 n] w (NewPost n w) := by
  have hfin : NewPost n w (.returned (.pointer (some ⟨w.heap.size + 1, 0, none⟩))) ((w.alloc (.cells (madeCells #[.bool false, .int .i64 0, .int .i64 0] (n * 3)) 154)).alloc (.cells #[.slice (some ⟨w.heap.size, 0, none⟩) n n] 146)) := by
    refine ⟨rfl, ⟨n, madeCells #[.bool false, .int .i64 0, .int .i64 0] (n * 3), ?_, ?_, by simpa using h2, by simp, by unfold maxLen; omega, by simp [size_madeCells], ?_⟩, ((Fr.refl _ _).alloc _).alloc _, by simp⟩
    · have := Blk.new (w.alloc (.cells (madeCells #[.bool false, .int .i64 0, .int .i64 0] (n * 3)) 154)) 146 #[.slice (some ⟨w.heap.size, 0, none⟩) n n]
      simpa using this
    · exact (Blk.new w _ _).alloc _
    · intro i p hi
      obtain ⟨hlt, rfl⟩ : i < n ∧ p = (false, 0, 0) := by
        rw [List.getElem?_replicate] at hi
        split at hi
        · exact ⟨by assumption, by simpa using hi.symm⟩
        · cases hi
      exact madeCells3 _ _ _ n i hlt
  obtain ⟨i0, hi0, hz0, hs0, hb0⟩ := info_parts page_info
  have hmk := fun W => run_make_rowN (P := Tryd.prog) 144 154 i0 _ Tryd.underlying144 hi0 hz0 .i64 .i64 n n (Nat.le_refl _) (by rw [hb0]; omega) (by omega) W
  rw [hs0] at hmk
  simp only [Value.cells] at hmk
  have H := hid_ hfin
  clear hfin hi0 hz0 hs0 hb0
  go_enter Tryd.func30, Tryd.ntmps30
  go_wp2
  go_ret
  exact H.out

theorem mtake_ok (T G : Nat) (ps : List Pg) (n : Nat) (s g : Int) (w : World) (h : Tbl w T G ps) (hn : ps[n]? = some (false, s, g)) (hu : ∀ (j : Nat) (p : Pg), j < n → ps[j]? = some p → p.1 = true) :
    Calls Tryd.prog 33 #[.pointer (some ⟨T, 0, none⟩)] w fun e w' => e = .returned (.tuple #[.int .i64 n, .nilIface]) ∧ w' = setPg w G n (true, 0, 0) := by
  obtain ⟨cap, cur, hT, hG, h1, h2, h3, h4, h5⟩ := h
  have hnl : n < ps.length := (List.getElem?_eq_some_iff.1 hn).1
  have c0 : w.cell? ⟨T, 0, none⟩ = some (.slice (some ⟨G, 0, none⟩) ps.length cap) := hT.cell' (i := 0) rfl
  have hc : ∀ k, k < n → w.cell? ⟨G, k * 3, none⟩ = some (.bool true) := fun k hk => by
    have hi : ps[k]? = some ps[k] := List.getElem?_eq_getElem (by omega)
    have := hG.cell' (h5 k _ hi).1
    rwa [hu k _ hk hi] at this
  obtain ⟨d0, d1, d2⟩ := h5 n _ hn
  have e0 := hG.cell' d0
  have e1 := hG.cell' d1
  have e2 := hG.cell' d2
  have f := hG.frozen
  have f0 := f (n * 3)
  have f1 := f (n * 3 + 1)
  have f2 := f (n * 3 + 1 + 1)
  have Hc := hid_ hc
  clear hT hG h5 hu hc hn f d0 d1 d2
  go_enter Tryd.func33, Tryd.ntmps33
  go_wp2
  go_loop [13] (fun i => ∃ k : Nat, k ≤ n ∧ i = .int .i64 k) (fun i => ps.length - (intOf i).toNat)
  case atStart => exact ⟨0, Nat.zero_le _, rfl⟩
  case round =>
    obtain ⟨k, hk, rfl⟩ := hrel
    by_cases hlt : k < n
    · have hcx := Hc.out k hlt
      go_wp2
      go_round
      case rel => exact ⟨k + 1, by omega, by go_num⟩
      case measure => simp [intOf]; omega
    · obtain rfl : k = n := by omega
      go_wp2
      go_ret2
      exact ⟨rfl, rfl⟩
end Go.Proofs.YtfihfjbakfadkaaDoor
namespace Go.Proofs.YtfihfjbakfadkaaDoor
open Go.RowKit
open Go.Maps (Keyed int_keyed keyOf_int_mk)
set_option maxRecDepth 100000
set_option linter.unusedVariables false

/-- What is kept of where threads are inside. -/
abbrev Ins := DataW Unit
structure Clk (w : World) (C M : Nat) (now last threads : Int) (n : Nat) (D : Ins) : Prop where
  hC : Blk w C 149 #[.int .i64 now, .int .i64 last, .int .i64 threads, .map (some M)]
  hM : w.ownsMap Tryd.prog 3 (plainElem (H := Unit) Tryd.prog 3) M n D

theorem map_fr {w w' : World} {S : Nat → Prop} {M n : Nat} {D : Ins} (h : w.ownsMap Tryd.prog 3 (plainElem (H := Unit) Tryd.prog 3) M n D) (hf : Fr S w w') (hS : ¬ S M) : w'.ownsMap Tryd.prog 3 (plainElem (H := Unit) Tryd.prog 3) M n D := by
  have hl := h.lt
  obtain ⟨es, clock, hb, r⟩ := h
  exact ⟨es, clock, (hf.block M hl hS).trans hb, r⟩
theorem Clk.fr {w w' : World} {S : Nat → Prop} {C M n : Nat} {now last threads : Int} {D : Ins} (h : Clk w C M now last threads n D) (hf : Fr S w w') (hC : ¬ S C) (hM : ¬ S M) : Clk w' C M now last threads n D :=
  ⟨h.hC.fr hf hC, map_fr h.hM hf hM⟩
theorem Clk.ne {w : World} {C M n : Nat} {now last threads : Int} {D : Ins} (h : Clk w C M now last threads n D) : C ≠ M := by
  rintro rfl
  obtain ⟨es, clock, hb, r⟩ := h.hM
  have := h.hC
  unfold Blk at this
  rw [this] at hb
  cases hb

def NewClk (threads last : Int) (w : World) (e : Ending) (w' : World) : Prop :=
  ∃ C M, e = .returned (.pointer (some ⟨C, 0, none⟩)) ∧ Clk w' C M 1 last threads 0 (.map []) ∧ Fr none_ w w' ∧ w.heap.size ≤ C ∧ w.heap.size ≤ M

set_option maxHeartbeats 1000000 in
theorem clkNew_ok (threads last : Int) (w : World) (h1 : 1 ≤ threads) (h2 : threads ≤ 64) (h3 : 1 ≤ last) (h4 : last ≤ 1099511627776) : Calls Tryd.prog 31 #[.int .i64 threads, .int .i64 last] w (NewClk threads last w) := by
  have hmm := @run_makeMap Tryd.prog
  have d1 : decide (threads < 1) = false := by simp; omega
  have d2 : decide (64 < threads) = false := by simp; omega
  have d3 : decide (last < 1) = false := by simp; omega
  go_enter Tryd.func31, Tryd.ntmps31
  go_wp2_with fail
  go_ret
  refine ⟨w.heap.size + 1, w.heap.size, rfl, ⟨?_, (World.ownsMap_made w _ _ _).alloc _⟩, ((Fr.refl none_ w).alloc _).alloc _, by omega, Nat.le_refl _⟩
  have := Blk.new (w.alloc (.map #[] 0)) 149 #[.int .i64 1, .int .i64 last, .int .i64 threads, .map (some w.heap.size)]
  simpa using this

end Go.Proofs.YtfihfjbakfadkaaDoor
namespace Go.Proofs.YtfihfjbakfadkaaDoor
open Go

section
variable {P : Program} {md : Region.Mode} {ops : Array Oper} {Q : Exit → Act → World → Prop} {S : World → Prop}
/-- The two operations that are ready. -/
theorem wpAnyT_two {m i j : Nat} {oi oj : Oper} {fuel : Nat} {listed : Array Bool} {a : Act} {w : World} (hi : ops[i]? = some oi) (hj : ops[j]? = some oj) (gi : oi.guard = none) (gj : oj.guard = none) (hr : Region.ready md ops listed = [i, j])
    (h1 : Oper.wp P oi a w (fun a' w' => (i = m ∨ S w') ∧ wpAnyT P md ops Q S m fuel (listed.setIfInBounds i true) a' w') Q)
    (h2 : Oper.wp P oj a w (fun a' w' => (j = m ∨ S w') ∧ wpAnyT P md ops Q S m fuel (listed.setIfInBounds j true) a' w') Q) : wpAnyT P md ops Q S m (fuel + 1) listed a w := by
  refine wpAnyT_all hr (by simp) (fun k hk => ?_)
  have hk' : k = i ∨ k = j := by simpa using hk
  rcases hk' with rfl | rfl
  · unfold wpOp
    have hw : Region.wanted oi (yielded ops a.tmps) = true := by simp [Region.wanted, gi]
    simp only [hi, hw, if_true]
    exact .inl h1
  · unfold wpOp
    have hw : Region.wanted oj (yielded ops a.tmps) = true := by simp [Region.wanted, gj]
    simp only [hj, hw, if_true]
    exact .inl h2
def wpAnyU (P : Program) (md : Region.Mode) (ops : Array Oper) (Q : Exit → Act → World → Prop) (S : World → Prop) (m : Nat) : Nat → Array Bool → Act → World → Prop
  | 0, listed, a, w => Region.ready md ops listed = [] ∧ Q .normal a w
  | fuel + 1, listed, a, w =>
    (Region.ready md ops listed = [] → Q .normal a w) ∧
    ∀ i ∈ Region.ready md ops listed, wpOp P ops Q i (fun a' w' => (m ≤ i ∨ S w') ∧ wpAnyU P md ops Q S m fuel (listed.setIfInBounds i true) a' w') a w
theorem wpAny_of_U {m : Nat} : ∀ (fuel : Nat) (listed : Array Bool) (a : Act) (w : World), wpAnyU P md ops Q S m fuel listed a w → wpAny P md ops Q fuel listed a w
  | 0, _, _, _, h => h
  | fuel + 1, _, _, _, h => ⟨h.1, fun i hi => wpOp_mono (fun a' w' h' => wpAny_of_U fuel _ a' w' h'.2) (h.2 i hi)⟩
/-- As wpAnyU_first, where m waits for i by whatever way. -/
theorem wpAnyU_first2 {m i f : Nat} {oi : Oper} {v : Value} (hi : ops[i]? = some oi) (hsel : ∀ (j : Nat) (o : Oper) cs b, ops[j]? = some o → o.op ≠ .select cs b)
    (hQ : ∀ c a w, Q (.panic c) (a.put oi.dst v) w → Q (.panic c) a w) (hm : ∀ j, j < ops.size → m ≤ j → j ≠ i → waitsB md ops f j i = true) :
    ∀ (fuel : Nat) (listed : Array Bool) (a : Act) (w : World), Closed md ops listed →
      (∀ j oj, ops[j]? = some oj → j ≠ i → listed.getD j true = false → (∀ e ∈ oj.after, Region.binds md e = true → e.on ≠ i) → oi.apart ops oj = true) →
      i ∈ Region.ready md ops listed → YieldsIf P ops S oi v a → S w →
      wpAnyU P md ops Q S m fuel (listed.setIfInBounds i true) (a.put oi.dst v) w → wpAnyU P md ops Q S m (fuel + 1) listed a w := by
  intro fuel
  induction fuel with
  | zero =>
    intro listed a w hc _ hr hy hS H
    refine ⟨fun h => (by rw [h] at hr; cases hr), fun j hj => ?_⟩
    by_cases hji : j = i
    · subst hji; exact hy.wpOp hi hS ⟨.inr hS, H⟩
    · have := ready_mono hj hji
      rw [H.1] at this
      cases this
  | succ fuel ih =>
    intro listed a w hc hfree hr hy hS H
    refine ⟨fun h => (by rw [h] at hr; cases hr), fun j hj => ?_⟩
    by_cases hji : j = i
    · subst hji; exact hy.wpOp hi hS ⟨.inr hS, H⟩
    · have h1 := H.2 j (ready_mono hj hji)
      obtain ⟨hjun, oj, hoj, hall⟩ := mem_ready.1 hj
      have hnot : ∀ e ∈ oj.after, Region.binds md e = true → e.on ≠ i := fun e he hb heq => by
        have h1 := hall e he hb
        have h0 := (mem_ready.1 hr).1
        rw [heq] at h1
        rcases Nat.lt_or_ge i listed.size with h' | h'
        · simp [h'] at h0 h1; rw [h0] at h1; cases h1
        · simp [Array.getElem?_eq_none h'] at h1
      have hjm : ¬ m ≤ j := fun hmj => ready_waits hc hj (hm j (Array.getElem?_eq_some_iff.1 hoj).1 hmj hji) hr
      have h2 := wpOp_putIf hoj (hfree j oj hoj hji hjun hnot) (fun cs b => hsel i oi cs b hi) (fun cs b => hsel j oj cs b hoj) hQ hy h1
      have hfree' : ∀ k ok, ops[k]? = some ok → k ≠ i → (listed.setIfInBounds j true).getD k true = false →
          (∀ e ∈ ok.after, Region.binds md e = true → e.on ≠ i) → oi.apart ops ok = true := fun k ok hk hki hun hno => by
        refine hfree k ok hk hki ?_ hno
        by_cases hjk : j = k
        · subst hjk; exact hjun
        · rw [getD_set_ne true hjk] at hun; exact hun
      refine wpOp_mono (fun a' w' h3 => ?_) h2
      have hs : S w' := h3.2.1.resolve_left hjm
      refine ⟨.inr hs, ih (listed.setIfInBounds j true) a' w' (hc.set hj) hfree' (ready_mono hr (Ne.symm hji)) h3.1 hs ?_⟩
      rw [Array.setIfInBounds_comm _ _ hji]
      exact h3.2.2
theorem wpAnyU_take2 {m i : Nat} {oi : Oper} {v : Value} {fuel : Nat} {listed : Array Bool} {a : Act} {w : World} (hi : ops[i]? = some oi)
    (hs : Region.noSelect ops = true) (hf : Region.free md ops listed i = true) (hr : (Region.ready md ops listed).contains i = true)
    (hm : ((List.range ops.size).all (fun j => !decide (m ≤ j) || decide (j = i) || waitsB md ops ops.size j i) && closedB md ops listed) = true)
    (hQ : ∀ c a w, Q (.panic c) (a.put oi.dst v) w → Q (.panic c) a w) (hy : YieldsIf P ops S oi v a) (hS : S w)
    (h : wpAnyU P md ops Q S m fuel (listed.setIfInBounds i true) (a.put oi.dst v) w) : wpAnyU P md ops Q S m (fuel + 1) listed a w := by
  rw [Bool.and_eq_true] at hm
  exact wpAnyU_first2 hi (Region.noSelect_spec hs) hQ (fun j hj hmj hji => by have := List.all_eq_true.1 hm.1 j (List.mem_range.2 hj); simpa [hmj, hji] using this) fuel listed a w (closed_of hm.2) (Region.free_spec hi hf) (by simpa using hr) hy hS h
theorem wpAnyU_all {m : Nat} {rs : List Nat} {fuel : Nat} {listed : Array Bool} {a : Act} {w : World} (hr : Region.ready md ops listed = rs) (hne : rs ≠ [])
    (h : ∀ i ∈ rs, wpOp P ops Q i (fun a' w' => (m ≤ i ∨ S w') ∧ wpAnyU P md ops Q S m fuel (listed.setIfInBounds i true) a' w') a w) : wpAnyU P md ops Q S m (fuel + 1) listed a w :=
  ⟨fun h0 => absurd (hr ▸ h0) hne, hr ▸ h⟩
/-- The one operation that is ready. -/
theorem wpAnyU_one {m i : Nat} {oi : Oper} {fuel : Nat} {listed : Array Bool} {a : Act} {w : World} (hi : ops[i]? = some oi) (hg : oi.guard = none) (hr : Region.ready md ops listed = [i])
    (h : Oper.wp P oi a w (fun a' w' => (m ≤ i ∨ S w') ∧ wpAnyU P md ops Q S m fuel (listed.setIfInBounds i true) a' w') Q) : wpAnyU P md ops Q S m (fuel + 1) listed a w := by
  refine wpAnyU_all hr (by simp) (fun j hj => ?_)
  obtain rfl : j = i := by simpa using hj
  unfold wpOp
  have hw : Region.wanted oi (yielded ops a.tmps) = true := by simp [Region.wanted, hg]
  simp only [hi, hw, if_true]
  exact .inl h
/-- The two operations that are ready (with a tail). -/
theorem wpAnyU_two {m i j : Nat} {oi oj : Oper} {fuel : Nat} {listed : Array Bool} {a : Act} {w : World} (hi : ops[i]? = some oi) (hj : ops[j]? = some oj) (gi : oi.guard = none) (gj : oj.guard = none) (hr : Region.ready md ops listed = [i, j])
    (h1 : Oper.wp P oi a w (fun a' w' => (m ≤ i ∨ S w') ∧ wpAnyU P md ops Q S m fuel (listed.setIfInBounds i true) a' w') Q)
    (h2 : Oper.wp P oj a w (fun a' w' => (m ≤ j ∨ S w') ∧ wpAnyU P md ops Q S m fuel (listed.setIfInBounds j true) a' w') Q) : wpAnyU P md ops Q S m (fuel + 1) listed a w := by
  refine wpAnyU_all hr (by simp) (fun k hk => ?_)
  have hk' : k = i ∨ k = j := by simpa using hk
  rcases hk' with rfl | rfl
  · unfold wpOp
    have hw : Region.wanted oi (yielded ops a.tmps) = true := by simp [Region.wanted, gi]
    simp only [hi, hw, if_true]
    exact .inl h1
  · unfold wpOp
    have hw : Region.wanted oj (yielded ops a.tmps) = true := by simp [Region.wanted, gj]
    simp only [hj, hw, if_true]
    exact .inl h2
theorem wpAnyU_done {m : Nat} {listed : Array Bool} {a : Act} {w : World} (hr : Region.ready md ops listed = []) (h : Q .normal a w) : ∀ fuel, wpAnyU P md ops Q S m fuel listed a w
  | 0 => ⟨hr, h⟩
  | _ + 1 => ⟨fun _ => h, by rw [hr]; simp⟩
theorem wp_region_U {id m : Nat} {a : Act} {w : World} (hm : P.follows .mixedOrders = true)
    (h : wpAnyU P .any ops Q S m ops.size (Array.replicate ops.size false) a w.drew) : (Code.region id ops true).wp P Q a w :=
  wp_region_any hm (wpAny_of_U _ _ _ _ h)
end
end Go.Proofs.YtfihfjbakfadkaaDoor
namespace Go.Proofs.YtfihfjbakfadkaaDoor
open Go.RowKit
set_option maxRecDepth 100000
set_option linter.unusedVariables false

section
variable {P : Program} {md : Region.Mode} {ops : Array Oper} {Q : Exit → Act → World → Prop} {S : World → Prop}
/-- The one operation that is ready, guarded or not. -/
theorem wpAnyU_oneW {m i : Nat} {oi : Oper} {fuel : Nat} {listed : Array Bool} {a : Act} {w : World} (hi : ops[i]? = some oi) (hw : Region.wanted oi (yielded ops a.tmps) = true) (hr : Region.ready md ops listed = [i])
    (h : Oper.wp P oi a w (fun a' w' => (m ≤ i ∨ S w') ∧ wpAnyU P md ops Q S m fuel (listed.setIfInBounds i true) a' w') Q) : wpAnyU P md ops Q S m (fuel + 1) listed a w := by
  refine wpAnyU_all hr (by simp) (fun j hj => ?_)
  obtain rfl : j = i := by simpa using hj
  unfold wpOp
  simp only [hi, hw, if_true]
  exact .inl h
end
structure Lm where
  s : Nat
  p : Nat
  t : Int
  r : Int
  c : Int
  n : Int
abbrev lmA (l : Lm) : Array Value := #[.int .i64 (l.s : Int), .int .i64 (l.p : Int), .int .i64 l.t, .int .i64 l.r, .int .i64 l.c, .int .i64 l.n]
structure Lm.Right (l : Lm) : Prop where
  s : 4 ≤ (l.s : Int) ∧ (l.s : Int) ≤ 4096
  p : 3 ≤ (l.p : Int) ∧ (l.p : Int) ≤ 256
  t : 1 ≤ l.t ∧ l.t ≤ 64
  r : 2 ≤ l.r ∧ l.r ≤ 64
  c : 2 ≤ l.c ∧ l.c ≤ 64
  n : 8 ≤ l.n ∧ l.n ≤ 1099511627776
/-- What a memory's parts hold, and where they lie. -/
structure St where
  a : Nat
  G : Nat
  ss : List Sl
  T : Nat
  H : Nat
  ps : List Pg
  C : Nat
  M : Nat
  now : Int
  n : Nat
  D : Ins
abbrev mmA (k : Int) (l : Lm) (x : St) : Array Value := #[.int .i64 k, .int .i64 (l.s : Int), .int .i64 (l.p : Int), .int .i64 l.t, .int .i64 l.r, .int .i64 l.c, .int .i64 l.n, .pointer (some ⟨x.a, 0, none⟩), .pointer (some ⟨x.T, 0, none⟩), .pointer (some ⟨x.C, 0, none⟩)]
structure Mm (w : World) (m : Nat) (k : Int) (l : Lm) (x : St) : Prop where
  b : Blk w m 101 (mmA k l x)
  ar : Ar w x.a x.G l.n x.ss
  tb : Tbl w x.T x.H x.ps
  ck : Clk w x.C x.M x.now l.n l.t x.n x.D
theorem Tbl.keep {w w' : World} {T G : Nat} {ps : List Pg} (h : Tbl w T G ps) (hf : Fr none_ w w') : Tbl w' T G ps := h.fr hf id id
theorem Clk.keep {w w' : World} {C M n : Nat} {now last threads : Int} {D : Ins} (h : Clk w C M now last threads n D) (hf : Fr none_ w w') : Clk w' C M now last threads n D := h.fr hf id id
theorem Mm.keep {w w' : World} {m : Nat} {k : Int} {l : Lm} {x : St} (h : Mm w m k l x) (hf : Fr none_ w w') : Mm w' m k l x := ⟨h.b.fr hf id, h.ar.keep hf, h.tb.keep hf, h.ck.keep hf⟩
section
variable {w w' : World} {m : Nat} {k : Int} {l : Lm} {x : St}
theorem Ar.gne {a G : Nat} {last : Int} {ss : List Sl} (h : Ar w a G last ss) {g : Nat} {t : TypeId} {cs : Array Value} (hb : Blk w g t cs) (ht : 152 ≠ t) : g ≠ G := by
  obtain ⟨cs', hG, _⟩ := h.hG
  exact (Blk.ne_ hG hb ht).symm
theorem Clk.mne {C M n : Nat} {now last threads : Int} {D : Ins} (h : Clk w C M now last threads n D) {g : Nat} {t : TypeId} {cs : Array Value} (hb : Blk w g t cs) : M ≠ g := by
  rintro rfl
  obtain ⟨es, clock, hm, r⟩ := h.hM
  unfold Blk at hb
  rw [hb] at hm
  cases hm
/-- The arena alone was turned. -/
theorem Mm.arPut (h : Mm w m k l x) {ss' : List Sl} (hA : Ar w' x.a x.G l.n ss') (hf : Fr (only x.G) w w') : Mm w' m k l { x with ss := ss' } := by
  obtain ⟨cs, hG, _⟩ := h.ar.hG
  obtain ⟨cap, cur, hT, hH, _⟩ := id h.tb
  exact ⟨h.b.fr hf (only_ne (h.ar.gne h.b (by decide))), hA, h.tb.fr hf (only_ne (h.ar.gne hT (by decide))) (only_ne (h.ar.gne hH (by decide))), h.ck.fr hf (only_ne (h.ar.gne h.ck.hC (by decide))) (only_ne (h.ck.mne hG))⟩
/-- The table alone was turned. -/
theorem Mm.tbPut (h : Mm w m k l x) {ps' : List Pg} (hT : Tbl w' x.T x.H ps') (hf : Fr (only x.H) w w') : Mm w' m k l { x with ps := ps' } := by
  obtain ⟨cs, hG, _⟩ := h.ar.hG
  obtain ⟨cap, cur, hT0, hH, _⟩ := id h.tb
  exact ⟨h.b.fr hf (only_ne (Blk.ne_ h.b hH (by decide))), h.ar.beside hf hH (by decide) (by decide) (Blk.ne_ h.ar.hA hH (by decide)) (Blk.ne_ hG hH (by decide)), hT, h.ck.fr hf (only_ne (Blk.ne_ h.ck.hC hH (by decide))) (only_ne (h.ck.mne hH))⟩
/-- One more access. -/
theorem Mm.count (h : Mm w m k l x) (k' : Int) : Mm (w.setCell ⟨m, 0, none⟩ (.int .i64 k')) m k' l x := by
  obtain ⟨cs, hG, _⟩ := h.ar.hG
  obtain ⟨cap, cur, hT0, hH, _⟩ := id h.tb
  have hf := Fr.only1 w ⟨m, 0, none⟩ (.int .i64 k')
  exact ⟨h.b.set_ 0 _, h.ar.beside hf h.b (by decide) (by decide) (Blk.ne_ h.ar.hA h.b (by decide)) (Blk.ne_ hG h.b (by decide)), h.tb.fr hf (only_ne (Blk.ne_ hT0 h.b (by decide))) (only_ne (Blk.ne_ hH h.b (by decide))), h.ck.fr hf (only_ne (Blk.ne_ h.ck.hC h.b (by decide))) (only_ne (h.ck.mne h.b))⟩
end
theorem rep_set {α : Type} {n : Nat} (h : 0 < n) (z y : α) : (List.replicate n z).set 0 y = y :: List.replicate (n - 1) z := by
  cases n with
  | zero => omega
  | succ n => simp [List.replicate_succ]
theorem rep_get {α : Type} {n : Nat} (h : 0 < n) (z : α) : (List.replicate n z)[0]? = some z := by
  cases n with
  | zero => omega
  | succ n => simp [List.replicate_succ]
abbrev leafR : Rc := ⟨1, nilS, nilS, true, 0, [], [], nilS, nilS, 0, 0, 0, nilS, 0, 0⟩
theorem reads_leaf (w : World) : RecReads w leafR none none := ⟨⟨rfl, fun h => absurd h (Nat.lt_irrefl 0)⟩, ⟨rfl, fun h => absurd h (Nat.lt_irrefl 0)⟩⟩
/-- A memory as it is at first. -/
def NewMem (l : Lm) (w : World) (e : Ending) (w' : World) : Prop :=
  ∃ (m a G : Nat) (vr ve : Value) (T H C M : Nat), e = .returned (.tuple #[.pointer (some ⟨m, 0, none⟩), .nilIface]) ∧ Mm w' m 0 l ⟨a, G, ⟨1, true, leafR, vr, ve⟩ :: List.replicate (l.s - 1) Sl.zero, T, H, (true, 1, 1) :: List.replicate (l.p - 1) (false, 0, 0), C, M, 1, 0, .map []⟩ ∧ Fr none_ w w' ∧ w.heap.size ≤ m ∧ w.heap.size ≤ C ∧ w.heap.size ≤ M ∧ w.heap.size ≤ G ∧ w.heap.size ≤ H
theorem within_yes (n a b : Int) (w : World) (h1 : a ≤ n) (h2 : n ≤ b) : Calls Tryd.prog 61 #[.int .i64 n, .int .i64 a, .int .i64 b] w fun e w' => e = .returned (.bool true) ∧ w = w' := by
  have d1 : decide (a ≤ n) = true := by simpa using h1
  have d2 : decide (n ≤ b) = true := by simpa using h2
  clear h1 h2
  go_enter Tryd.func61, Tryd.ntmps61
  go_wp2
  go_ret
  exact ⟨rfl, rfl⟩
set_option maxHeartbeats 4000000 in
theorem right_yes (l : Lm) (w : World) (hl : l.Right) : Calls Tryd.prog 28 #[.agg (lmA l)] w fun e w' => e = .returned (.bool true) ∧ Fr none_ w w' := by
  have HL := hid_ hl
  clear hl
  go_enter Tryd.func28, Tryd.ntmps28
  go_wp2_with fail
  refine (within_yes _ _ _ _ HL.out.s.1 HL.out.s.2).mono ?_
  rintro e w1 ⟨rfl, rfl⟩
  go_wp2_with fail
  refine (within_yes _ _ _ _ HL.out.p.1 HL.out.p.2).mono ?_
  rintro e w1 ⟨rfl, rfl⟩
  go_wp2_with fail
  refine (within_yes _ _ _ _ HL.out.t.1 HL.out.t.2).mono ?_
  rintro e w1 ⟨rfl, rfl⟩
  go_wp2_with fail
  refine (within_yes _ _ _ _ HL.out.r.1 HL.out.r.2).mono ?_
  rintro e w1 ⟨rfl, rfl⟩
  go_wp2_with fail
  refine (within_yes _ _ _ _ HL.out.c.1 HL.out.c.2).mono ?_
  rintro e w1 ⟨rfl, rfl⟩
  go_wp2_with fail
  refine (within_yes _ _ _ _ HL.out.n.1 HL.out.n.2).mono ?_
  rintro e w1 ⟨rfl, rfl⟩
  go_wp2_with fail
  go_ret
  exact ⟨rfl, (Fr.refl none_ w).alloc _⟩
set_option maxHeartbeats 8000000 in
theorem memNew_ok (l : Lm) (w : World) (hl : l.Right) : Calls Tryd.prog 8 #[.agg (lmA l)] w (NewMem l w) := by
  have HL := hid_ hl
  clear hl
  have F := hid_ (Fr.refl none_ w)
  go_enter Tryd.func8, Tryd.ntmps8
  go_upto_region 1 with fail
  obtain ⟨w0, hw0⟩ : ∃ z, z = w.alloc (.cells (lmA l) 23) := ⟨_, rfl⟩
  have fw0 : Fr none_ w w0 := by rw [hw0]; exact (Fr.refl none_ w).alloc _
  have BL : Hid (Blk w0 w.heap.size 23 (lmA l)) := hid_ (by rw [hw0]; exact Blk.new w _ _)
  replace F := hid_ (F.out.then_none fw0)
  change Code.wp _ _ _ _ (w.alloc (.cells (lmA l) 23))
  rw [← hw0]
  clear hw0 fw0
  have v0 : w0.cell? ⟨w.heap.size, 0, none⟩ = some (.int .i64 (l.s : Int)) := BL.out.cell' rfl
  have v1 : w0.cell? ⟨w.heap.size, 1, none⟩ = some (.int .i64 (l.p : Int)) := BL.out.cell' rfl
  have v2 : w0.cell? ⟨w.heap.size, 2, none⟩ = some (.int .i64 l.t) := BL.out.cell' rfl
  have v3 : w0.cell? ⟨w.heap.size, 3, none⟩ = some (.int .i64 l.r) := BL.out.cell' rfl
  have v4 : w0.cell? ⟨w.heap.size, 4, none⟩ = some (.int .i64 l.c) := BL.out.cell' rfl
  have v5 : w0.cell? ⟨w.heap.size, 5, none⟩ = some (.int .i64 l.n) := BL.out.cell' rfl
  go_wp2_with fail
  refine (right_yes l _ HL.out).mono ?_
  rintro e w1 ⟨rfl, hf1⟩
  replace F := hid_ (F.out.then_none hf1)
  replace BL := hid_ (BL.out.fr hf1 id)
  clear hf1
  clear v0 v1 v2 v3 v4 v5
  have v0 : w1.cell? ⟨w.heap.size, 0, none⟩ = some (.int .i64 (l.s : Int)) := BL.out.cell' rfl
  have v1 : w1.cell? ⟨w.heap.size, 1, none⟩ = some (.int .i64 (l.p : Int)) := BL.out.cell' rfl
  have v2 : w1.cell? ⟨w.heap.size, 2, none⟩ = some (.int .i64 l.t) := BL.out.cell' rfl
  have v3 : w1.cell? ⟨w.heap.size, 3, none⟩ = some (.int .i64 l.r) := BL.out.cell' rfl
  have v4 : w1.cell? ⟨w.heap.size, 4, none⟩ = some (.int .i64 l.c) := BL.out.cell' rfl
  have v5 : w1.cell? ⟨w.heap.size, 5, none⟩ = some (.int .i64 l.n) := BL.out.cell' rfl
  go_upto_region 3 with fail
  have hS0 : (fun w' : World => Fr none_ w1 w') w1.drew := (Fr.refl none_ w1).drew
  refine wp_region_U (m := 14) (S := fun w' : World => Fr none_ w1 w') (by kernel_rfl) ?_
  refine wpAnyU_take2 (i := 0) (v := _) rfl (by kernel_rfl) (by kernel_rfl) (by kernel_rfl) (by kernel_rfl) (fun _ _ _ h => h) (.inl ⟨by kernel_rfl, fun w' hS => by have s_0 := cellFr v0 hS; have s_1 := cellFr v1 hS; have s_2 := cellFr v2 hS; have s_3 := cellFr v3 hS; have s_4 := cellFr v4 hS; have s_5 := cellFr v5 hS; go_simp; rfl⟩) hS0 ?_
  refine wpAnyU_take2 (i := 1) (v := _) rfl (by kernel_rfl) (by kernel_rfl) (by kernel_rfl) (by kernel_rfl) (fun _ _ _ h => h) (.inl ⟨by kernel_rfl, fun w' hS => by go_simp; rfl⟩) hS0 ?_
  refine wpAnyU_take2 (i := 2) (v := _) rfl (by kernel_rfl) (by kernel_rfl) (by kernel_rfl) (by kernel_rfl) (fun _ _ _ h => h) (.inl ⟨by kernel_rfl, fun w' hS => by have s_0 := cellFr v0 hS; have s_1 := cellFr v1 hS; have s_2 := cellFr v2 hS; have s_3 := cellFr v3 hS; have s_4 := cellFr v4 hS; have s_5 := cellFr v5 hS; go_simp; rfl⟩) hS0 ?_
  refine wpAnyU_take2 (i := 3) (v := _) rfl (by kernel_rfl) (by kernel_rfl) (by kernel_rfl) (by kernel_rfl) (fun _ _ _ h => h) (.inl ⟨by kernel_rfl, fun w' hS => by go_simp; rfl⟩) hS0 ?_
  refine wpAnyU_take2 (i := 4) (v := _) rfl (by kernel_rfl) (by kernel_rfl) (by kernel_rfl) (by kernel_rfl) (fun _ _ _ h => h) (.inl ⟨by kernel_rfl, fun w' hS => by have s_0 := cellFr v0 hS; have s_1 := cellFr v1 hS; have s_2 := cellFr v2 hS; have s_3 := cellFr v3 hS; have s_4 := cellFr v4 hS; have s_5 := cellFr v5 hS; go_simp; rfl⟩) hS0 ?_
  refine wpAnyU_take2 (i := 6) (v := _) rfl (by kernel_rfl) (by kernel_rfl) (by kernel_rfl) (by kernel_rfl) (fun _ _ _ h => h) (.inl ⟨by kernel_rfl, fun w' hS => by go_simp; rfl⟩) hS0 ?_
  refine wpAnyU_take2 (i := 7) (v := _) rfl (by kernel_rfl) (by kernel_rfl) (by kernel_rfl) (by kernel_rfl) (fun _ _ _ h => h) (.inl ⟨by kernel_rfl, fun w' hS => by have s_0 := cellFr v0 hS; have s_1 := cellFr v1 hS; have s_2 := cellFr v2 hS; have s_3 := cellFr v3 hS; have s_4 := cellFr v4 hS; have s_5 := cellFr v5 hS; go_simp; rfl⟩) hS0 ?_
  refine wpAnyU_take2 (i := 9) (v := _) rfl (by kernel_rfl) (by kernel_rfl) (by kernel_rfl) (by kernel_rfl) (fun _ _ _ h => h) (.inl ⟨by kernel_rfl, fun w' hS => by go_simp; rfl⟩) hS0 ?_
  refine wpAnyU_take2 (i := 10) (v := _) rfl (by kernel_rfl) (by kernel_rfl) (by kernel_rfl) (by kernel_rfl) (fun _ _ _ h => h) (.inl ⟨by kernel_rfl, fun w' hS => by have s_0 := cellFr v0 hS; have s_1 := cellFr v1 hS; have s_2 := cellFr v2 hS; have s_3 := cellFr v3 hS; have s_4 := cellFr v4 hS; have s_5 := cellFr v5 hS; go_simp; rfl⟩) hS0 ?_
  refine wpAnyU_take2 (i := 11) (v := _) rfl (by kernel_rfl) (by kernel_rfl) (by kernel_rfl) (by kernel_rfl) (fun _ _ _ h => h) (.inl ⟨by kernel_rfl, fun w' hS => by go_simp; rfl⟩) hS0 ?_
  refine wpAnyU_take2 (i := 12) (v := _) rfl (by kernel_rfl) (by kernel_rfl) (by kernel_rfl) (by kernel_rfl) (fun _ _ _ h => h) (.inl ⟨by kernel_rfl, fun w' hS => by have s_0 := cellFr v0 hS; have s_1 := cellFr v1 hS; have s_2 := cellFr v2 hS; have s_3 := cellFr v3 hS; have s_4 := cellFr v4 hS; have s_5 := cellFr v5 hS; go_simp; rfl⟩) hS0 ?_
  refine wpAnyU_oneW (i := 5) rfl (by kernel_rfl) (by kernel_rfl) ?_
  go_simp
  refine (arNew_ok l.s l.n _ (by have := HL.out.s; omega) (by have := HL.out.s; omega) (by have := HL.out.n; omega) HL.out.n.2).mono ?_
  rintro e w2 ⟨a, G, rfl, hA, hf2, ha, hG⟩
  have HGw := hid_ (show w.heap.size ≤ G by have := F.out.size; simp at hG; omega)
  have HHw := hid_ (show w.heap.size ≤ w2.heap.size by have := F.out.size; have := hf2.size; simp at this; omega)
  have fS := (Fr.refl none_ w1).drew.then_none hf2
  refine ⟨fS, ?_⟩
  have A1 := hid_ hA
  clear hA hf2 hS0
  clear v0 v1 v2 v3 v4 v5
  refine wpAnyU_oneW (i := 8) rfl (by kernel_rfl) (by kernel_rfl) ?_
  go_simp
  refine (mapNew_ok l.p _ (by have := HL.out.p; omega) (by have := HL.out.p; omega)).mono ?_
  rintro e w3 ⟨rfl, hT, hf3, -⟩
  have fS := fS.then_none hf3
  refine ⟨fS, ?_⟩
  replace A1 := hid_ (A1.out.keep hf3)
  have T1 := hid_ hT
  clear hT hf3
  refine wpAnyU_oneW (i := 13) rfl (by kernel_rfl) (by kernel_rfl) ?_
  go_simp
  refine (clkNew_ok l.t l.n _ HL.out.t.1 HL.out.t.2 (by have := HL.out.n; omega) HL.out.n.2).mono ?_
  rintro e w4 ⟨C, M, rfl, hC, hf4, hc1, hc2⟩
  have HCw := hid_ (show w.heap.size ≤ C ∧ w.heap.size ≤ M by have := F.out.size; have := fS.size; omega)
  have fS := fS.then_none hf4
  refine ⟨fS, ?_⟩
  replace A1 := hid_ (A1.out.keep hf4)
  replace T1 := hid_ (T1.out.keep hf4)
  have C1 := hid_ hC
  clear hC hf4
  refine wpAnyU_oneW (i := 14) rfl (by kernel_rfl) (by kernel_rfl) ?_
  go_simp
  refine wpAnyU_oneW (i := 15) rfl (by kernel_rfl) (by kernel_rfl) ?_
  go_simp
  refine wpAnyU_oneW (i := 16) rfl (by kernel_rfl) (by kernel_rfl) ?_
  go_simp
  refine wpAnyU_done (by kernel_rfl) ?_ _
  replace F := hid_ (F.out.then_none fS)
  clear fS
  go_upto_region 4 with fail
  have HMw := hid_ F.out.size
  obtain ⟨w5, hw5⟩ : ∃ z, z = w4.alloc (.cells #[.int .i64 0, .int .i64 (l.s : Int), .int .i64 (l.p : Int), .int .i64 l.t, .int .i64 l.r, .int .i64 l.c, .int .i64 l.n, .pointer (some ⟨a, 0, none⟩), .pointer (some ⟨w2.heap.size + 1, 0, none⟩), .pointer (some ⟨C, 0, none⟩)] 101) := ⟨_, rfl⟩
  have fw5 : Fr none_ w4 w5 := by rw [hw5]; exact (Fr.refl none_ w4).alloc _
  have BM : Hid (Blk w5 w4.heap.size 101 (#[.int .i64 0, .int .i64 (l.s : Int), .int .i64 (l.p : Int), .int .i64 l.t, .int .i64 l.r, .int .i64 l.c, .int .i64 l.n, .pointer (some ⟨a, 0, none⟩), .pointer (some ⟨w2.heap.size + 1, 0, none⟩), .pointer (some ⟨C, 0, none⟩)])) := hid_ (by rw [hw5]; exact Blk.new w4 _ _)
  replace F := hid_ (F.out.then_none fw5)
  replace A1 := hid_ (A1.out.keep fw5)
  replace T1 := hid_ (T1.out.keep fw5)
  replace C1 := hid_ (C1.out.keep fw5)
  change Code.wp _ _ _ _ (w4.alloc (.cells #[.int .i64 0, .int .i64 (l.s : Int), .int .i64 (l.p : Int), .int .i64 l.t, .int .i64 l.r, .int .i64 l.c, .int .i64 l.n, .pointer (some ⟨a, 0, none⟩), .pointer (some ⟨w2.heap.size + 1, 0, none⟩), .pointer (some ⟨C, 0, none⟩)] 101))
  rw [← hw5]
  clear hw5 fw5
  have M5 : Hid (Mm w5 w4.heap.size 0 l ⟨a, G, List.replicate l.s Sl.zero, w2.heap.size + 1, w2.heap.size, List.replicate l.p (false, 0, 0), C, M, 1, 0, .map []⟩) := hid_ ⟨BM.out, A1.out, T1.out, C1.out⟩
  have hw1 := F.out.size
  have m7 : w5.cell? ⟨w4.heap.size, 7, none⟩ = some (.pointer (some ⟨a, 0, none⟩)) := BM.out.cell' rfl
  go_wp2_with fail
  refine (alloc_ok leafR none 0 none 0 _ a G l.n _ M5.out.ar (reads_leaf _) ⟨by decide, by decide⟩).mono ?_
  rintro e w6 h6
  obtain ⟨vr, ve, rfl, hA6, -, hf6⟩ := h6.first (i := 0) (s := Sl.zero) (rep_get (by have := HL.out.s; omega) _) rfl (by show (0 : Int) ≠ l.n; have := HL.out.n; omega) (fun j t hj => by omega)
  rw [rep_set (by have := HL.out.s; omega)] at hA6
  have M6 : Hid (Mm w6 w4.heap.size 0 l ⟨a, G, ⟨1, true, leafR, vr, ve⟩ :: List.replicate (l.s - 1) Sl.zero, w2.heap.size + 1, w2.heap.size, List.replicate l.p (false, 0, 0), C, M, 1, 0, .map []⟩) := hid_ (M5.out.arPut hA6 hf6)
  have F6 := hid_ (F.out.then_only hf6 (.inr HGw.out))
  clear h6 hA6 hf6 m7 M5 BM A1 T1 C1 F
  go_upto_region 5 with fail
  obtain ⟨w7, hw7⟩ : ∃ z, z = w6.alloc (.cells #[.int .i64 1, .int .i64 1] 25) := ⟨_, rfl⟩
  have fw7 : Fr none_ w6 w7 := by rw [hw7]; exact (Fr.refl none_ w6).alloc _
  have BX : Hid (Blk w7 w6.heap.size 25 (#[.int .i64 1, .int .i64 1])) := hid_ (by rw [hw7]; exact Blk.new w6 _ _)
  replace F6 := hid_ (F6.out.then_none fw7)
  replace M6 := hid_ (M6.out.keep fw7)
  change Code.wp _ _ _ _ (w6.alloc (.cells #[.int .i64 1, .int .i64 1] 25))
  rw [← hw7]
  clear hw7 fw7
  have m8 : w7.cell? ⟨w4.heap.size, 8, none⟩ = some (.pointer (some ⟨w2.heap.size + 1, 0, none⟩)) := M6.out.b.cell' rfl
  go_wp2_with fail
  refine (mtake_ok _ _ _ 0 0 0 _ M6.out.tb (rep_get (by have := HL.out.p; omega) _) (fun j p hj => by omega)).mono ?_
  rintro e w8 ⟨rfl, h8⟩
  have hT8 : Tbl w8 (w2.heap.size + 1) w2.heap.size ((List.replicate l.p (false, 0, 0)).set 0 (true, 0, 0)) := by rw [h8]; exact M6.out.tb.set_ (by simp; have := HL.out.p; omega) _
  have hf8 : Fr (only w2.heap.size) w7 w8 := by rw [h8]; exact setPg_only _ _ _ _
  rw [rep_set (by have := HL.out.p; omega)] at hT8
  replace BX := hid_ (BX.out.fr hf8 (only_ne (by obtain ⟨cap, cur, hT0, hH, _⟩ := id M6.out.tb; exact Blk.ne_ BX.out hH (by decide))))
  replace M6 := hid_ (M6.out.tbPut hT8 hf8)
  replace F6 := hid_ (F6.out.then_only hf8 (.inr HHw.out))
  clear h8 hT8 hf8 m8
  have m8 : w8.cell? ⟨w4.heap.size, 8, none⟩ = some (.pointer (some ⟨w2.heap.size + 1, 0, none⟩)) := M6.out.b.cell' rfl
  have x0 : w8.cell? ⟨w6.heap.size, 0, none⟩ = some (.int .i64 1) := BX.out.cell' rfl
  have x1 : w8.cell? ⟨w6.heap.size, 1, none⟩ = some (.int .i64 1) := BX.out.cell' rfl
  go_upto_region 10 with fail
  have nH : ¬ only w2.heap.size w4.heap.size ∧ ¬ only w2.heap.size w6.heap.size := by
    obtain ⟨cap, cur, hT0, hH, _⟩ := id M6.out.tb
    exact ⟨only_ne (Blk.ne_ M6.out.b hH (by decide)), only_ne (Blk.ne_ BX.out hH (by decide))⟩
  have hS1 : (fun w' : World => Fr (only w2.heap.size) w8 w') w8.drew := (Fr.refl _ w8).drew
  refine wp_region_U (m := 13) (S := fun w' : World => Fr (only w2.heap.size) w8 w') (by kernel_rfl) ?_
  refine wpAnyU_take2 (i := 0) (v := _) rfl (by kernel_rfl) (by kernel_rfl) (by kernel_rfl) (by kernel_rfl) (fun _ _ _ h => h) (.inl ⟨by kernel_rfl, fun w' hS => by go_simp; rfl⟩) hS1 ?_
  refine wpAnyU_take2 (i := 1) (v := _) rfl (by kernel_rfl) (by kernel_rfl) (by kernel_rfl) (by kernel_rfl) (fun _ _ _ h => h) (.inl ⟨by kernel_rfl, fun w' hS => by go_simp; rfl⟩) hS1 ?_
  refine wpAnyU_take2 (i := 2) (v := _) rfl (by kernel_rfl) (by kernel_rfl) (by kernel_rfl) (by kernel_rfl) (fun _ _ _ h => h) (.inl ⟨by kernel_rfl, fun w' hS => by go_simp; rfl⟩) hS1 ?_
  refine wpAnyU_take2 (i := 3) (v := _) rfl (by kernel_rfl) (by kernel_rfl) (by kernel_rfl) (by kernel_rfl) (fun _ _ _ h => h) (.inl ⟨by kernel_rfl, fun w' hS => by have s_8 := cellFrS m8 hS nH.1; go_simp; rfl⟩) hS1 ?_
  refine wpAnyU_take2 (i := 4) (v := _) rfl (by kernel_rfl) (by kernel_rfl) (by kernel_rfl) (by kernel_rfl) (fun _ _ _ h => h) (.inl ⟨by kernel_rfl, fun w' hS => by go_simp; rfl⟩) hS1 ?_
  refine wpAnyU_take2 (i := 5) (v := _) rfl (by kernel_rfl) (by kernel_rfl) (by kernel_rfl) (by kernel_rfl) (fun _ _ _ h => h) (.inl ⟨by kernel_rfl, fun w' hS => by go_simp; rfl⟩) hS1 ?_
  refine wpAnyU_take2 (i := 6) (v := _) rfl (by kernel_rfl) (by kernel_rfl) (by kernel_rfl) (by kernel_rfl) (fun _ _ _ h => h) (.inl ⟨by kernel_rfl, fun w' hS => by have s_0 := cellFrS x0 hS nH.2; have s_1 := cellFrS x1 hS nH.2; go_simp; rfl⟩) hS1 ?_
  clear m8 x0 x1
  refine wpAnyU_oneW (i := 7) rfl (by kernel_rfl) (by kernel_rfl) ?_
  go_simp
  refine (swap_ok _ _ _ 0 0 0 0 0 1 1 _ (M6.out.tb.keep (Fr.refl none_ _).drew) rfl).mono ?_
  rintro e w9 ⟨rfl, hT9, hf9⟩
  have hT9' : Tbl w9 (w2.heap.size + 1) w2.heap.size ((true, 1, 1) :: List.replicate (l.p - 1) (false, 0, 0)) := by simpa using hT9
  have M9 := hid_ ((M6.out.keep (Fr.refl none_ w8).drew).tbPut hT9' hf9)
  have fS9 : (fun w' : World => Fr (only w2.heap.size) w8 w') w9 := (Fr.refl (only w2.heap.size) w8).drew.then_only hf9 (.inl (Eq.refl _))
  have F9 := hid_ (F6.out.drew.then_only hf9 (.inr HHw.out))
  clear hT9 hT9' hf9 hS1
  simp only [beq_self_eq_true, Bool.and_self]
  refine ⟨fS9, ?_⟩
  refine wpAnyU_take2 (i := 8) (v := _) rfl (by kernel_rfl) (by kernel_rfl) (by kernel_rfl) (by kernel_rfl) (fun _ _ _ h => h) (.inl ⟨by kernel_rfl, fun w' hS => by go_simp; rfl⟩) fS9 ?_
  refine wpAnyU_take2 (i := 9) (v := _) rfl (by kernel_rfl) (by kernel_rfl) (by kernel_rfl) (by kernel_rfl) (fun _ _ _ h => h) (.inl ⟨by kernel_rfl, fun w' hS => by go_simp; rfl⟩) fS9 ?_
  refine wpAnyU_take2 (i := 10) (v := _) rfl (by kernel_rfl) (by kernel_rfl) (by kernel_rfl) (by kernel_rfl) (fun _ _ _ h => h) (.inl ⟨by kernel_rfl, fun w' hS => by go_simp; rfl⟩) fS9 ?_
  refine wpAnyU_take2 (i := 11) (v := _) rfl (by kernel_rfl) (by kernel_rfl) (by kernel_rfl) (by kernel_rfl) (fun _ _ _ h => h) (.inl ⟨by kernel_rfl, fun w' hS => by go_simp; rfl⟩) fS9 ?_
  refine wpAnyU_take2 (i := 12) (v := _) rfl (by kernel_rfl) (by kernel_rfl) (by kernel_rfl) (by kernel_rfl) (fun _ _ _ h => h) (.inl ⟨by kernel_rfl, fun w' hS => by go_simp; rfl⟩) fS9 ?_
  refine wpAnyU_done (by kernel_rfl) ?_ _
  go_wp2_with fail
  go_ret2
  exact ⟨_, _, _, _, _, _, _, _, _, rfl, M9.out, F9.out, HMw.out, HCw.out.1, HCw.out.2, HGw.out, HHw.out⟩
end Go.Proofs.YtfihfjbakfadkaaDoor
namespace Go.Proofs.YtfihfjbakfadkaaDoor
open Go.RowKit
set_option maxRecDepth 100000
set_option linter.unusedVariables false

/-- A record in a row: what its slices are. -/
structure Cr where
  R : Rc
  A : Option Addr
  c : Nat
  B : Option Addr
  d : Nat
abbrev crA (C : Cr) : Array Value := recA C.R (.slice C.A C.R.rows.length C.c) (.slice C.B C.R.ents.length C.d)
def crFlat (L : List Cr) : List Value := (L.map fun C => (crA C).toList).flatten
theorem crFlat_snoc (L : List Cr) (C : Cr) : crFlat (L ++ [C]) = crFlat L ++ (crA C).toList := by simp [crFlat]
def rf9Flat (L : List (Int × Int)) : List Value := (L.map fun p => [Value.int .i64 p.1, Value.int .i64 p.2]).flatten
theorem rf9Flat_snoc (L : List (Int × Int)) (p : Int × Int) : rf9Flat (L ++ [p]) = rf9Flat L ++ [Value.int .i64 p.1, Value.int .i64 p.2] := by simp [rf9Flat]
theorem rec_info9 : (Tryd.prog.info? 41).map (fun i => (i.zero, i.size, i.bytes)) = some (some (.agg recZ), 15, 192) := by kernel_rfl
theorem ref_info9 : (Tryd.prog.info? 25).map (fun i => (i.zero, i.size, i.bytes)) = some (some (.agg #[.int .i64 0, .int .i64 0]), 2, 16) := by kernel_rfl
theorem cr_one (C : Cr) : ∀ u ∈ (crA C).toList, u.oneCell' = true := by
  intro u hu
  simp only [List.mem_cons, List.not_mem_nil, or_false] at hu
  rcases hu with rfl | rfl | rfl | rfl | rfl | rfl | rfl | rfl | rfl | rfl | rfl | rfl | rfl | rfl | rfl <;> rfl
theorem RecOwn.grown {w w' : World} {base : Nat} {R : Rc} {vr ve : Value} (h : RecOwn w base R vr ve) {b size n : Nat} {e : TypeId} {v : Value} {xs : List Value} (ho : w.ownsRow b e size v n xs) (h1 : 137 ≠ e) (h2 : 139 ≠ e) (hg : w.grownBy w' v.ownBlock) : RecOwn w' base R vr ve := by
  refine ⟨h.r.kept hg ?_, h.e.kept hg ?_⟩
  · cases hk : vr.ownBlock with
    | none => exact .inl rfl
    | some k => exact .inr (fun e' => own_own_ne h.r ho h1 k hk e'.symm)
  · cases hk : ve.ownBlock with
    | none => exact .inl rfl
    | some k => exact .inr (fun e' => own_own_ne h.e ho h2 k hk e'.symm)
theorem own_kept {w w' : World} {base size n base' size' n' : Nat} {e e' : TypeId} {v v' : Value} {xs xs' : List Value} (h : w.ownsRow base e size v n xs) (ho : w.ownsRow base' e' size' v' n' xs') (hne : e ≠ e') (hg : w.grownBy w' v'.ownBlock) : w'.ownsRow base e size v n xs := by
  refine h.kept hg ?_
  cases hk : v.ownBlock with
  | none => exact .inl rfl
  | some k => exact .inr (fun e' => own_own_ne h ho hne k hk e'.symm)
theorem Blk.there9 {w : World} {g n : Nat} {t : TypeId} {cs : Array Value} (h : Blk w g t cs) (hn : cs.size = n) : w.there g 0 n := by
  subst hn
  intro j hj
  refine ⟨?_, h.frozen _⟩
  rw [h.cell, Nat.zero_add, Array.getElem?_eq_getElem hj]
  rfl
theorem Blk.over9 {w : World} {g : Nat} {t : TypeId} {zs : Array Value} (h : Blk w g t zs) (vs : List Value) (hz : zs.size = vs.length) : Blk (w.setCells g 0 vs) g t vs.toArray ∧ Fr (only g) w (w.setCells g 0 vs) := by
  refine ⟨?_, Fr.setCells _ _ _ (Fr.refl _ _) (.inl rfl)⟩
  have h := Blk.setCells vs 0 _ _ h
  have e : setA zs 0 vs = vs.toArray := by
    apply Array.ext_getElem?
    intro k
    rcases Nat.lt_or_ge k vs.length with h1 | h1
    · have := setA_in vs zs 0 k vs[k] (List.getElem?_eq_getElem h1) (by omega)
      rw [Nat.zero_add] at this
      rw [this, List.getElem?_toArray, List.getElem?_eq_getElem h1]
    · rw [Array.getElem?_eq_none (by rw [setA_size]; omega), Array.getElem?_eq_none (by simpa using h1)]
  rwa [e] at h
theorem reads_blk9 {w : World} {t : TypeId} {cs : List Value} {b : Nat} (h : Blk w b t cs.toArray) : Reads w cs.length (some ⟨b, 0, none⟩) 1 cs :=
  ⟨by simp, fun _ => ⟨_, rfl, fun j u hu => by rw [add_lit, Nat.zero_add]; exact h.cell' (by simpa using hu)⟩⟩
/-- The slots of a chain, from a ref on. -/
def Links (ss : List Sl) : List Nat → Int → Int → Prop
  | [], s, g => s = 0 ∧ g = 0
  | j :: rest, s, g => s = (j : Int) + 1 ∧ ∃ y, ss[j]? = some y ∧ y.used = true ∧ y.gen = g ∧ Links ss rest y.R.nslot y.R.ngen
def recOf (ss : List Sl) (j : Nat) : Rc := (ss.getD j Sl.zero).R
def refOf (ss : List Sl) (j : Nat) : Int × Int := ((j : Int) + 1, (ss.getD j Sl.zero).gen)
theorem slotD {ss : List Sl} {j : Nat} {y : Sl} (h : ss[j]? = some y) : ss.getD j Sl.zero = y := by simp [h]
/-- What the loop holds. -/
structure Ch9 (w : World) (bx b : Nat) (cx cb : Array Value) (vl : Value) (nl : Nat) (xl : List Value) (vr : Value) (nr : Nat) (xr : List Value) (Cs : List Cr) (wr : World) : Prop where
  l : wr.ownsRow w.heap.size 41 15 vl nl xl
  r : wr.ownsRow w.heap.size 25 2 vr nr xr
  nl : ∀ k, vl.ownBlock = some k → k ≠ b
  nr : ∀ k, vr.ownBlock = some k → k ≠ bx
  bx : Blk wr bx 25 cx
  bt : Blk wr b 41 cb
  own : ∀ C ∈ Cs, RecOwn wr 0 C.R (.slice C.A C.R.rows.length C.c) (.slice C.B C.R.ents.length C.d)
  f : Fr none_ w wr
section
variable {w wr w' : World} {bx b : Nat} {cx cb : Array Value} {vl : Value} {nl : Nat} {xl : List Value} {vr : Value} {nr : Nat} {xr : List Value} {Cs : List Cr}
theorem Ch9.keep (h : Ch9 w bx b cx cb vl nl xl vr nr xr Cs wr) (hf : Fr none_ wr w') : Ch9 w bx b cx cb vl nl xl vr nr xr Cs w' :=
  ⟨own_none h.l hf, own_none h.r hf, h.nl, h.nr, h.bx.fr hf id, h.bt.fr hf id, fun C hC => (h.own C hC).keep hf, h.f.then_none hf⟩
theorem Ch9.putL (h : Ch9 w bx b cx cb vl nl xl vr nr xr Cs wr) {v' : Value} {m : Nat} {ys : List Value} (ho : w'.ownsRow w.heap.size 41 15 v' (nl + m) (xl ++ ys)) (hg : wr.grownBy w' vl.ownBlock) (hat : v'.ownBlock = vl.ownBlock ∨ v'.ownBlock = some wr.heap.size) : Ch9 w bx b cx cb v' (nl + m) (xl ++ ys) vr nr xr Cs w' :=
  ⟨ho, own_kept h.r h.l (by decide) hg, fun k hk => by
      rcases hat with e | e
      · exact h.nl k (e ▸ hk)
      · have h1 := h.bt.lt
        have : wr.heap.size = k := Option.some.inj (e.symm.trans hk)
        omega, h.nr, h.bx.grown hg (fun e => own_blk_ne h.l h.bx (by decide) e.symm), h.bt.grown hg (fun e => h.nl b e.symm rfl), fun C hC => (h.own C hC).grown h.l (by decide) (by decide) hg, h.f.grown hg (fun k hk => .inr (h.l.lt k hk).1)⟩
theorem Ch9.putR (h : Ch9 w bx b cx cb vl nl xl vr nr xr Cs wr) {v' : Value} {m : Nat} {ys : List Value} (ho : w'.ownsRow w.heap.size 25 2 v' (nr + m) (xr ++ ys)) (hg : wr.grownBy w' vr.ownBlock) (hat : v'.ownBlock = vr.ownBlock ∨ v'.ownBlock = some wr.heap.size) : Ch9 w bx b cx cb vl nl xl v' (nr + m) (xr ++ ys) Cs w' :=
  ⟨own_kept h.l h.r (by decide) hg, ho, h.nl, fun k hk => by
      rcases hat with e | e
      · exact h.nr k (e ▸ hk)
      · have h1 := h.bx.lt
        have : wr.heap.size = k := Option.some.inj (e.symm.trans hk)
        omega, h.bx.grown hg (fun e => h.nr bx e.symm rfl), h.bt.grown hg (fun e => own_blk_ne h.r h.bt (by decide) e.symm), fun C hC => (h.own C hC).grown h.r (by decide) (by decide) hg, h.f.grown hg (fun k hk => .inr (h.r.lt k hk).1)⟩
end
/-- A slice's length, for the measure. -/
def lenOf : Value → Nat
  | .slice _ n _ => n
  | _ => 0
end Go.Proofs.YtfihfjbakfadkaaDoor
namespace Go.Proofs.YtfihfjbakfadkaaDoor
open Go.RowKit
set_option linter.unusedVariables false

def errOf (k : Int) : Value := if k = 0 then .nilIface else errV k
theorem errOf_pos {k : Int} (h : k ≠ 0) : errOf k = errV k := if_neg h
end Go.Proofs.YtfihfjbakfadkaaDoor
namespace Go.Proofs.YtfihfjbakfadkaaDoor
open Go.RowKit
set_option maxRecDepth 100000
set_option linter.unusedVariables false

theorem fat_nil (p : ByteArray) (s : Int) (w : World) : Calls Tryd.prog 36 #[.string p, .int .i64 s, .nilIface] w fun e w' => e = .returned .nilIface ∧ w = w' := by
  go_enter Tryd.func36, Tryd.ntmps36
  go_wp2
  go_ret
  exact ⟨rfl, rfl⟩
abbrev sArena9 : ByteArray := ⟨#[97, 114, 101, 110, 97]⟩
theorem fat_err (p : ByteArray) (s k : Int) (w : World) : Calls Tryd.prog 36 #[.string p, .int .i64 s, errV k] w fun e w' => e = .returned (.iface 159 (.pointer (some ⟨w.heap.size, 0, none⟩))) ∧ Blk w' w.heap.size 161 #[.string p, .int .i64 s, errV k] ∧ Fr none_ w w' := by
  go_enter Tryd.func36, Tryd.ntmps36
  go_wp2
  go_ret
  exact ⟨rfl, Blk.new w _ _, (Fr.refl none_ w).alloc _⟩
abbrev sTable9 : ByteArray := ⟨#[116, 97, 98, 108, 101]⟩
/-- What the table tells of a page. -/
def pgC (ps : List Pg) (n : Int) : Int := if n < 0 ∨ (ps.length : Int) ≤ n then 1 else if (ps[n.toNat]?.map (·.1)).getD false = true then 0 else 6
theorem head_bad {T H : Nat} {ps : List Pg} (n : Int) (w : World) (h : Tbl w T H ps) (hb : pgC ps n ≠ 0) : Calls Tryd.prog 44 #[.pointer (some ⟨T, 0, none⟩), .int .i64 n] w fun e w' => e = .returned (.tuple #[.agg #[.int .i64 0, .int .i64 0], errV (pgC ps n)]) ∧ Fr none_ w w' := by
  by_cases h1 : n < 0 ∨ (ps.length : Int) ≤ n
  · have e : pgC ps n = 1 := if_pos h1
    rw [e]
    exact head_err (some ⟨T, 0, none⟩) n 1 w (fun w' hf => mapAt_arg T H ps n w' (h.keep hf) h1)
  · obtain ⟨i, rfl⟩ : ∃ i : Nat, n = (i : Int) := ⟨n.toNat, by omega⟩
    obtain ⟨⟨u, s, g⟩, hp⟩ : ∃ p, ps[i]? = some p := ⟨_, List.getElem?_eq_getElem (by omega)⟩
    cases u with
    | true =>
      have e : pgC ps (i : Int) = 0 := by unfold pgC; rw [if_neg h1]; simp [hp]
      exact absurd e hb
    | false =>
      have e : pgC ps (i : Int) = 6 := by unfold pgC; rw [if_neg h1]; simp [hp]
      rw [e]
      exact head_err (some ⟨T, 0, none⟩) i 6 w (fun w' hf => mapAt_none T H ps i s g w' (h.keep hf) hp)
/-- What an access may turn: the memory's own blocks. -/
def mall (m : Nat) (x : St) : Nat → Prop := fun i => i = m ∨ i = x.G ∨ i = x.H ∨ i = x.C ∨ i = x.M
theorem mall_m {m : Nat} {x : St} {w w' : World} (h : Fr (only m) w w') : Fr (mall m x) w w' := h.mono (fun _ _ e => .inl e)
theorem mall_G {m : Nat} {x : St} {w w' : World} (h : Fr (only x.G) w w') : Fr (mall m x) w w' := h.mono (fun _ _ e => .inr (.inl e))
theorem mall_H {m : Nat} {x : St} {w w' : World} (h : Fr (only x.H) w w') : Fr (mall m x) w w' := h.mono (fun _ _ e => .inr (.inr (.inl e)))
theorem mall_tr {m : Nat} {x : St} {a b c : World} (h : Fr (mall m x) a b) (k : Fr (mall m x) b c) : Fr (mall m x) a c := h.trans k (fun _ _ => id) (fun _ _ => id)
theorem tick_mm (m : Nat) (k : Int) (l : Lm) (x : St) (w : World) (h : Mm w m k l x) (h0 : 0 ≤ k) (h1 : k ≤ 100000) : Calls Tryd.prog 35 #[.pointer (some ⟨m, 0, none⟩)] w fun e w' => e = .returned (.tuple #[]) ∧ Mm w' m (k + 1) l x ∧ Fr (mall m x) w w' := by
  have c0 : w.cell? ⟨m, 0, none⟩ = some (.int .i64 k) := h.b.cell' rfl
  have y0 := h.b.frozen 0
  have H := hid_ h
  clear h
  go_enter Tryd.func35, Tryd.ntmps35
  go_wp2
  exact bodyPost_end (v := .tuple #[]) (by simp [results, Tryd.results35, go_sem]) rfl ⟨rfl, H.out.count _, mall_m (Fr.only1 w ⟨m, 0, none⟩ _)⟩
theorem tick_mo (m : Nat) (k : Int) (l : Lm) (x : St) (w : World) (h : Mm w m k l x) (h0 : 0 ≤ k) (h1 : k ≤ 100000) : Calls Tryd.prog 35 #[.pointer (some ⟨m, 0, none⟩)] w fun e w' => e = .returned (.tuple #[]) ∧ Mm w' m (k + 1) l x ∧ Fr (only m) w w' := by
  have c0 : w.cell? ⟨m, 0, none⟩ = some (.int .i64 k) := h.b.cell' rfl
  have y0 := h.b.frozen 0
  have H := hid_ h
  clear h
  go_enter Tryd.func35, Tryd.ntmps35
  go_wp2
  exact bodyPost_end (v := .tuple #[]) (by simp [results, Tryd.results35, go_sem]) rfl ⟨rfl, H.out.count _, Fr.only1 w ⟨m, 0, none⟩ _⟩
/-- A box of the call's own was turned. -/
theorem Mm.ref {w w' : World} {m : Nat} {k : Int} {l : Lm} {x : St} {b : Nat} {cs : Array Value} (h : Mm w m k l x) (hb : Blk w b 25 cs) (hf : Fr (only b) w w') : Mm w' m k l x := by
  obtain ⟨cs', hG, _⟩ := h.ar.hG
  obtain ⟨cap, cur, hT0, hH, _⟩ := id h.tb
  exact ⟨h.b.fr hf (only_ne (Blk.ne_ h.b hb (by decide))), h.ar.beside hf hb (by decide) (by decide) (Blk.ne_ h.ar.hA hb (by decide)) (Blk.ne_ hG hb (by decide)), h.tb.fr hf (only_ne (Blk.ne_ hT0 hb (by decide))) (only_ne (Blk.ne_ hH hb (by decide))), h.ck.fr hf (only_ne (Blk.ne_ h.ck.hC hb (by decide))) (only_ne (h.ck.mne hb))⟩
def swapPs (ps : List Pg) (i : Nat) (s g a b c d : Int) : List Pg := if s = a ∧ g = b then ps.set i (true, c, d) else ps
theorem Mm.nref {w : World} {m : Nat} {k : Int} {l : Lm} {x : St} {b : Nat} {cs : Array Value} (h : Mm w m k l x) (hb : Blk w b 25 cs) : ¬ mall m x b := by
  obtain ⟨cs, hG, _⟩ := h.ar.hG
  obtain ⟨cap, cur, hT0, hH, _⟩ := id h.tb
  rintro (e | e | e | e | e)
  · exact Blk.ne_ hb h.b (by decide) e
  · exact Blk.ne_ hb hG (by decide) e
  · exact Blk.ne_ hb hH (by decide) e
  · exact Blk.ne_ hb h.ck.hC (by decide) e
  · exact h.ck.mne hb e.symm
theorem Mm.rec9 {w w' : World} {m : Nat} {k : Int} {l : Lm} {x : St} {b : Nat} {cs : Array Value} (h : Mm w m k l x) (hb : Blk w b 41 cs) (hf : Fr (only b) w w') : Mm w' m k l x := by
  obtain ⟨cs', hG, _⟩ := h.ar.hG
  obtain ⟨cap, cur, hT0, hH, _⟩ := id h.tb
  exact ⟨h.b.fr hf (only_ne (Blk.ne_ h.b hb (by decide))), h.ar.beside hf hb (by decide) (by decide) (Blk.ne_ h.ar.hA hb (by decide)) (Blk.ne_ hG hb (by decide)), h.tb.fr hf (only_ne (Blk.ne_ hT0 hb (by decide))) (only_ne (Blk.ne_ hH hb (by decide))), h.ck.fr hf (only_ne (Blk.ne_ h.ck.hC hb (by decide))) (only_ne (h.ck.mne hb))⟩
theorem at_live {ss : List Sl} {s g : Int} (h : atC ss s g = 0) : ∃ (j : Nat) (y : Sl), s = (j : Int) + 1 ∧ ss[j]? = some y ∧ y.used = true ∧ y.gen = g := by
  rcases atC_cases ss s g with ⟨h1, _⟩ | ⟨i, y, h1, h2, h3⟩
  · rw [h1] at h; cases h
  · rcases h3 with ⟨h3, _⟩ | ⟨_, h4, h5⟩
    · rw [h3] at h; cases h
    · exact ⟨i, y, h1, h2, h4, h5⟩
/-- An error as a memory tells it: none, or a fault round a code. -/
def Ev (w : World) (v : Value) (p : ByteArray) (s c : Int) : Prop :=
  (c = 0 ∧ v = .nilIface) ∨ (c ≠ 0 ∧ ∃ b, v = .iface 159 (.pointer (some ⟨b, 0, none⟩)) ∧ Blk w b 161 #[.string p, .int .i64 s, errV c])
theorem Ev.fr {w w' : World} {v : Value} {p : ByteArray} {s c : Int} {S : Nat → Prop} (h : Ev w v p s c) (hf : Fr S w w') (hS : ∀ b cs, Blk w b 161 cs → ¬ S b) : Ev w' v p s c := by
  rcases h with h | ⟨h, b, hv, hb⟩
  · exact .inl h
  · exact .inr ⟨h, b, hv, hb.fr hf (hS b _ hb)⟩
theorem Ev.keep {w w' : World} {v : Value} {p : ByteArray} {s c : Int} (h : Ev w v p s c) (hf : Fr none_ w w') : Ev w' v p s c := h.fr hf (fun _ _ _ => id)
theorem Ev.only {w w' : World} {v : Value} {p : ByteArray} {s c : Int} {g : Nat} {t : TypeId} {cs : Array Value} (h : Ev w v p s c) (hf : Fr (only g) w w') (hg : Blk w g t cs) (hne : 161 ≠ t) : Ev w' v p s c :=
  h.fr hf (fun b _ hb => only_ne (Blk.ne_ hb hg hne))
theorem fat_ev (p : ByteArray) (s k : Int) (w : World) : Calls Tryd.prog 36 #[.string p, .int .i64 s, errOf k] w fun e w' => ∃ v, e = .returned v ∧ Ev w' v p s k ∧ Fr none_ w w' := by
  by_cases h : k = 0
  · subst h
    exact (fat_nil p s w).mono fun e w' h => ⟨_, h.1, .inl ⟨rfl, rfl⟩, by rw [← h.2]; exact Fr.refl _ _⟩
  · rw [errOf_pos h]
    exact (fat_err p s k w).mono fun e w' hh => ⟨_, hh.1, .inr ⟨h, _, rfl, hh.2.1⟩, hh.2.2⟩
end Go.Proofs.YtfihfjbakfadkaaDoor
namespace Go.Proofs.YtfihfjbakfadkaaDoor
open Go.RowKit
set_option maxRecDepth 100000
set_option linter.unusedVariables false

theorem mapAt_bad {T H : Nat} {ps : List Pg} (n : Int) (w : World) (h : Tbl w T H ps) (hb : pgC ps n ≠ 0) : Calls Tryd.prog 62 #[.pointer (some ⟨T, 0, none⟩), .int .i64 n] w fun e w' => e = .returned (.tuple #[.pointer none, errV (pgC ps n)]) ∧ w = w' := by
  by_cases h1 : n < 0 ∨ (ps.length : Int) ≤ n
  · have e : pgC ps n = 1 := if_pos h1
    rw [e]
    exact mapAt_arg T H ps n w h h1
  · obtain ⟨i, rfl⟩ : ∃ i : Nat, n = (i : Int) := ⟨n.toNat, by omega⟩
    obtain ⟨⟨u, s, g⟩, hp⟩ : ∃ p, ps[i]? = some p := ⟨_, List.getElem?_eq_getElem (by omega)⟩
    cases u with
    | true =>
      have e : pgC ps (i : Int) = 0 := by unfold pgC; rw [if_neg h1]; simp [hp]
      exact absurd e hb
    | false =>
      have e : pgC ps (i : Int) = 6 := by unfold pgC; rw [if_neg h1]; simp [hp]
      rw [e]
      exact mapAt_none T H ps i s g w h hp
theorem pgC_zero {ps : List Pg} {n : Int} (h : pgC ps n = 0) : ∃ (i : Nat) (s g : Int), n = (i : Int) ∧ ps[i]? = some (true, s, g) := by
  unfold pgC at h
  split at h
  · cases h
  · rename_i h1
    split at h
    · rename_i h2
      obtain ⟨⟨u, s, g⟩, hp⟩ : ∃ p, ps[n.toNat]? = some p := ⟨_, List.getElem?_eq_getElem (by omega)⟩
      rw [hp] at h2
      obtain rfl : u = true := by simpa using h2
      exact ⟨n.toNat, s, g, by omega, hp⟩
    · cases h
theorem pgC_used {ps : List Pg} {i : Nat} {s g : Int} (h : ps[i]? = some (true, s, g)) : pgC ps (i : Int) = 0 := by
  have hlt := (List.getElem?_eq_some_iff.1 h).1
  unfold pgC
  rw [if_neg (by omega)]
  simp [h]
def HeadR (ps : List Pg) (n s g c : Int) : Prop := (∃ i : Nat, n = (i : Int) ∧ ps[i]? = some (true, s, g) ∧ c = 0) ∨ (pgC ps n ≠ 0 ∧ s = 0 ∧ g = 0 ∧ c = pgC ps n)
theorem head_any {T H : Nat} {ps : List Pg} (n : Int) (w : World) (h : Tbl w T H ps) : Calls Tryd.prog 44 #[.pointer (some ⟨T, 0, none⟩), .int .i64 n] w fun e w' => ∃ s g c, e = .returned (.tuple #[.agg #[.int .i64 s, .int .i64 g], errOf c]) ∧ HeadR ps n s g c ∧ Fr none_ w w' := by
  by_cases hb : pgC ps n = 0
  · obtain ⟨i, s, g, rfl, hp⟩ := pgC_zero hb
    exact (head_ok T H ps i s g w h hp).mono fun e w' hh => ⟨s, g, 0, hh.1, .inl ⟨i, rfl, hp, rfl⟩, hh.2⟩
  · exact (head_bad n w h hb).mono fun e w' hh => ⟨0, 0, pgC ps n, by rw [errOf_pos hb]; exact hh.1, .inr ⟨hb, rfl, rfl, rfl⟩, hh.2⟩
def SwapR (ps : List Pg) (n a b c d : Int) (ok : Bool) (k : Int) (ps' : List Pg) : Prop :=
  (∃ (i : Nat) (s g : Int), n = (i : Int) ∧ ps[i]? = some (true, s, g) ∧ ok = (s == a && g == b) ∧ k = 0 ∧ ps' = swapPs ps i s g a b c d) ∨ (pgC ps n ≠ 0 ∧ ok = false ∧ k = pgC ps n ∧ ps' = ps)
theorem swap_any {T H : Nat} {ps : List Pg} (n a b c d : Int) (w : World) (h : Tbl w T H ps) : Calls Tryd.prog 34 #[.pointer (some ⟨T, 0, none⟩), .int .i64 n, .agg #[.int .i64 a, .int .i64 b], .agg #[.int .i64 c, .int .i64 d]] w fun e w' => ∃ ok k ps', e = .returned (.tuple #[.bool ok, errOf k]) ∧ SwapR ps n a b c d ok k ps' ∧ Tbl w' T H ps' ∧ Fr (only H) w w' := by
  by_cases hb : pgC ps n = 0
  · obtain ⟨i, s, g, rfl, hp⟩ := pgC_zero hb
    exact (swap_ok T H ps i s g a b c d w h hp).mono fun e w' hh => ⟨_, 0, _, hh.1, .inl ⟨i, s, g, rfl, hp, rfl, rfl, rfl⟩, hh.2.1, hh.2.2⟩
  · exact (swap_err (some ⟨T, 0, none⟩) n (pgC ps n) a b c d w (fun w1 hf => mapAt_bad n w1 (h.keep hf) hb)).mono fun e w' hh => ⟨false, pgC ps n, ps, by rw [errOf_pos hb]; exact hh.1, .inr ⟨hb, rfl, rfl, rfl⟩, h.keep hh.2, hh.2.mono (fun _ _ e => e.elim)⟩
/-- What Alloc tells, and leaves. -/
def AllocR (last : Int) (ss : List Sl) (R : Rc) (sl gn c : Int) (ss' : List Sl) : Prop :=
  (∃ (i : Nat) (s : Sl) (vr ve : Value), ss[i]? = some s ∧ (s.used = false ∧ s.gen ≠ last) ∧ (∀ (j : Nat) (t : Sl), j < i → ss[j]? = some t → t.used = true ∨ t.gen = last) ∧ sl = (i : Int) + 1 ∧ gn = s.gen + 1 ∧ c = 0 ∧ ss' = ss.set i ⟨s.gen + 1, true, R, vr, ve⟩) ∨
  ((∀ (j : Nat) (t : Sl), ss[j]? = some t → t.used = true ∨ t.gen = last) ∧ sl = 0 ∧ gn = 0 ∧ c = allocErr ss ∧ ss' = ss)
theorem allocErr_pos (ss : List Sl) : allocErr ss ≠ 0 := by unfold allocErr; split <;> decide
theorem alloc_any (R : Rc) (A : Option Addr) (c : Nat) (B : Option Addr) (d : Nat) {w : World} {a G : Nat} {last : Int} {ss : List Sl} (h : Ar w a G last ss) (hr : RecReads w R A B) (hz : R.rows.length ≤ 1000 ∧ R.ents.length ≤ 1000) :
    Calls Tryd.prog 32 #[.pointer (some ⟨a, 0, none⟩), recV R (.slice A R.rows.length c) (.slice B R.ents.length d)] w fun e w' => ∃ sl gn k ss', e = .returned (.tuple #[.agg #[.int .i64 sl, .int .i64 gn], errOf k]) ∧ AllocR last ss R sl gn k ss' ∧ Ar w' a G last ss' ∧ Fr (only G) w w' := by
  refine (alloc_ok R A c B d w a G last ss h hr hz).mono ?_
  rintro e w' (⟨i, s, vr, ve, h1, h2, h3, rfl, hA, -, hf⟩ | ⟨h1, rfl, hf⟩)
  · exact ⟨_, _, 0, _, rfl, .inl ⟨i, s, vr, ve, h1, h2, h3, rfl, rfl, rfl, rfl⟩, hA, hf⟩
  · exact ⟨0, 0, allocErr ss, ss, by rw [errOf_pos (allocErr_pos ss)], .inr ⟨h1, rfl, rfl, rfl, rfl⟩, h.keep hf, hf.mono (fun _ _ e => e.elim)⟩
def LoadR (ss : List Sl) (sl gn : Int) (R : Rc) (c : Int) : Prop :=
  (∃ (i : Nat) (s : Sl), sl = (i : Int) + 1 ∧ ss[i]? = some s ∧ s.used = true ∧ s.gen = gn ∧ c = 0 ∧ R = s.R) ∨ (atC ss sl gn ≠ 0 ∧ c = atC ss sl gn ∧ R = Rc.zero)
theorem load_any (sl gn : Int) {w : World} {a G : Nat} {last : Int} {ss : List Sl} (h : Ar w a G last ss) : Calls Tryd.prog 45 #[.pointer (some ⟨a, 0, none⟩), .agg #[.int .i64 sl, .int .i64 gn]] w fun e w' => ∃ R A c B d k, e = .returned (.tuple #[recV R (.slice A R.rows.length c) (.slice B R.ents.length d), errOf k]) ∧ LoadR ss sl gn R k ∧ RecOwn w' w.heap.size R (.slice A R.rows.length c) (.slice B R.ents.length d) ∧ Fr none_ w w' := by
  by_cases hb : atC ss sl gn = 0
  · obtain ⟨i, s, h1, h2, h3, h4⟩ := at_live hb
    refine (load_ok sl gn h h2 h1 h3 h4).mono ?_
    rintro e w' ⟨A, c, B, d, rfl, hO, hf⟩
    exact ⟨s.R, A, c, B, d, 0, rfl, .inl ⟨i, s, h1, h2, h3, h4, rfl, rfl⟩, hO, hf⟩
  · refine (load_bad sl gn h hb).mono ?_
    rintro e w' ⟨rfl, hf⟩
    exact ⟨Rc.zero, none, 0, none, 0, atC ss sl gn, by rw [errOf_pos hb]; rfl, .inr ⟨hb, rfl, rfl⟩, RecOwn.zero _ _, hf⟩
section
variable (m : Nat) (k : Int) (l : Lm) (x : St) (w : World)
theorem memHead_any (h : Mm w m k l x) (h0 : 0 ≤ k) (h1 : k ≤ 100000) (n : Int) : Calls Tryd.prog 52 #[.pointer (some ⟨m, 0, none⟩), .int .i64 n] w fun e w' => ∃ s g c v, e = .returned (.tuple #[.agg #[.int .i64 s, .int .i64 g], v]) ∧ HeadR x.ps n s g c ∧ Ev w' v sTable9 n c ∧ Mm w' m (k + 1) l x ∧ Fr (mall m x) w w' := by
  have H := hid_ (h.keep ((Fr.refl none_ w).alloc (.cells #[.int .i64 0, .int .i64 0] 25)))
  have hltm := h.b.lt
  have B0 := hid_ (Blk.new w 25 #[.int .i64 0, .int .i64 0])
  have F0 := hid_ ((Fr.refl none_ w).alloc (.cells #[.int .i64 0, .int .i64 0] 25))
  clear h
  go_enter Tryd.func52, Tryd.ntmps52
  go_wp2_with fail
  refine (tick_mm m k l x _ H.out h0 h1).mono ?_
  rintro e w1 ⟨rfl, hM1, hf1⟩
  have M1 := hid_ hM1
  have nB : ¬ mall m x w.heap.size := H.out.nref B0.out
  have B4 := hid_ (B0.out.fr hf1 nB)
  have F1 := hid_ ((F0.out.mono (fun _ _ e => e.elim)).trans (S' := mall m x) (S'' := mall m x) hf1 (fun _ _ => id) (fun _ _ => id) : Fr (mall m x) w w1)
  clear hM1 hf1 nB
  have c8 : w1.cell? ⟨m, 8, none⟩ = some (.pointer (some ⟨x.T, 0, none⟩)) := M1.out.b.cell' rfl
  go_wp2_with fail
  refine (head_any n _ M1.out.tb).mono ?_
  rintro e w2 ⟨s, g, c, rfl, hR, hf2⟩
  have R2 := hid_ hR
  clear hR
  replace M1 := hid_ (M1.out.keep hf2)
  replace F1 := hid_ (F1.out.then_none hf2)
  replace B4 := hid_ (B4.out.fr hf2 id)
  clear hf2 c8
  go_upto_region 5 with fail
  obtain ⟨w3, hw3⟩ : ∃ z, z = w2.alloc (.cells #[.int .i64 s, .int .i64 g] 25) := ⟨_, rfl⟩
  have fw3 : Fr none_ w2 w3 := by rw [hw3]; exact (Fr.refl none_ w2).alloc _
  have B6 : Hid (Blk w3 w2.heap.size 25 (#[.int .i64 s, .int .i64 g])) := hid_ (by rw [hw3]; exact Blk.new w2 _ _)
  replace M1 := hid_ (M1.out.keep fw3)
  replace F1 := hid_ (F1.out.then_none fw3)
  replace B4 := hid_ (B4.out.fr fw3 id)
  change Code.wp _ _ _ _ (w2.alloc (.cells #[.int .i64 s, .int .i64 g] 25))
  rw [← hw3]
  clear hw3 fw3
  have x0 : w3.cell? ⟨w2.heap.size, 0, none⟩ = some (.int .i64 s) := B6.out.cell' rfl
  have x1 : w3.cell? ⟨w2.heap.size, 1, none⟩ = some (.int .i64 g) := B6.out.cell' rfl
  have hS1 : (fun w' : World => Fr none_ w3 w') w3.drew := (Fr.refl none_ w3).drew
  refine wp_region_U (m := 4) (S := fun w' : World => Fr none_ w3 w') (by kernel_rfl) ?_
  refine wpAnyU_take2 (i := 0) (v := _) rfl (by kernel_rfl) (by kernel_rfl) (by kernel_rfl) (by kernel_rfl) (fun _ _ _ h => h) (.inl ⟨by kernel_rfl, fun w' hS => by have s_0 := cellFr x0 hS; have s_1 := cellFr x1 hS; go_simp; rfl⟩) hS1 ?_
  refine wpAnyU_take2 (i := 1) (v := _) rfl (by kernel_rfl) (by kernel_rfl) (by kernel_rfl) (by kernel_rfl) (fun _ _ _ h => h) (.inl ⟨by kernel_rfl, fun w' hS => by go_simp; rfl⟩) hS1 ?_
  refine wpAnyU_take2 (i := 2) (v := _) rfl (by kernel_rfl) (by kernel_rfl) (by kernel_rfl) (by kernel_rfl) (fun _ _ _ h => h) (.inl ⟨by kernel_rfl, fun w' hS => by go_simp; rfl⟩) hS1 ?_
  refine wpAnyU_oneW (i := 3) rfl (by kernel_rfl) (by kernel_rfl) ?_
  go_simp
  refine (fat_ev sTable9 n c _).mono ?_
  rintro e w4 ⟨v, rfl, hev, hf4⟩
  have fS4 := hS1.then_none hf4
  refine ⟨fS4, ?_⟩
  have E4 := hid_ hev
  replace M1 := hid_ (M1.out.keep fS4)
  replace F1 := hid_ (F1.out.then_none fS4)
  replace B4 := hid_ (B4.out.fr fS4 id)
  replace B6 := hid_ (B6.out.fr fS4 id)
  have y0 := B4.out.frozen 0
  have y1 := B4.out.frozen 1
  have z0 : w4.cell? ⟨w.heap.size, 0, none⟩ = some (.int .i64 0) := B4.out.cell' rfl
  have z1 : w4.cell? ⟨w.heap.size, 1, none⟩ = some (.int .i64 0) := B4.out.cell' rfl
  clear hS1 x0 x1 hev hf4 fS4
  refine wpAnyU_oneW (i := 4) rfl (by kernel_rfl) (by kernel_rfl) ?_
  go_simp
  clear y0 y1 z0 z1
  obtain ⟨qb, qf⟩ := box2 B4.out (.int .i64 s) (.int .i64 g)
  obtain ⟨w5, hw5⟩ : ∃ z, z = ((w4.setCell ⟨w.heap.size, 0, none⟩ (.int .i64 s)).setCell ⟨w.heap.size, 1, none⟩ (.int .i64 g)) := ⟨_, rfl⟩
  have qb2 : Blk w5 w.heap.size 25 #[.int .i64 s, .int .i64 g] := by rw [hw5]; exact qb
  have qf2 : Fr (only w.heap.size) w4 w5 := by rw [hw5]; exact qf
  rw [← hw5]
  clear hw5 qb qf
  have q0 := qb2.cell' (i := 0) rfl
  have q1 := qb2.cell' (i := 1) rfl
  refine wpAnyU_oneW (i := 5) rfl (by kernel_rfl) (by kernel_rfl) ?_
  go_simp
  refine wpAnyU_done (by kernel_rfl) ?_ _
  go_wp2_with fail
  refine bodyPost_ret (v := .tuple #[.agg #[.int .i64 s, .int .i64 g], v]) ?_ rfl ⟨s, g, c, v, rfl, R2.out, E4.out.only qf2 B4.out (by decide), M1.out.ref B4.out qf2, F1.out.then_only qf2 (.inr (Nat.le_refl _))⟩
  simp [results, Tryd.results52, go_sem, q0, q1]
set_option maxHeartbeats 2000000 in
theorem memSwap_any (h : Mm w m k l x) (h0 : 0 ≤ k) (h1 : k ≤ 100000) (n a b c d : Int) : Calls Tryd.prog 10 #[.pointer (some ⟨m, 0, none⟩), .int .i64 n, .agg #[.int .i64 a, .int .i64 b], .agg #[.int .i64 c, .int .i64 d]] w fun e w' => ∃ ok kk ps' v, e = .returned (.tuple #[.bool ok, v]) ∧ SwapR x.ps n a b c d ok kk ps' ∧ Ev w' v sTable9 n kk ∧ Mm w' m (k + 1) l { x with ps := ps' } ∧ Fr (mall m x) w w' := by
  obtain ⟨w0, hw0⟩ : ∃ z, z = (w.alloc (.cells #[.int .i64 a, .int .i64 b] 25)).alloc (.cells #[.int .i64 c, .int .i64 d] 25) := ⟨_, rfl⟩
  have f0 : Fr none_ w w0 := by rw [hw0]; exact ((Fr.refl none_ w).alloc _).alloc _
  have B0 := hid_ (show Blk w0 w.heap.size 25 #[.int .i64 a, .int .i64 b] by rw [hw0]; exact (Blk.new w _ _).alloc _)
  have B1 := hid_ (show Blk w0 (w.heap.size + 1) 25 #[.int .i64 c, .int .i64 d] by rw [hw0]; have := Blk.new (w.alloc (.cells #[.int .i64 a, .int .i64 b] 25)) 25 #[.int .i64 c, .int .i64 d]; rwa [World.size_alloc] at this)
  have H := hid_ (h.keep f0)
  have F0 := hid_ f0
  clear h f0
  go_enter Tryd.func10, Tryd.ntmps10
  go_upto_region 1 with fail
  change Code.wp _ _ _ _ ((w.alloc (.cells #[.int .i64 a, .int .i64 b] 25)).alloc (.cells #[.int .i64 c, .int .i64 d] 25))
  rw [← hw0]
  clear hw0
  go_wp2_with fail
  refine (tick_mm m k l x _ H.out h0 h1).mono ?_
  rintro e w1 ⟨rfl, hM1, hf1⟩
  have M1 := hid_ hM1
  have B4 := hid_ (B0.out.fr hf1 (H.out.nref B0.out))
  have B5 := hid_ (B1.out.fr hf1 (H.out.nref B1.out))
  have F1 := hid_ ((F0.out.mono (fun _ _ e => e.elim)).trans (S' := mall m x) (S'' := mall m x) hf1 (fun _ _ => id) (fun _ _ => id) : Fr (mall m x) w w1)
  clear hM1 hf1
  have c8 : w1.cell? ⟨m, 8, none⟩ = some (.pointer (some ⟨x.T, 0, none⟩)) := M1.out.b.cell' rfl
  have x0 : w1.cell? ⟨w.heap.size, 0, none⟩ = some (.int .i64 a) := B4.out.cell' rfl
  have x1 : w1.cell? ⟨w.heap.size, 1, none⟩ = some (.int .i64 b) := B4.out.cell' rfl
  have y0 : w1.cell? ⟨w.heap.size + 1, 0, none⟩ = some (.int .i64 c) := B5.out.cell' rfl
  have y1 : w1.cell? ⟨w.heap.size + 1, 1, none⟩ = some (.int .i64 d) := B5.out.cell' rfl
  have nH : ¬ only x.H m ∧ ¬ only x.H w.heap.size ∧ ¬ only x.H (w.heap.size + 1) := by
    obtain ⟨cap, cur, hT0, hH, _⟩ := id M1.out.tb
    exact ⟨only_ne (Blk.ne_ M1.out.b hH (by decide)), only_ne (Blk.ne_ B4.out hH (by decide)), only_ne (Blk.ne_ B5.out hH (by decide))⟩
  go_upto_region 4 with fail
  have hS1 : (fun w' : World => Fr (only x.H) w1 w') w1.drew := (Fr.refl _ w1).drew
  refine wp_region_U (m := 13) (S := fun w' : World => Fr (only x.H) w1 w') (by kernel_rfl) ?_
  refine wpAnyU_take2 (i := 0) (v := _) rfl (by kernel_rfl) (by kernel_rfl) (by kernel_rfl) (by kernel_rfl) (fun _ _ _ h => h) (.inl ⟨by kernel_rfl, fun w' hS => by go_simp; rfl⟩) hS1 ?_
  refine wpAnyU_take2 (i := 1) (v := _) rfl (by kernel_rfl) (by kernel_rfl) (by kernel_rfl) (by kernel_rfl) (fun _ _ _ h => h) (.inl ⟨by kernel_rfl, fun w' hS => by go_simp; rfl⟩) hS1 ?_
  refine wpAnyU_take2 (i := 2) (v := _) rfl (by kernel_rfl) (by kernel_rfl) (by kernel_rfl) (by kernel_rfl) (fun _ _ _ h => h) (.inl ⟨by kernel_rfl, fun w' hS => by go_simp; rfl⟩) hS1 ?_
  refine wpAnyU_take2 (i := 3) (v := _) rfl (by kernel_rfl) (by kernel_rfl) (by kernel_rfl) (by kernel_rfl) (fun _ _ _ h => h) (.inl ⟨by kernel_rfl, fun w' hS => by have s_ := cellFrS c8 hS nH.1; go_simp; rfl⟩) hS1 ?_
  refine wpAnyU_take2 (i := 4) (v := _) rfl (by kernel_rfl) (by kernel_rfl) (by kernel_rfl) (by kernel_rfl) (fun _ _ _ h => h) (.inl ⟨by kernel_rfl, fun w' hS => by go_simp; rfl⟩) hS1 ?_
  refine wpAnyU_take2 (i := 5) (v := _) rfl (by kernel_rfl) (by kernel_rfl) (by kernel_rfl) (by kernel_rfl) (fun _ _ _ h => h) (.inl ⟨by kernel_rfl, fun w' hS => by have s_0 := cellFrS x0 hS nH.2.1; have s_1 := cellFrS x1 hS nH.2.1; go_simp; rfl⟩) hS1 ?_
  refine wpAnyU_take2 (i := 6) (v := _) rfl (by kernel_rfl) (by kernel_rfl) (by kernel_rfl) (by kernel_rfl) (fun _ _ _ h => h) (.inl ⟨by kernel_rfl, fun w' hS => by have s_0 := cellFrS y0 hS nH.2.2; have s_1 := cellFrS y1 hS nH.2.2; go_simp; rfl⟩) hS1 ?_
  clear c8 x0 x1 y0 y1
  refine wpAnyU_oneW (i := 7) rfl (by kernel_rfl) (by kernel_rfl) ?_
  go_simp
  refine (swap_any n a b c d _ (M1.out.tb.keep (Fr.refl none_ w1).drew)).mono ?_
  rintro e w2 ⟨ok, kk, ps', rfl, hR, hT2, hf2⟩
  have R2 := hid_ hR
  have M2 := hid_ ((M1.out.keep (Fr.refl none_ w1).drew).tbPut hT2 hf2)
  have fS : Fr (only x.H) w1 w2 := (Fr.refl (only x.H) w1).drew.then_only hf2 (.inl (Eq.refl _))
  have F2 := hid_ (mall_tr F1.out (mall_H fS))
  refine ⟨fS, ?_⟩
  clear hT2 hf2 hS1 hR
  refine wpAnyU_take2 (i := 8) (v := _) rfl (by kernel_rfl) (by kernel_rfl) (by kernel_rfl) (by kernel_rfl) (fun _ _ _ h => h) (.inl ⟨by kernel_rfl, fun w' hS => by go_simp; rfl⟩) fS ?_
  refine wpAnyU_take2 (i := 9) (v := _) rfl (by kernel_rfl) (by kernel_rfl) (by kernel_rfl) (by kernel_rfl) (fun _ _ _ h => h) (.inl ⟨by kernel_rfl, fun w' hS => by go_simp; rfl⟩) fS ?_
  refine wpAnyU_take2 (i := 10) (v := _) rfl (by kernel_rfl) (by kernel_rfl) (by kernel_rfl) (by kernel_rfl) (fun _ _ _ h => h) (.inl ⟨by kernel_rfl, fun w' hS => by go_simp; rfl⟩) fS ?_
  refine wpAnyU_take2 (i := 11) (v := _) rfl (by kernel_rfl) (by kernel_rfl) (by kernel_rfl) (by kernel_rfl) (fun _ _ _ h => h) (.inl ⟨by kernel_rfl, fun w' hS => by go_simp; rfl⟩) fS ?_
  refine wpAnyU_take2 (i := 12) (v := _) rfl (by kernel_rfl) (by kernel_rfl) (by kernel_rfl) (by kernel_rfl) (fun _ _ _ h => h) (.inl ⟨by kernel_rfl, fun w' hS => by go_simp; rfl⟩) fS ?_
  refine wpAnyU_done (by kernel_rfl) ?_ _
  go_wp2_with fail
  refine (fat_ev sTable9 n kk _).mono ?_
  rintro e w3 ⟨v, rfl, hev, hf3⟩
  have E3 := hid_ hev
  have F3 := hid_ hf3
  clear hev hf3
  go_wp2_with fail
  go_ret2
  exact ⟨ok, kk, ps', v, rfl, R2.out, E3.out, M2.out.keep F3.out, F2.out.then_none F3.out⟩
set_option maxHeartbeats 4000000 in
theorem memAlloc_any (h : Mm w m k l x) (h0 : 0 ≤ k) (h1 : k ≤ 100000) (R : Rc) (A : Option Addr) (c : Nat) (B : Option Addr) (d : Nat) (hr : ∀ w', Fr (only m) w w' → RecReads w' R A B) (hz : R.rows.length ≤ 1000 ∧ R.ents.length ≤ 1000) :
    Calls Tryd.prog 9 #[.pointer (some ⟨m, 0, none⟩), recV R (.slice A R.rows.length c) (.slice B R.ents.length d)] w fun e w' => ∃ sl gn kk ss' v, e = .returned (.tuple #[.agg #[.int .i64 sl, .int .i64 gn], v]) ∧ AllocR l.n x.ss R sl gn kk ss' ∧ Ev w' v sArena9 0 kk ∧ Mm w' m (k + 1) l { x with ss := ss' } ∧ Fr (mall m x) w w' := by
  obtain ⟨w0, hw0⟩ : ∃ z, z = (w.alloc (recB R (.slice A R.rows.length c) (.slice B R.ents.length d))).alloc (.cells #[.int .i64 0, .int .i64 0] 25) := ⟨_, rfl⟩
  have f0 : Fr none_ w w0 := by rw [hw0]; exact ((Fr.refl none_ w).alloc _).alloc _
  have B0 := hid_ (show Blk w0 w.heap.size 41 (recA R (.slice A R.rows.length c) (.slice B R.ents.length d)) by rw [hw0]; exact (Blk.new w _ _).alloc _)
  have B1 := hid_ (show Blk w0 (w.heap.size + 1) 25 #[.int .i64 0, .int .i64 0] by rw [hw0]; have := Blk.new (w.alloc (recB R (.slice A R.rows.length c) (.slice B R.ents.length d))) 25 #[.int .i64 0, .int .i64 0]; rwa [World.size_alloc] at this)
  have H := hid_ (h.keep f0)
  have F0 := hid_ f0
  have HR := hid_ hr
  clear h f0 hr
  go_enter Tryd.func9, Tryd.ntmps9
  go_upto_region 1 with fail
  change Code.wp _ _ _ _ ((w.alloc (recB R (.slice A R.rows.length c) (.slice B R.ents.length d))).alloc (.cells #[.int .i64 0, .int .i64 0] 25))
  rw [← hw0]
  clear hw0
  go_wp2_with fail
  refine (tick_mo m k l x _ H.out h0 h1).mono ?_
  rintro e w1 ⟨rfl, hM1, hf1⟩
  have M1 := hid_ hM1
  have B4 := hid_ (B0.out.fr hf1 (only_ne (Blk.ne_ B0.out H.out.b (by decide))))
  have B5 := hid_ (B1.out.fr hf1 (only_ne (Blk.ne_ B1.out H.out.b (by decide))))
  have FO : Hid (Fr (only m) w w1) := hid_ ((F0.out.mono (fun _ _ e => e.elim)).trans (S' := only m) (S'' := only m) hf1 (fun _ _ => id) (fun _ _ => id))
  have F1 : Hid (Fr (mall m x) w w1) := hid_ (mall_m FO.out)
  have RD := hid_ (HR.out w1 FO.out)
  have hszw := FO.out.size
  clear hM1 hf1
  have c7 : w1.cell? ⟨m, 7, none⟩ = some (.pointer (some ⟨x.a, 0, none⟩)) := M1.out.b.cell' rfl
  have nG : ¬ only x.G m ∧ ¬ only x.G w.heap.size ∧ ¬ only x.G (w.heap.size + 1) := ⟨only_ne (M1.out.ar.gne M1.out.b (by decide)), only_ne (M1.out.ar.gne B4.out (by decide)), only_ne (M1.out.ar.gne B5.out (by decide))⟩
  go_upto_region 4 with fail
  go_cut [6, 7] (fun u v wq => ∃ (b : Nat) (sl gn kk : Int) (ss' : List Sl), u = .pointer (some ⟨b, 0, none⟩) ∧ v = errOf kk ∧ w1.heap.size ≤ b ∧ Blk wq b 25 #[.int .i64 sl, .int .i64 gn] ∧ AllocR l.n x.ss R sl gn kk ss' ∧ Mm wq m (k + 1) l { x with ss := ss' } ∧ Fr (only x.G) w1 wq)
  case first =>
    have hS1 : (fun w' : World => Fr (only x.G) w1 w') w1.drew := (Fr.refl _ w1).drew
    refine wp_region_U (m := 12) (S := fun w' : World => Fr (only x.G) w1 w') (by kernel_rfl) ?_
    refine wpAnyU_take2 (i := 0) (v := _) rfl (by kernel_rfl) (by kernel_rfl) (by kernel_rfl) (by kernel_rfl) (fun _ _ _ h => h) (.inl ⟨by kernel_rfl, fun w' hS => by go_simp; rfl⟩) hS1 ?_
    refine wpAnyU_take2 (i := 1) (v := _) rfl (by kernel_rfl) (by kernel_rfl) (by kernel_rfl) (by kernel_rfl) (fun _ _ _ h => h) (.inl ⟨by kernel_rfl, fun w' hS => by go_simp; rfl⟩) hS1 ?_
    refine wpAnyU_take2 (i := 2) (v := _) rfl (by kernel_rfl) (by kernel_rfl) (by kernel_rfl) (by kernel_rfl) (fun _ _ _ h => h) (.inl ⟨by kernel_rfl, fun w' hS => by go_simp; rfl⟩) hS1 ?_
    refine wpAnyU_take2 (i := 3) (v := _) rfl (by kernel_rfl) (by kernel_rfl) (by kernel_rfl) (by kernel_rfl) (fun _ _ _ h => h) (.inl ⟨by kernel_rfl, fun w' hS => by have s_ := cellFrS c7 hS nG.1; go_simp; rfl⟩) hS1 ?_
    refine wpAnyU_take2 (i := 4) (v := _) rfl (by kernel_rfl) (by kernel_rfl) (by kernel_rfl) (by kernel_rfl) (fun _ _ _ h => h) (.inl ⟨by kernel_rfl, fun w' hS => by have s_0 : w'.cell? ⟨w.heap.size, 0, none⟩ = some (.int .i64 R.kind) := cellFrS (B4.out.cell' rfl) hS nG.2.1; have s_1 : w'.cell? ⟨w.heap.size, 1, none⟩ = some (.string R.low) := cellFrS (B4.out.cell' rfl) hS nG.2.1; have s_2 : w'.cell? ⟨w.heap.size, 2, none⟩ = some (.string R.high) := cellFrS (B4.out.cell' rfl) hS nG.2.1; have s_3 : w'.cell? ⟨w.heap.size, 3, none⟩ = some (.bool R.unb) := cellFrS (B4.out.cell' rfl) hS nG.2.1; have s_4 : w'.cell? ⟨w.heap.size, 4, none⟩ = some (.int .i64 R.right) := cellFrS (B4.out.cell' rfl) hS nG.2.1; have s_5 : w'.cell? ⟨w.heap.size, 5, none⟩ = some (.slice A R.rows.length c) := cellFrS (B4.out.cell' rfl) hS nG.2.1; have s_6 : w'.cell? ⟨w.heap.size, 6, none⟩ = some (.slice B R.ents.length d) := cellFrS (B4.out.cell' rfl) hS nG.2.1; have s_7 : w'.cell? ⟨w.heap.size, 7, none⟩ = some (.string R.key) := cellFrS (B4.out.cell' rfl) hS nG.2.1; have s_8 : w'.cell? ⟨w.heap.size, 8, none⟩ = some (.string R.val) := cellFrS (B4.out.cell' rfl) hS nG.2.1; have s_9 : w'.cell? ⟨w.heap.size, 9, none⟩ = some (.int .i64 R.page) := cellFrS (B4.out.cell' rfl) hS nG.2.1; have s_10 : w'.cell? ⟨w.heap.size, 10, none⟩ = some (.int .i64 R.hpage) := cellFrS (B4.out.cell' rfl) hS nG.2.1; have s_11 : w'.cell? ⟨w.heap.size, 11, none⟩ = some (.int .i64 R.hleft) := cellFrS (B4.out.cell' rfl) hS nG.2.1; have s_12 : w'.cell? ⟨w.heap.size, 12, none⟩ = some (.string R.hkey) := cellFrS (B4.out.cell' rfl) hS nG.2.1; have s_13 : w'.cell? ⟨w.heap.size, 13, none⟩ = some (.int .i64 R.nslot) := cellFrS (B4.out.cell' rfl) hS nG.2.1; have s_14 : w'.cell? ⟨w.heap.size, 14, none⟩ = some (.int .i64 R.ngen) := cellFrS (B4.out.cell' rfl) hS nG.2.1; go_simp; rfl⟩) hS1 ?_
    clear c7
    refine wpAnyU_two (i := 5) (j := 9) rfl rfl rfl rfl (by kernel_rfl) ?_ ?_
    · go_simp
      refine (alloc_any R A c B d (M1.out.ar.keep ((Fr.refl none_ w1).drew)) (RD.out.keep ((Fr.refl none_ w1).drew)) hz).mono ?_
      rintro e w3 ⟨sl, gn, kk, ss', rfl, hR, hA3, hf3⟩
      have R3 := hid_ hR
      have M3 := hid_ ((M1.out.keep ((Fr.refl none_ w1).drew)).arPut hA3 hf3)
      have fS : Fr (only x.G) w1 w3 := ((Fr.refl (only x.G) w1).then_none ((Fr.refl none_ w1).drew)).then_only hf3 (.inl (Eq.refl _))
      refine ⟨fS, ?_⟩
      clear hR hA3 hf3 hS1
      have hb : w1.heap.size ≤ w3.heap.size := fS.size
      refine wpAnyU_take2 (i := 6) (v := _) rfl (by kernel_rfl) (by kernel_rfl) (by kernel_rfl) (by kernel_rfl) (fun _ _ _ h => h) (.inl ⟨by kernel_rfl, fun w' hS => by go_simp; rfl⟩) fS ?_
      refine wpAnyU_take2 (i := 7) (v := _) rfl (by kernel_rfl) (by kernel_rfl) (by kernel_rfl) (by kernel_rfl) (fun _ _ _ h => h) (.inl ⟨by kernel_rfl, fun w' hS => by go_simp; rfl⟩) fS ?_
      refine wpAnyU_take2 (i := 8) (v := _) rfl (by kernel_rfl) (by kernel_rfl) (by kernel_rfl) (by kernel_rfl) (fun _ _ _ h => h) (.inl ⟨by kernel_rfl, fun w' hS => by go_simp; rfl⟩) fS ?_
      refine wpAnyU_oneW (i := 9) rfl (by kernel_rfl) (by kernel_rfl) ?_
      go_simp
      refine ⟨fS.alloc _, ?_⟩
      obtain ⟨w4, hw4⟩ : ∃ z, z = w3.alloc (.cells #[.int .i64 0, .int .i64 0] 25) := ⟨_, rfl⟩
      have f4 : Fr none_ w3 w4 := by rw [hw4]; exact (Fr.refl none_ w3).alloc _
      have BA := hid_ (show Blk w4 w3.heap.size 25 #[.int .i64 0, .int .i64 0] by rw [hw4]; exact Blk.new w3 _ _)
      replace M3 := hid_ (M3.out.keep f4)
      replace fS := fS.then_none f4
      rw [← hw4]
      clear hw4 f4
      have y0 := BA.out.frozen 0
      have y1 := BA.out.frozen 1
      have z0 : w4.cell? ⟨w3.heap.size, 0, none⟩ = some (.int .i64 0) := BA.out.cell' rfl
      have z1 : w4.cell? ⟨w3.heap.size, 1, none⟩ = some (.int .i64 0) := BA.out.cell' rfl
      refine wpAnyU_oneW (i := 10) rfl (by kernel_rfl) (by kernel_rfl) ?_
      go_simp
      clear y0 y1 z0 z1
      obtain ⟨qb, qf⟩ := box2 BA.out (.int .i64 sl) (.int .i64 gn)
      obtain ⟨w5, hw5⟩ : ∃ z, z = (w4.setCell ⟨w3.heap.size, 0, none⟩ (.int .i64 sl)).setCell ⟨w3.heap.size, 1, none⟩ (.int .i64 gn) := ⟨_, rfl⟩
      rw [← hw5] at qb qf
      rw [← hw5]
      have fS5 := fS.then_only qf (.inr hb)
      refine ⟨fS5, ?_⟩
      have M5 := hid_ (M3.out.ref BA.out qf)
      have Q5 := hid_ qb
      clear hw5 qb qf
      refine wpAnyU_take2 (i := 11) (v := _) rfl (by kernel_rfl) (by kernel_rfl) (by kernel_rfl) (by kernel_rfl) (fun _ _ _ h => h) (.inl ⟨by kernel_rfl, fun w' hS => by go_simp; rfl⟩) fS5 ?_
      refine wpAnyU_done (by kernel_rfl) ?_ _
      go_wp2_with fail
      go_meet
      exact ⟨_, sl, gn, kk, ss', rfl, rfl, hb, Q5.out, R3.out, M5.out, fS5⟩
    · go_simp
      refine ⟨((Fr.refl (only x.G) w1).alloc _).drew, ?_⟩
      obtain ⟨w2, hw2⟩ : ∃ z, z = (w1.alloc (.cells #[.int .i64 0, .int .i64 0] 25)).drew := ⟨_, rfl⟩
      have f2 : Fr none_ w1 w2 := by rw [hw2]; exact ((Fr.refl none_ w1).alloc _).drew
      have BA := hid_ (show Blk w2 w1.heap.size 25 #[.int .i64 0, .int .i64 0] by rw [hw2]; exact (Blk.new w1 _ _).drew)
      rw [← hw2]
      clear hw2 hS1
      refine wpAnyU_oneW (i := 5) rfl (by kernel_rfl) (by kernel_rfl) ?_
      go_simp
      refine (alloc_any R A c B d (M1.out.ar.keep (f2)) (RD.out.keep (f2)) hz).mono ?_
      rintro e w3 ⟨sl, gn, kk, ss', rfl, hR, hA3, hf3⟩
      have R3 := hid_ hR
      have M3 := hid_ ((M1.out.keep (f2)).arPut hA3 hf3)
      have fS : Fr (only x.G) w1 w3 := ((Fr.refl (only x.G) w1).then_none (f2)).then_only hf3 (.inl (Eq.refl _))
      refine ⟨fS, ?_⟩
      have hb : w1.heap.size ≤ w1.heap.size := Nat.le_refl _
      replace BA := hid_ (BA.out.fr hf3 (only_ne ((M1.out.ar.keep f2).gne BA.out (by decide))))
      clear hR hA3 hf3 f2
      refine wpAnyU_take2 (i := 6) (v := _) rfl (by kernel_rfl) (by kernel_rfl) (by kernel_rfl) (by kernel_rfl) (fun _ _ _ h => h) (.inl ⟨by kernel_rfl, fun w' hS => by go_simp; rfl⟩) fS ?_
      refine wpAnyU_take2 (i := 7) (v := _) rfl (by kernel_rfl) (by kernel_rfl) (by kernel_rfl) (by kernel_rfl) (fun _ _ _ h => h) (.inl ⟨by kernel_rfl, fun w' hS => by go_simp; rfl⟩) fS ?_
      refine wpAnyU_take2 (i := 8) (v := _) rfl (by kernel_rfl) (by kernel_rfl) (by kernel_rfl) (by kernel_rfl) (fun _ _ _ h => h) (.inl ⟨by kernel_rfl, fun w' hS => by go_simp; rfl⟩) fS ?_
      have y0 := BA.out.frozen 0
      have y1 := BA.out.frozen 1
      have z0 : w3.cell? ⟨w1.heap.size, 0, none⟩ = some (.int .i64 0) := BA.out.cell' rfl
      have z1 : w3.cell? ⟨w1.heap.size, 1, none⟩ = some (.int .i64 0) := BA.out.cell' rfl
      refine wpAnyU_oneW (i := 10) rfl (by kernel_rfl) (by kernel_rfl) ?_
      go_simp
      clear y0 y1 z0 z1
      obtain ⟨qb, qf⟩ := box2 BA.out (.int .i64 sl) (.int .i64 gn)
      obtain ⟨w5, hw5⟩ : ∃ z, z = (w3.setCell ⟨w1.heap.size, 0, none⟩ (.int .i64 sl)).setCell ⟨w1.heap.size, 1, none⟩ (.int .i64 gn) := ⟨_, rfl⟩
      rw [← hw5] at qb qf
      rw [← hw5]
      have fS5 := fS.then_only qf (.inr hb)
      refine ⟨fS5, ?_⟩
      have M5 := hid_ (M3.out.ref BA.out qf)
      have Q5 := hid_ qb
      clear hw5 qb qf
      refine wpAnyU_take2 (i := 11) (v := _) rfl (by kernel_rfl) (by kernel_rfl) (by kernel_rfl) (by kernel_rfl) (fun _ _ _ h => h) (.inl ⟨by kernel_rfl, fun w' hS => by go_simp; rfl⟩) fS5 ?_
      refine wpAnyU_done (by kernel_rfl) ?_ _
      go_wp2_with fail
      go_meet
      exact ⟨_, sl, gn, kk, ss', rfl, rfl, hb, Q5.out, R3.out, M5.out, fS5⟩
  case rest =>
    obtain ⟨b, sl, gn, kk, ss', rfl, rfl, hb, hbb, hR, hM, hf⟩ := hcut
    have M6 := hid_ hM
    have R6 := hid_ hR
    have B6 := hid_ hbb
    have F6 := hid_ (mall_tr F1.out (mall_G hf))
    have B7 := hid_ (B5.out.fr hf nG.2.2)
    clear hM hR hbb hf nG
    go_upto_region 5 with fail
    have x0 : wc.cell? ⟨b, 0, none⟩ = some (.int .i64 sl) := B6.out.cell' rfl
    have x1 : wc.cell? ⟨b, 1, none⟩ = some (.int .i64 gn) := B6.out.cell' rfl
    have hS1 : (fun w' : World => Fr none_ wc w') wc.drew := (Fr.refl none_ wc).drew
    refine wp_region_U (m := 3) (S := fun w' : World => Fr none_ wc w') (by kernel_rfl) ?_
    refine wpAnyU_take2 (i := 0) (v := _) rfl (by kernel_rfl) (by kernel_rfl) (by kernel_rfl) (by kernel_rfl) (fun _ _ _ h => h) (.inl ⟨by kernel_rfl, fun w' hS => by have s_0 := cellFr x0 hS; have s_1 := cellFr x1 hS; go_simp; rfl⟩) hS1 ?_
    refine wpAnyU_take2 (i := 1) (v := _) rfl (by kernel_rfl) (by kernel_rfl) (by kernel_rfl) (by kernel_rfl) (fun _ _ _ h => h) (.inl ⟨by kernel_rfl, fun w' hS => by go_simp; rfl⟩) hS1 ?_
    refine wpAnyU_oneW (i := 2) rfl (by kernel_rfl) (by kernel_rfl) ?_
    go_simp
    refine (fat_ev sArena9 0 kk _).mono ?_
    rintro e w4 ⟨v, rfl, hev, hf4⟩
    have fS4 := hS1.then_none hf4
    refine ⟨fS4, ?_⟩
    have E4 := hid_ hev
    replace M6 := hid_ (M6.out.keep fS4)
    replace F6 := hid_ (F6.out.then_none fS4)
    replace B7 := hid_ (B7.out.fr fS4 id)
    have y0 := B7.out.frozen 0
    have y1 := B7.out.frozen 1
    have z0 : w4.cell? ⟨w.heap.size + 1, 0, none⟩ = some (.int .i64 0) := B7.out.cell' rfl
    have z1 : w4.cell? ⟨w.heap.size + 1, 1, none⟩ = some (.int .i64 0) := B7.out.cell' rfl
    clear hS1 x0 x1 hev hf4 fS4
    refine wpAnyU_oneW (i := 3) rfl (by kernel_rfl) (by kernel_rfl) ?_
    go_simp
    clear y0 y1 z0 z1
    obtain ⟨qb, qf⟩ := box2 B7.out (.int .i64 sl) (.int .i64 gn)
    obtain ⟨w5, hw5⟩ : ∃ z, z = ((w4.setCell ⟨w.heap.size + 1, 0, none⟩ (.int .i64 sl)).setCell ⟨w.heap.size + 1, 1, none⟩ (.int .i64 gn)) := ⟨_, rfl⟩
    have qb2 : Blk w5 (w.heap.size + 1) 25 #[.int .i64 sl, .int .i64 gn] := by rw [hw5]; exact qb
    have qf2 : Fr (only (w.heap.size + 1)) w4 w5 := by rw [hw5]; exact qf
    rw [← hw5]
    clear hw5 qb qf
    have q0 := qb2.cell' (i := 0) rfl
    have q1 := qb2.cell' (i := 1) rfl
    refine wpAnyU_oneW (i := 4) rfl (by kernel_rfl) (by kernel_rfl) ?_
    go_simp
    refine wpAnyU_done (by kernel_rfl) ?_ _
    go_wp2_with fail
    refine bodyPost_ret (v := .tuple #[.agg #[.int .i64 sl, .int .i64 gn], v]) ?_ rfl ⟨sl, gn, kk, ss', v, rfl, R6.out, E4.out.only qf2 B7.out (by decide), M6.out.ref B7.out qf2, F6.out.then_only qf2 (.inr (by omega))⟩
    simp [results, Tryd.results9, go_sem, q0, q1]
set_option maxHeartbeats 4000000 in
theorem memLoad_any (h : Mm w m k l x) (h0 : 0 ≤ k) (h1 : k ≤ 100000) (sl gn : Int) :
    Calls Tryd.prog 56 #[.pointer (some ⟨m, 0, none⟩), .agg #[.int .i64 sl, .int .i64 gn]] w fun e w' => ∃ R A c B d kk v, e = .returned (.tuple #[recV R (.slice A R.rows.length c) (.slice B R.ents.length d), v]) ∧ LoadR x.ss sl gn R kk ∧ Ev w' v sArena9 sl kk ∧ Mm w' m (k + 1) l x ∧ RecOwn w' w.heap.size R (.slice A R.rows.length c) (.slice B R.ents.length d) ∧ Fr (mall m x) w w' := by
  obtain ⟨w0, hw0⟩ : ∃ z, z = (w.alloc (.cells #[.int .i64 sl, .int .i64 gn] 25)).alloc (.cells recZ 41) := ⟨_, rfl⟩
  have f0 : Fr none_ w w0 := by rw [hw0]; exact ((Fr.refl none_ w).alloc _).alloc _
  have B0 := hid_ (show Blk w0 w.heap.size 25 #[.int .i64 sl, .int .i64 gn] by rw [hw0]; exact (Blk.new w _ _).alloc _)
  have B1 := hid_ (show Blk w0 (w.heap.size + 1) 41 recZ by rw [hw0]; have := Blk.new (w.alloc (.cells #[.int .i64 sl, .int .i64 gn] 25)) 41 recZ; rwa [World.size_alloc] at this)
  have H := hid_ (h.keep f0)
  have F0 := hid_ f0
  clear h f0
  go_enter Tryd.func56, Tryd.ntmps56
  go_upto_region 1 with fail
  change Code.wp _ _ _ _ ((w.alloc (.cells #[.int .i64 sl, .int .i64 gn] 25)).alloc (.cells recZ 41))
  rw [← hw0]
  clear hw0
  go_wp2_with fail
  refine (tick_mo m k l x _ H.out h0 h1).mono ?_
  rintro e w1 ⟨rfl, hM1, hf1⟩
  have M1 := hid_ hM1
  have B4 := hid_ (B0.out.fr hf1 (only_ne (Blk.ne_ B0.out H.out.b (by decide))))
  have B5 := hid_ (B1.out.fr hf1 (only_ne (Blk.ne_ B1.out H.out.b (by decide))))
  have FO : Hid (Fr (only m) w w1) := hid_ ((F0.out.mono (fun _ _ e => e.elim)).trans (S' := only m) (S'' := only m) hf1 (fun _ _ => id) (fun _ _ => id))
  have F1 : Hid (Fr (mall m x) w w1) := hid_ (mall_m FO.out)
  have hszw := FO.out.size
  clear hM1 hf1
  have c7 : w1.cell? ⟨m, 7, none⟩ = some (.pointer (some ⟨x.a, 0, none⟩)) := M1.out.b.cell' rfl
  have x0 : w1.cell? ⟨w.heap.size, 0, none⟩ = some (.int .i64 sl) := B4.out.cell' rfl
  have x1 : w1.cell? ⟨w.heap.size, 1, none⟩ = some (.int .i64 gn) := B4.out.cell' rfl
  go_upto_region 4 with fail
  go_cut [6, 7] (fun u v wq => ∃ (b : Nat) (R : Rc) (A : Option Addr) (c : Nat) (B : Option Addr) (d : Nat) (kk : Int), u = .pointer (some ⟨b, 0, none⟩) ∧ v = errOf kk ∧ w1.heap.size ≤ b ∧ Blk wq b 41 (recA R (.slice A R.rows.length c) (.slice B R.ents.length d)) ∧ LoadR x.ss sl gn R kk ∧ RecOwn wq w1.heap.size R (.slice A R.rows.length c) (.slice B R.ents.length d) ∧ Fr none_ w1 wq)
  case first =>
    have hS1 : (fun w' : World => Fr none_ w1 w') w1.drew := (Fr.refl none_ w1).drew
    refine wp_region_U (m := 12) (S := fun w' : World => Fr none_ w1 w') (by kernel_rfl) ?_
    refine wpAnyU_take2 (i := 0) (v := _) rfl (by kernel_rfl) (by kernel_rfl) (by kernel_rfl) (by kernel_rfl) (fun _ _ _ h => h) (.inl ⟨by kernel_rfl, fun w' hS => by go_simp; rfl⟩) hS1 ?_
    refine wpAnyU_take2 (i := 1) (v := _) rfl (by kernel_rfl) (by kernel_rfl) (by kernel_rfl) (by kernel_rfl) (fun _ _ _ h => h) (.inl ⟨by kernel_rfl, fun w' hS => by go_simp; rfl⟩) hS1 ?_
    refine wpAnyU_take2 (i := 2) (v := _) rfl (by kernel_rfl) (by kernel_rfl) (by kernel_rfl) (by kernel_rfl) (fun _ _ _ h => h) (.inl ⟨by kernel_rfl, fun w' hS => by go_simp; rfl⟩) hS1 ?_
    refine wpAnyU_take2 (i := 3) (v := _) rfl (by kernel_rfl) (by kernel_rfl) (by kernel_rfl) (by kernel_rfl) (fun _ _ _ h => h) (.inl ⟨by kernel_rfl, fun w' hS => by have s_ := cellFr c7 hS; go_simp; rfl⟩) hS1 ?_
    refine wpAnyU_take2 (i := 4) (v := _) rfl (by kernel_rfl) (by kernel_rfl) (by kernel_rfl) (by kernel_rfl) (fun _ _ _ h => h) (.inl ⟨by kernel_rfl, fun w' hS => by have s_0 := cellFr x0 hS; have s_1 := cellFr x1 hS; go_simp; rfl⟩) hS1 ?_
    clear c7 x0 x1
    refine wpAnyU_two (i := 5) (j := 9) rfl rfl rfl rfl (by kernel_rfl) ?_ ?_
    · go_simp
      refine (load_any sl gn (M1.out.ar.keep ((Fr.refl none_ w1).drew))).mono ?_
      rintro e w3 ⟨R, A, c, B, d, kk, rfl, hR, hO3, hf3⟩
      have R3 := hid_ hR
      have O3 := hid_ (hO3.base (b' := w1.heap.size) ((Fr.refl none_ w1).drew).size)
      have fS := ((Fr.refl none_ w1).drew).then_none hf3
      refine ⟨fS, ?_⟩
      clear hR hO3 hf3 hS1
      have hb : w1.heap.size ≤ w3.heap.size := fS.size
      refine wpAnyU_take2 (i := 6) (v := _) rfl (by kernel_rfl) (by kernel_rfl) (by kernel_rfl) (by kernel_rfl) (fun _ _ _ h => h) (.inl ⟨by kernel_rfl, fun w' hS => by go_simp; rfl⟩) fS ?_
      refine wpAnyU_take2 (i := 7) (v := _) rfl (by kernel_rfl) (by kernel_rfl) (by kernel_rfl) (by kernel_rfl) (fun _ _ _ h => h) (.inl ⟨by kernel_rfl, fun w' hS => by go_simp; rfl⟩) fS ?_
      refine wpAnyU_take2 (i := 8) (v := _) rfl (by kernel_rfl) (by kernel_rfl) (by kernel_rfl) (by kernel_rfl) (fun _ _ _ h => h) (.inl ⟨by kernel_rfl, fun w' hS => by go_simp; rfl⟩) fS ?_
      refine wpAnyU_oneW (i := 9) rfl (by kernel_rfl) (by kernel_rfl) ?_
      go_simp
      refine ⟨fS.alloc _, ?_⟩
      obtain ⟨w4, hw4⟩ : ∃ z, z = w3.alloc (.cells recZ 41) := ⟨_, rfl⟩
      have f4 : Fr none_ w3 w4 := by rw [hw4]; exact (Fr.refl none_ w3).alloc _
      have BA := hid_ (show Blk w4 w3.heap.size 41 recZ by rw [hw4]; exact Blk.new w3 _ _)
      replace O3 := hid_ (O3.out.keep f4)
      replace fS := fS.then_none f4
      change wpAnyU _ _ _ _ _ _ _ _ _ (w3.alloc (.cells recZ 41))
      rw [← hw4]
      clear hw4 f4
      refine wpAnyU_oneW (i := 10) rfl (by kernel_rfl) (by kernel_rfl) ?_
      refine wp_store_mid 41 (.tmp 6) (.tmp 23) rfl w3.heap.size 0 (recA R (.slice A R.rows.length c) (.slice B R.ents.length d)) rfl rfl (BA.out.there9 rfl) rec_size (by simp [Value.oneCell']) ?_
      obtain ⟨w5, hw5⟩ : ∃ z, z = w4.setCells (w3.heap.size) 0 (recA R (.slice A R.rows.length c) (.slice B R.ents.length d)).toList := ⟨_, rfl⟩
      have ov := BA.out.over9 (recA R (.slice A R.rows.length c) (.slice B R.ents.length d)).toList rfl
      rw [← hw5] at ov
      have fS5 := fS.then_only ov.2 (.inr hb)
      have O5 := hid_ (O3.out.only ov.2 BA.out (by decide) (by decide))
      have Q5 := hid_ (show Blk w5 (w3.heap.size) 41 (recA R (.slice A R.rows.length c) (.slice B R.ents.length d)) from ov.1)
      refine ⟨.inr (by rw [← hw5]; exact fS5), ?_⟩
      change wpAnyU _ _ _ _ _ _ _ _ _ (w4.setCells (w3.heap.size) 0 (recA R (.slice A R.rows.length c) (.slice B R.ents.length d)).toList)
      rw [← hw5]
      clear hw5 ov
      refine wpAnyU_take2 (i := 11) (v := _) rfl (by kernel_rfl) (by kernel_rfl) (by kernel_rfl) (by kernel_rfl) (fun _ _ _ h => h) (.inl ⟨by kernel_rfl, fun w' hS => by go_simp; rfl⟩) fS5 ?_
      refine wpAnyU_done (by kernel_rfl) ?_ _
      go_wp2_with fail
      go_meet
      exact ⟨_, R, A, c, B, d, kk, rfl, rfl, hb, Q5.out, R3.out, O5.out, fS5⟩
    · go_simp
      refine ⟨((Fr.refl none_ w1).alloc _).drew, ?_⟩
      obtain ⟨w2, hw2⟩ : ∃ z, z = (w1.alloc (.cells recZ 41)).drew := ⟨_, rfl⟩
      have f2 : Fr none_ w1 w2 := by rw [hw2]; exact ((Fr.refl none_ w1).alloc _).drew
      have BA := hid_ (show Blk w2 w1.heap.size 41 recZ by rw [hw2]; exact (Blk.new w1 _ _).drew)
      change wpAnyU _ _ _ _ _ _ _ _ _ ((w1.alloc (.cells recZ 41)).drew)
      rw [← hw2]
      clear hw2 hS1
      refine wpAnyU_oneW (i := 5) rfl (by kernel_rfl) (by kernel_rfl) ?_
      go_simp
      refine (load_any sl gn (M1.out.ar.keep (f2))).mono ?_
      rintro e w3 ⟨R, A, c, B, d, kk, rfl, hR, hO3, hf3⟩
      have R3 := hid_ hR
      have O3 := hid_ (hO3.base (b' := w1.heap.size) (f2).size)
      have fS := (f2).then_none hf3
      refine ⟨fS, ?_⟩
      have hb : w1.heap.size ≤ w1.heap.size := Nat.le_refl _
      replace BA := hid_ (BA.out.fr hf3 id)
      clear hR hO3 hf3 f2
      refine wpAnyU_take2 (i := 6) (v := _) rfl (by kernel_rfl) (by kernel_rfl) (by kernel_rfl) (by kernel_rfl) (fun _ _ _ h => h) (.inl ⟨by kernel_rfl, fun w' hS => by go_simp; rfl⟩) fS ?_
      refine wpAnyU_take2 (i := 7) (v := _) rfl (by kernel_rfl) (by kernel_rfl) (by kernel_rfl) (by kernel_rfl) (fun _ _ _ h => h) (.inl ⟨by kernel_rfl, fun w' hS => by go_simp; rfl⟩) fS ?_
      refine wpAnyU_take2 (i := 8) (v := _) rfl (by kernel_rfl) (by kernel_rfl) (by kernel_rfl) (by kernel_rfl) (fun _ _ _ h => h) (.inl ⟨by kernel_rfl, fun w' hS => by go_simp; rfl⟩) fS ?_
      refine wpAnyU_oneW (i := 10) rfl (by kernel_rfl) (by kernel_rfl) ?_
      refine wp_store_mid 41 (.tmp 6) (.tmp 23) rfl w1.heap.size 0 (recA R (.slice A R.rows.length c) (.slice B R.ents.length d)) rfl rfl (BA.out.there9 rfl) rec_size (by simp [Value.oneCell']) ?_
      obtain ⟨w5, hw5⟩ : ∃ z, z = w3.setCells (w1.heap.size) 0 (recA R (.slice A R.rows.length c) (.slice B R.ents.length d)).toList := ⟨_, rfl⟩
      have ov := BA.out.over9 (recA R (.slice A R.rows.length c) (.slice B R.ents.length d)).toList rfl
      rw [← hw5] at ov
      have fS5 := fS.then_only ov.2 (.inr hb)
      have O5 := hid_ (O3.out.only ov.2 BA.out (by decide) (by decide))
      have Q5 := hid_ (show Blk w5 (w1.heap.size) 41 (recA R (.slice A R.rows.length c) (.slice B R.ents.length d)) from ov.1)
      refine ⟨.inr (by rw [← hw5]; exact fS5), ?_⟩
      change wpAnyU _ _ _ _ _ _ _ _ _ (w3.setCells (w1.heap.size) 0 (recA R (.slice A R.rows.length c) (.slice B R.ents.length d)).toList)
      rw [← hw5]
      clear hw5 ov
      refine wpAnyU_take2 (i := 11) (v := _) rfl (by kernel_rfl) (by kernel_rfl) (by kernel_rfl) (by kernel_rfl) (fun _ _ _ h => h) (.inl ⟨by kernel_rfl, fun w' hS => by go_simp; rfl⟩) fS5 ?_
      refine wpAnyU_done (by kernel_rfl) ?_ _
      go_wp2_with fail
      go_meet
      exact ⟨_, R, A, c, B, d, kk, rfl, rfl, hb, Q5.out, R3.out, O5.out, fS5⟩
  case rest =>
    obtain ⟨b, R, A, c, B, d, kk, rfl, rfl, hb, hbb, hR, hO, hf⟩ := hcut
    have R6 := hid_ hR
    have M6 := hid_ (M1.out.keep hf)
    have O6 := hid_ hO
    have B6 := hid_ hbb
    have F6 := hid_ (F1.out.then_none hf)
    have B7 := hid_ (B5.out.fr hf id)
    have B8 := hid_ (B4.out.fr hf id)
    clear hO hbb hf hR
    go_upto_region 5 with fail
    have hS1 : (fun w' : World => Fr none_ wc w') wc.drew := (Fr.refl none_ wc).drew
    refine wp_region_U (m := 5) (S := fun w' : World => Fr none_ wc w') (by kernel_rfl) ?_
    refine wpAnyU_take2 (i := 0) (v := _) rfl (by kernel_rfl) (by kernel_rfl) (by kernel_rfl) (by kernel_rfl) (fun _ _ _ h => h) (.inl ⟨by kernel_rfl, fun w' hS => by have s_0 : w'.cell? ⟨b, 0, none⟩ = some (.int .i64 R.kind) := cellFr (B6.out.cell' rfl) hS; have s_1 : w'.cell? ⟨b, 1, none⟩ = some (.string R.low) := cellFr (B6.out.cell' rfl) hS; have s_2 : w'.cell? ⟨b, 2, none⟩ = some (.string R.high) := cellFr (B6.out.cell' rfl) hS; have s_3 : w'.cell? ⟨b, 3, none⟩ = some (.bool R.unb) := cellFr (B6.out.cell' rfl) hS; have s_4 : w'.cell? ⟨b, 4, none⟩ = some (.int .i64 R.right) := cellFr (B6.out.cell' rfl) hS; have s_5 : w'.cell? ⟨b, 5, none⟩ = some (.slice A R.rows.length c) := cellFr (B6.out.cell' rfl) hS; have s_6 : w'.cell? ⟨b, 6, none⟩ = some (.slice B R.ents.length d) := cellFr (B6.out.cell' rfl) hS; have s_7 : w'.cell? ⟨b, 7, none⟩ = some (.string R.key) := cellFr (B6.out.cell' rfl) hS; have s_8 : w'.cell? ⟨b, 8, none⟩ = some (.string R.val) := cellFr (B6.out.cell' rfl) hS; have s_9 : w'.cell? ⟨b, 9, none⟩ = some (.int .i64 R.page) := cellFr (B6.out.cell' rfl) hS; have s_10 : w'.cell? ⟨b, 10, none⟩ = some (.int .i64 R.hpage) := cellFr (B6.out.cell' rfl) hS; have s_11 : w'.cell? ⟨b, 11, none⟩ = some (.int .i64 R.hleft) := cellFr (B6.out.cell' rfl) hS; have s_12 : w'.cell? ⟨b, 12, none⟩ = some (.string R.hkey) := cellFr (B6.out.cell' rfl) hS; have s_13 : w'.cell? ⟨b, 13, none⟩ = some (.int .i64 R.nslot) := cellFr (B6.out.cell' rfl) hS; have s_14 : w'.cell? ⟨b, 14, none⟩ = some (.int .i64 R.ngen) := cellFr (B6.out.cell' rfl) hS; go_simp; rfl⟩) hS1 ?_
    refine wpAnyU_take2 (i := 1) (v := _) rfl (by kernel_rfl) (by kernel_rfl) (by kernel_rfl) (by kernel_rfl) (fun _ _ _ h => h) (.inl ⟨by kernel_rfl, fun w' hS => by go_simp; rfl⟩) hS1 ?_
    refine wpAnyU_take2 (i := 2) (v := _) rfl (by kernel_rfl) (by kernel_rfl) (by kernel_rfl) (by kernel_rfl) (fun _ _ _ h => h) (.inl ⟨by kernel_rfl, fun w' hS => by have s_ : w'.cell? ⟨w.heap.size, 0, none⟩ = some (.int .i64 sl) := cellFr (B8.out.cell' rfl) hS; go_simp; rfl⟩) hS1 ?_
    refine wpAnyU_take2 (i := 3) (v := _) rfl (by kernel_rfl) (by kernel_rfl) (by kernel_rfl) (by kernel_rfl) (fun _ _ _ h => h) (.inl ⟨by kernel_rfl, fun w' hS => by go_simp; rfl⟩) hS1 ?_
    refine wpAnyU_oneW (i := 4) rfl (by kernel_rfl) (by kernel_rfl) ?_
    go_simp
    refine (fat_ev sArena9 sl kk _).mono ?_
    rintro e w4 ⟨v, rfl, hev, hf4⟩
    have fS4 := hS1.then_none hf4
    refine ⟨fS4, ?_⟩
    have E4 := hid_ hev
    replace M6 := hid_ (M6.out.keep fS4)
    replace F6 := hid_ (F6.out.then_none fS4)
    replace B7 := hid_ (B7.out.fr fS4 id)
    replace O6 := hid_ (O6.out.keep fS4)
    clear hev hf4 fS4
    refine wpAnyU_oneW (i := 5) rfl (by kernel_rfl) (by kernel_rfl) ?_
    refine wp_store_mid 41 (.tmp 4) (.tmp 25) rfl (w.heap.size + 1) 0 (recA R (.slice A R.rows.length c) (.slice B R.ents.length d)) rfl rfl (B7.out.there9 rfl) rec_size (by simp [Value.oneCell']) ?_
    obtain ⟨w5, hw5⟩ : ∃ z, z = w4.setCells (w.heap.size + 1) 0 (recA R (.slice A R.rows.length c) (.slice B R.ents.length d)).toList := ⟨_, rfl⟩
    have ov := B7.out.over9 (recA R (.slice A R.rows.length c) (.slice B R.ents.length d)).toList rfl
    rw [← hw5] at ov
    have qb2 : Blk w5 (w.heap.size + 1) 41 (recA R (.slice A R.rows.length c) (.slice B R.ents.length d)) := ov.1
    have qf2 : Fr (only (w.heap.size + 1)) w4 w5 := ov.2
    refine ⟨.inl (by decide), ?_⟩
    change wpAnyU _ _ _ _ _ _ _ _ _ (w4.setCells (w.heap.size + 1) 0 (recA R (.slice A R.rows.length c) (.slice B R.ents.length d)).toList)
    rw [← hw5]
    clear hw5 ov hS1
    refine wpAnyU_oneW (i := 6) rfl (by kernel_rfl) (by kernel_rfl) ?_
    go_simp
    refine wpAnyU_done (by kernel_rfl) ?_ _
    go_wp2_with fail
    have q0 := qb2.cell' (i := 0) rfl
    have q1 := qb2.cell' (i := 1) rfl
    have q2 := qb2.cell' (i := 2) rfl
    have q3 := qb2.cell' (i := 3) rfl
    have q4 := qb2.cell' (i := 4) rfl
    have q5 := qb2.cell' (i := 5) rfl
    have q6 := qb2.cell' (i := 6) rfl
    have q7 := qb2.cell' (i := 7) rfl
    have q8 := qb2.cell' (i := 8) rfl
    have q9 := qb2.cell' (i := 9) rfl
    have q10 := qb2.cell' (i := 10) rfl
    have q11 := qb2.cell' (i := 11) rfl
    have q12 := qb2.cell' (i := 12) rfl
    have q13 := qb2.cell' (i := 13) rfl
    have q14 := qb2.cell' (i := 14) rfl
    refine bodyPost_ret (v := .tuple #[recV R (.slice A R.rows.length c) (.slice B R.ents.length d), v]) ?_ rfl ⟨R, A, c, B, d, kk, v, rfl, R6.out, E4.out.only qf2 B7.out (by decide), M6.out.rec9 B7.out qf2, (O6.out.only qf2 B7.out (by decide) (by decide)).base hszw, F6.out.then_only qf2 (.inr (by omega))⟩
    simp [results, Tryd.results56, go_sem, q0, q1, q2, q3, q4, q5, q6, q7, q8, q9, q10, q11, q12, q13, q14]
end
end Go.Proofs.YtfihfjbakfadkaaDoor
namespace Go.Proofs.YtfihfjbakfadkaaDoor
open Go.RowKit
set_option linter.unusedVariables false
theorem Blk.there7 {w : World} {g n : Nat} {t : TypeId} {cs : Array Value} (h : Blk w g t cs) (hn : cs.size = n) : w.there g 0 n := by
  subst hn
  intro j hj
  refine ⟨?_, h.frozen _⟩
  rw [h.cell, Nat.zero_add, Array.getElem?_eq_getElem hj]
  rfl
theorem Blk.new7 {w : World} {b : Nat} (t : TypeId) (cs : Array Value) (h : b = w.heap.size) : Blk (w.alloc (.cells cs t)) b t cs := by
  subst h
  exact Blk.new w t cs
theorem Blk.over7 {w : World} {g : Nat} {t : TypeId} {zs : Array Value} (h : Blk w g t zs) (vs : List Value) (hz : zs.size = vs.length) : Blk (w.setCells g 0 vs) g t vs.toArray ∧ Fr (only g) w (w.setCells g 0 vs) := by
  refine ⟨?_, Fr.setCells _ _ _ (Fr.refl _ _) (.inl rfl)⟩
  have h := Blk.setCells vs 0 _ _ h
  have e : setA zs 0 vs = vs.toArray := by
    apply Array.ext_getElem?
    intro k
    rcases Nat.lt_or_ge k vs.length with h1 | h1
    · have := setA_in vs zs 0 k vs[k] (List.getElem?_eq_getElem h1) (by omega)
      rw [Nat.zero_add] at this
      rw [this, List.getElem?_toArray, List.getElem?_eq_getElem h1]
    · rw [Array.getElem?_eq_none (by rw [setA_size]; omega), Array.getElem?_eq_none (by simpa using h1)]
  rwa [e] at h
theorem Blk.range7 {w : World} {g : Nat} {t : TypeId} {l : List Value} (h : Blk w g t l.toArray) : w.rangeAt g 0 l := fun j v hv => by
  rw [Nat.zero_add]
  exact h.cell' (by simpa using hv)
section
variable {P : Program} {md : Region.Mode} {ops : Array Oper} {Q : Exit → Act → World → Prop} {S : World → Prop}
theorem wpAnyU_one7 {m i : Nat} {oi : Oper} {fuel : Nat} {listed : Array Bool} {a : Act} {w : World} (hi : ops[i]? = some oi) (hw : Region.wanted oi (yielded ops a.tmps) = true) (hr : Region.ready md ops listed = [i])
    (h : Oper.wp P oi a w (fun a' w' => (m ≤ i ∨ S w') ∧ wpAnyU P md ops Q S m fuel (listed.setIfInBounds i true) a' w') Q) : wpAnyU P md ops Q S m (fuel + 1) listed a w := by
  refine wpAnyU_all hr (by simp) (fun j hj => ?_)
  obtain rfl : j = i := by simpa using hj
  unfold wpOp
  simp only [hi, hw, if_true]
  exact .inl h
theorem wpAnyU_two7 {m i j : Nat} {oi oj : Oper} {fuel : Nat} {listed : Array Bool} {a : Act} {w : World} (hi : ops[i]? = some oi) (hj : ops[j]? = some oj) (wi : Region.wanted oi (yielded ops a.tmps) = true) (wj : Region.wanted oj (yielded ops a.tmps) = true) (hr : Region.ready md ops listed = [i, j])
    (h1 : Oper.wp P oi a w (fun a' w' => (m ≤ i ∨ S w') ∧ wpAnyU P md ops Q S m fuel (listed.setIfInBounds i true) a' w') Q)
    (h2 : Oper.wp P oj a w (fun a' w' => (m ≤ j ∨ S w') ∧ wpAnyU P md ops Q S m fuel (listed.setIfInBounds j true) a' w') Q) : wpAnyU P md ops Q S m (fuel + 1) listed a w := by
  refine wpAnyU_all hr (by simp) (fun k hk => ?_)
  have hk' : k = i ∨ k = j := by simpa using hk
  rcases hk' with rfl | rfl
  · unfold wpOp
    simp only [hi, wi, if_true]
    exact .inl h1
  · unfold wpOp
    simp only [hj, wj, if_true]
    exact .inl h2
end
end Go.Proofs.YtfihfjbakfadkaaDoor
namespace Go.Proofs.YtfihfjbakfadkaaDoor
open Go.RowKit Go.BigFrame
set_option maxRecDepth 100000
set_option linter.unusedVariables false

/-- What a loader holds. -/
structure LdS where
  n : Int
  begun : Bool
  over : Bool
  hs : Int
  hg : Int
  ns : Int
  ng : Int
  A : Option Addr
  c : Nat
  L : List Cr
  B : Option Addr
  e : Nat
  refs : List (Int × Int)
  ve : Value
abbrev ldA (s : LdS) : Array Value := #[.int .i64 s.n, .bool s.begun, .bool s.over, .int .i64 s.hs, .int .i64 s.hg, .int .i64 s.ns, .int .i64 s.ng, .slice s.A s.L.length s.c, .slice s.B s.refs.length s.e, s.ve]
abbrev LdS.new (n : Int) : LdS := ⟨n, false, false, 0, 0, 0, 0, none, 0, [], none, 0, [], .nilIface⟩
structure Ldr (b0 : Nat) (w : World) (g : Nat) (s : LdS) : Prop where
  b : Blk w g 133 (ldA s)
  lb : b0 ≤ g
  l : w.ownsRow b0 41 15 (.slice s.A s.L.length s.c) s.L.length (crFlat s.L)
  r : w.ownsRow b0 25 2 (.slice s.B s.refs.length s.e) s.refs.length (rf9Flat s.refs)
  own : ∀ C ∈ s.L, RecOwn w b0 C.R (.slice C.A C.R.rows.length C.c) (.slice C.B C.R.ents.length C.d)
theorem Ldr.fr {b0 g : Nat} {w w' : World} {s : LdS} {S : Nat → Prop} (h : Ldr b0 w g s) (hf : Fr S w w') (hS : ∀ i, S i → i < b0) : Ldr b0 w' g s :=
  ⟨h.b.fr hf (fun e => by have := hS g e; have := h.lb; omega), h.lb,
   own_fr h.l hf (fun k hk e => by have := hS k e; have := (h.l.lt k hk).1; omega),
   own_fr h.r hf (fun k hk e => by have := hS k e; have := (h.r.lt k hk).1; omega),
   fun C hC => (h.own C hC).fr hf (fun k hk e => by have := hS k e; have := ((h.own C hC).r.lt k hk).1; omega) (fun k hk e => by have := hS k e; have := ((h.own C hC).e.lt k hk).1; omega)⟩
theorem Ldr.keep {b0 g : Nat} {w w' : World} {s : LdS} (h : Ldr b0 w g s) (hf : Fr none_ w w') : Ldr b0 w' g s := h.fr hf (fun _ e => e.elim)
/-- The loader's own block alone was turned. -/
theorem Ldr.upd {b0 g : Nat} {w w' : World} {s s' : LdS} (h : Ldr b0 w g s) (hb : Blk w' g 133 (ldA s')) (hf : Fr (only g) w w') (e : (s'.A, s'.c, s'.L, s'.B, s'.e, s'.refs) = (s.A, s.c, s.L, s.B, s.e, s.refs)) : Ldr b0 w' g s' := by
  obtain ⟨n', bg', ov', hs', hg', ns', ng', A', c', L', B', e', refs', ve'⟩ := s'
  obtain ⟨n, bg, ov, hs, hg, ns, ng, A, c, L, B, e0, refs, ve⟩ := s
  simp only [Prod.mk.injEq] at e
  obtain ⟨rfl, rfl, rfl, rfl, rfl, rfl⟩ := e
  have hl := h.l
  have hr := h.r
  have ho := h.own
  exact ⟨hb, h.lb, own_fr hl hf (fun k hk e => own_blk_ne hl h.b (by decide) (by rw [hk, show k = g from e])), own_fr hr hf (fun k hk e => own_blk_ne hr h.b (by decide) (by rw [hk, show k = g from e])), fun C hC => (ho C hC).only hf h.b (by decide) (by decide)⟩
/-- A loader's block was turned: a memory is as it was. -/
theorem Mm.ldr {w w' : World} {m : Nat} {k : Int} {l : Lm} {x : St} {b : Nat} {cs : Array Value} (h : Mm w m k l x) (hb : Blk w b 133 cs) (hf : Fr (only b) w w') : Mm w' m k l x := by
  obtain ⟨cs', hG, _⟩ := h.ar.hG
  obtain ⟨cap, cur, hT0, hH, _⟩ := id h.tb
  exact ⟨h.b.fr hf (only_ne (Blk.ne_ h.b hb (by decide))), h.ar.beside hf hb (by decide) (by decide) (Blk.ne_ h.ar.hA hb (by decide)) (Blk.ne_ hG hb (by decide)), h.tb.fr hf (only_ne (Blk.ne_ hT0 hb (by decide))) (only_ne (Blk.ne_ hH hb (by decide))), h.ck.fr hf (only_ne (Blk.ne_ h.ck.hC hb (by decide))) (only_ne (h.ck.mne hb))⟩
/-- An own row of records, or of refs, has grown: a memory is as it was. -/
theorem Mm.grown {w w' : World} {m : Nat} {k : Int} {l : Lm} {x : St} {base size n : Nat} {e : TypeId} {v : Value} {xs : List Value} (h : Mm w m k l x) (ho : w.ownsRow base e size v n xs) (he : e = 41 ∨ e = 25) (hg : w.grownBy w' v.ownBlock) : Mm w' m k l x := by
  obtain ⟨cs', hG, hc⟩ := h.ar.hG
  obtain ⟨cap, cur, hT0, hH, _⟩ := id h.tb
  have hf : Fr (fun b => v.ownBlock = some b) w w' := Fr.grown (Fr.refl _ _) hg (fun k hk => .inl hk)
  have hM : ¬ v.ownBlock = some x.M := by
    rcases ho.2 with ⟨rfl, _⟩ | ⟨g', cap, cur, rfl, _, hh, _⟩
    · simp [Value.ownBlock]
    · intro e'
      have e2 : g' = x.M := by simpa [Value.ownBlock] using e'
      exact h.ck.mne (show Blk w g' e _ from hh) e2.symm
  have n1 : e ≠ 101 := by rcases he with rfl | rfl <;> decide
  have n2 : e ≠ 143 := by rcases he with rfl | rfl <;> decide
  have n3 : e ≠ 152 := by rcases he with rfl | rfl <;> decide
  have n4 : 137 ≠ e := by rcases he with rfl | rfl <;> decide
  have n5 : 139 ≠ e := by rcases he with rfl | rfl <;> decide
  exact ⟨h.b.fr hf (own_blk_ne ho h.b n1), ⟨h.ar.hA.fr hf (own_blk_ne ho h.ar.hA n2), ⟨cs', hG.fr hf (own_blk_ne ho hG n3), hc⟩, fun i s hs => (h.ar.own i s hs).grown ho n4 n5 hg, h.ar.l40, h.ar.len, h.ar.gen, h.ar.sz⟩,
    h.tb.fr hf (own_blk_ne ho hT0 (by rcases he with rfl | rfl <;> decide)) (own_blk_ne ho hH (by rcases he with rfl | rfl <;> decide)), h.ck.fr hf (own_blk_ne ho h.ck.hC (by rcases he with rfl | rfl <;> decide)) hM⟩
/-- What an access of a memory turns, and what a loader turns. -/
def lall (m : Nat) (x : St) (b0 : Nat) : Nat → Prop := fun i => mall m x i ∨ b0 ≤ i
theorem ldBegin_ok (n : Int) (w : World) : Calls Tryd.prog 22 #[.int .i64 n] w fun e w' => e = .returned (.pointer (some ⟨w.heap.size, 0, none⟩)) ∧ Ldr w.heap.size w' w.heap.size (LdS.new n) ∧ Fr none_ w w' := by
  go_enter Tryd.func22, Tryd.ntmps22
  go_wp2
  go_ret
  exact ⟨rfl, ⟨Blk.new w _ _, Nat.le_refl _, World.ownsRow_nil _ _ _ _, World.ownsRow_nil _ _ _ _, fun C hC => by cases hC⟩, (Fr.refl none_ w).alloc _⟩
theorem ldOver_ok {b0 g : Nat} {w : World} {s : LdS} (h : Ldr b0 w g s) : Calls Tryd.prog 54 #[.pointer (some ⟨g, 0, none⟩)] w fun e w' => e = .returned (.bool s.over) ∧ w = w' := by
  have c2 : w.cell? ⟨g, 2, none⟩ = some (.bool s.over) := h.b.cell' rfl
  clear h
  go_enter Tryd.func54, Tryd.ntmps54
  go_wp2
  go_ret
  exact ⟨rfl, rfl⟩
theorem ldStop_ok {b0 g : Nat} {w : World} {s : LdS} (v : Value) (hv : v = .nilIface ∨ ∃ t u, v = .iface t u) (h : Ldr b0 w g s) : Calls Tryd.prog 55 #[.pointer (some ⟨g, 0, none⟩), v] w fun e w' => e = .returned (.bool true) ∧ Ldr b0 w' g { s with over := true, ve := v } ∧ Fr (only g) w w' := by
  have H := hid_ h
  have c2 : w.cell? ⟨g, 2, none⟩ = some (.bool s.over) := h.b.cell' rfl
  have c9 : w.cell? ⟨g, 9, none⟩ = some s.ve := h.b.cell' rfl
  have y2 := h.b.frozen 2
  have y9 := h.b.frozen 9
  have hs0 := h.b.lt
  clear h
  go_enter Tryd.func55, Tryd.ntmps55
  rcases hv with rfl | ⟨t, u, rfl⟩
  · go_wp2
    go_ret
    have b1 := (H.out.b.set_ 2 (.bool true)).set_ 9 .nilIface
    have f1 : Fr (only g) w ((w.setCell ⟨g, 2, none⟩ (.bool true)).setCell ⟨g, 9, none⟩ .nilIface) := Fr.setCell (p := ⟨g, 9, none⟩) (Fr.only1 w ⟨g, 2, none⟩ _) (.inl rfl) _
    exact ⟨rfl, H.out.upd b1 f1 rfl, f1⟩
  · go_wp2
    go_ret
    have b1 := (H.out.b.set_ 2 (.bool true)).set_ 9 (.iface t u)
    have f1 : Fr (only g) w ((w.setCell ⟨g, 2, none⟩ (.bool true)).setCell ⟨g, 9, none⟩ (.iface t u)) := Fr.setCell (p := ⟨g, 9, none⟩) (Fr.only1 w ⟨g, 2, none⟩ _) (.inl rfl) _
    exact ⟨rfl, H.out.upd b1 f1 rfl, f1⟩
end Go.Proofs.YtfihfjbakfadkaaDoor
namespace Go.Proofs.YtfihfjbakfadkaaDoor
open Go.RowKit Go.BigFrame
set_option maxRecDepth 100000
set_option linter.unusedVariables false

theorem step_over {b0 g : Nat} {w : World} {s : LdS} (m : Value) (h : Ldr b0 w g s) (ho : s.over = true) : Calls Tryd.prog 23 #[.pointer (some ⟨g, 0, none⟩), m] w fun e w' => e = .returned (.bool true) ∧ w = w' := by
  have H := hid_ h
  have HO := hid_ ho
  clear h ho
  go_enter Tryd.func23, Tryd.ntmps23
  go_wp2_with fail
  refine (ldOver_ok H.out).mono ?_
  rintro e w' ⟨rfl, rfl⟩
  rw [HO.out]
  go_wp2_with fail
  go_ret
  exact ⟨rfl, rfl⟩
/-- What a loader's step turns: the memory's, its own block, and the blocks of its rows. -/
def lown (m : Nat) (x : St) (g : Nat) (s : LdS) : Nat → Prop := fun i => mall m x i ∨ i = g ∨ (Value.slice s.A s.L.length s.c).ownBlock = some i ∨ (Value.slice s.B s.refs.length s.e).ownBlock = some i
theorem Ldr.lall {b0 g m : Nat} {w : World} {s : LdS} {x : St} (h : Ldr b0 w g s) (i : Nat) (e : lown m x g s i) : Go.Proofs.YtfihfjbakfadkaaDoor.lall m x b0 i := by
  rcases e with e | e | e | e
  · exact .inl e
  · exact .inr (by rw [e]; exact h.lb)
  · exact .inr (h.l.lt i e).1
  · exact .inr (h.r.lt i e).1
/-- What Step's first access tells, and just what it turns. -/
def LdFirstO (b0 g m : Nat) (k : Int) (l : Lm) (x : St) (s : LdS) (w : World) (e : Ending) (w' : World) : Prop :=
  ∃ (a b c : Int) (v : Value), HeadR x.ps s.n a b c ∧ Ev w' v sTable9 s.n c ∧ Mm w' m (k + 1) l x ∧ Fr (lown m x g s) w w' ∧
    ((c ≠ 0 ∧ e = .returned (.bool true) ∧ Ldr b0 w' g { s with over := true, ve := v }) ∨
     (c = 0 ∧ a = 0 ∧ b = 0 ∧ e = .returned (.bool true) ∧ Ldr b0 w' g { s with over := true, ve := errV 10 }) ∨
     (c = 0 ∧ ¬ (a = 0 ∧ b = 0) ∧ e = .returned (.bool false) ∧ Ldr b0 w' g { s with begun := true, hs := a, hg := b, ns := a, ng := b }))
set_option maxHeartbeats 4000000 in
theorem step_firstO {b0 g m : Nat} {k : Int} {l : Lm} {x : St} {w : World} {s : LdS} (h : Ldr b0 w g s) (hm : Mm w m k l x) (hb : ∀ i, mall m x i → i < b0) (h0 : 0 ≤ k) (h1 : k ≤ 100000) (ho : s.over = false) (hg : s.begun = false) :
    Calls Tryd.prog 23 #[.pointer (some ⟨g, 0, none⟩), .pointer (some ⟨m, 0, none⟩)] w (LdFirstO b0 g m k l x s w) := by
  have H := hid_ h
  have HM := hid_ hm
  have HB := hid_ hb
  have HO := hid_ ho
  have c1 : w.cell? ⟨g, 1, none⟩ = some (.bool false) := by rw [← hg]; exact h.b.cell' rfl
  have c0 : w.cell? ⟨g, 0, none⟩ = some (.int .i64 s.n) := h.b.cell' rfl
  have hsg := h.b.lt
  have HG := hid_ hg
  clear h hm hb ho hg
  go_enter Tryd.func23, Tryd.ntmps23
  go_wp2_with fail
  refine (ldOver_ok H.out).mono ?_
  rintro e w' ⟨rfl, rfl⟩
  rw [HO.out]
  go_wp2_with fail
  refine (memHead_any m k l x _ HM.out h0 h1 s.n).mono ?_
  rintro e w1 ⟨a, b, c, v, rfl, hhd, hev, hmm, hf1⟩
  have HD := hid_ hhd
  have EV := hid_ hev
  replace H := hid_ (H.out.fr hf1 HB.out)
  replace HM := hid_ hmm
  have F1 := hid_ (hf1.mono (S' := lown m x g s) (fun i _ e => .inl e))
  have hsz1 := hf1.size
  clear hhd hev hmm hf1 c0 c1
  go_upto_region 5 with fail
  obtain ⟨w2, hw2⟩ : ∃ z, z = w1.alloc (.cells #[.int .i64 a, .int .i64 b] 25) := ⟨_, rfl⟩
  have f2 : Fr none_ w1 w2 := by rw [hw2]; exact (Fr.refl none_ w1).alloc _
  have BR : Hid (Blk w2 w1.heap.size 25 #[.int .i64 a, .int .i64 b]) := hid_ (by rw [hw2]; exact Blk.new w1 _ _)
  change Code.wp _ _ _ _ (w1.alloc (.cells #[.int .i64 a, .int .i64 b] 25))
  rw [← hw2]
  clear hw2
  replace H := hid_ (H.out.keep f2)
  replace HM := hid_ (HM.out.keep f2)
  replace EV := hid_ (EV.out.keep f2)
  replace F1 := hid_ (F1.out.then_none f2)
  clear f2
  have hlb := H.out.lb
  have r0 : w2.cell? ⟨w1.heap.size, 0, none⟩ = some (.int .i64 a) := BR.out.cell' rfl
  have r1 : w2.cell? ⟨w1.heap.size, 1, none⟩ = some (.int .i64 b) := BR.out.cell' rfl
  have hgl : g < w1.heap.size := by omega
  have hq := eql_ref
  rcases EV.out with ⟨hc, rfl⟩ | ⟨hc, q, rfl, -⟩
  · have HC := hid_ hc
    clear hc
    by_cases hz : a = 0 ∧ b = 0
    · obtain ⟨rfl, rfl⟩ := hz
      go_wp2_with fail
      refine (ldStop_ok (errV 10) (.inr ⟨_, _, rfl⟩) H.out).mono ?_
      rintro e w3 ⟨rfl, hl3, hf3⟩
      go_wp2_with fail
      go_ret
      exact ⟨0, 0, c, .nilIface, HD.out, .inl ⟨HC.out, rfl⟩, HM.out.ldr H.out.b hf3, F1.out.then_only hf3 (.inl (.inr (.inl rfl))), .inr (.inl ⟨HC.out, rfl, rfl, rfl, hl3⟩)⟩
    · have hd : (a == 0 && b == 0) = false := by
        simp only [Bool.and_eq_false_iff, beq_eq_false_iff_ne]
        omega
      have HZ := hid_ hz
      clear hz
      have y1 := H.out.b.frozen 1
      have y3 := H.out.b.frozen 3
      have y4 := H.out.b.frozen 4
      have y5 := H.out.b.frozen 5
      have y6 := H.out.b.frozen 6
      have hsg2 := H.out.b.lt
      have g1 : w2.cell? ⟨g, 1, none⟩ = some (.bool s.begun) := H.out.b.cell' rfl
      have g3 : w2.cell? ⟨g, 3, none⟩ = some (.int .i64 s.hs) := H.out.b.cell' rfl
      have g4 : w2.cell? ⟨g, 4, none⟩ = some (.int .i64 s.hg) := H.out.b.cell' rfl
      have g5 : w2.cell? ⟨g, 5, none⟩ = some (.int .i64 s.ns) := H.out.b.cell' rfl
      have g6 : w2.cell? ⟨g, 6, none⟩ = some (.int .i64 s.ng) := H.out.b.cell' rfl
      go_wp2_with fail
      go_region
      have b3 := (((((H.out.b.set_ 1 (.bool true)).set_ 3 (.int .i64 a)).set_ 4 (.int .i64 b)).set_ 5 (.int .i64 a)).set_ 6 (.int .i64 b)).drew
      have f3 := (Fr.setCell (p := ⟨g, 6, none⟩) (Fr.setCell (p := ⟨g, 5, none⟩) (Fr.setCell (p := ⟨g, 4, none⟩) (Fr.setCell (p := ⟨g, 3, none⟩) (Fr.only1 w2 ⟨g, 1, none⟩ (.bool true)) (.inl rfl) (.int .i64 a)) (.inl rfl) (.int .i64 b)) (.inl rfl) (.int .i64 a)) (.inl rfl) (.int .i64 b)).drew
      obtain ⟨w3, hw3⟩ : ∃ z, z = (((((w2.setCell ⟨g, 1, none⟩ (.bool true)).setCell ⟨g, 3, none⟩ (.int .i64 a)).setCell ⟨g, 4, none⟩ (.int .i64 b)).setCell ⟨g, 5, none⟩ (.int .i64 a)).setCell ⟨g, 6, none⟩ (.int .i64 b)).drew := ⟨_, rfl⟩
      rw [← hw3] at b3 f3 ⊢
      clear hw3
      have L3 : Hid (Ldr b0 w3 g { s with begun := true, hs := a, hg := b, ns := a, ng := b }) := hid_ (H.out.upd b3 f3 rfl)
      replace HM := hid_ (HM.out.ldr H.out.b f3)
      replace F1 := hid_ (F1.out.then_only f3 (.inl (.inr (.inl rfl))))
      clear b3 f3 g1 g3 g4 g5 g6 y1 y3 y4 y5 y6 r0 r1 hq hd
      go_wp2_with fail
      go_ret
      exact ⟨a, b, c, .nilIface, HD.out, .inl ⟨HC.out, rfl⟩, HM.out, F1.out, .inr (.inr ⟨HC.out, HZ.out, rfl, L3.out⟩)⟩
  · have HC := hid_ hc
    have EQ := hid_ EV.out
    clear hc
    go_wp2_with fail
    refine (ldStop_ok (.iface 159 (.pointer (some ⟨q, 0, none⟩))) (.inr ⟨_, _, rfl⟩) H.out).mono ?_
    rintro e w3 ⟨rfl, hl3, hf3⟩
    go_wp2_with fail
    go_ret
    exact ⟨a, b, c, _, HD.out, EQ.out.only hf3 H.out.b (by decide), HM.out.ldr H.out.b hf3, F1.out.then_only hf3 (.inl (.inr (.inl rfl))), .inl ⟨HC.out, rfl, hl3⟩⟩
/-- What Step's first access tells. -/
def LdFirst (b0 g m : Nat) (k : Int) (l : Lm) (x : St) (s : LdS) (w : World) (e : Ending) (w' : World) : Prop :=
  ∃ (a b c : Int) (v : Value), HeadR x.ps s.n a b c ∧ Ev w' v sTable9 s.n c ∧ Mm w' m (k + 1) l x ∧ Fr (lall m x b0) w w' ∧
    ((c ≠ 0 ∧ e = .returned (.bool true) ∧ Ldr b0 w' g { s with over := true, ve := v }) ∨
     (c = 0 ∧ a = 0 ∧ b = 0 ∧ e = .returned (.bool true) ∧ Ldr b0 w' g { s with over := true, ve := errV 10 }) ∨
     (c = 0 ∧ ¬ (a = 0 ∧ b = 0) ∧ e = .returned (.bool false) ∧ Ldr b0 w' g { s with begun := true, hs := a, hg := b, ns := a, ng := b }))
theorem step_first {b0 g m : Nat} {k : Int} {l : Lm} {x : St} {w : World} {s : LdS} (h : Ldr b0 w g s) (hm : Mm w m k l x) (hb : ∀ i, mall m x i → i < b0) (h0 : 0 ≤ k) (h1 : k ≤ 100000) (ho : s.over = false) (hg : s.begun = false) :
    Calls Tryd.prog 23 #[.pointer (some ⟨g, 0, none⟩), .pointer (some ⟨m, 0, none⟩)] w (LdFirst b0 g m k l x s w) := (step_firstO h hm hb h0 h1 ho hg).mono fun e w' hh => by
  obtain ⟨a, b, c, v, h1, h2, h3, h4, h5⟩ := hh
  exact ⟨a, b, c, v, h1, h2, h3, h4.mono (fun i _ e => h.lall i e), h5⟩
end Go.Proofs.YtfihfjbakfadkaaDoor
namespace Go.Proofs.YtfihfjbakfadkaaDoor
open Go.RowKit
set_option linter.unusedVariables false
/-- wpAnyU, closed to the unifier. -/
structure UwA (P : Program) (md : Region.Mode) (ops : Array Oper) (Q : Exit → Act → World → Prop) (S : World → Prop) (m fuel : Nat) (listed : Array Bool) (a : Act) (w : World) : Prop where
  h : wpAnyU P md ops Q S m fuel listed a w
section
variable {P : Program} {md : Region.Mode} {ops : Array Oper} {Q : Exit → Act → World → Prop} {S : World → Prop} {m fuel : Nat} {listed : Array Bool} {a : Act} {w : World} {oi : Oper}
theorem u_take (i : Nat) (d : Option Tmp) (v : Value) (hi : ops[i]? = some oi) (hd : oi.dst = d) (hs : Region.noSelect ops = true) (hf : Region.free md ops listed i = true) (hr : (Region.ready md ops listed).contains i = true)
    (hm : ((List.range ops.size).all (fun j => !decide (m ≤ j) || decide (j = i) || waitsB md ops ops.size j i) && closedB md ops listed) = true)
    (hQ : ∀ c a w, Q (.panic c) (a.put oi.dst v) w → Q (.panic c) a w) (hy : YieldsIf P ops S oi v a) (hS : S w)
    (h : UwA P md ops Q S m fuel (listed.setIfInBounds i true) (a.put d v) w) : UwA P md ops Q S m (fuel + 1) listed a w := by
  subst hd
  exact ⟨wpAnyU_take2 hi hs hf hr hm hQ hy hS h.h⟩
theorem y_val {v : Value} (hw : Region.wanted oi (yielded ops a.tmps) = true) (hx : ∀ w, S w → (execOp a.eval oi).run P w = .ok (.value v) w) : YieldsIf P ops S oi v a := .inl ⟨hw, hx⟩
theorem run_loadAt_cellU (w : World) (ad : Addr) (ty : TypeId) (v : Value) (d : TypeDesc) (hc : w.cell? ad = some v) (hu : P.underlying ty = some d) (hd : d.isRow = false) :
    (Instr.loadAt ty (.pointer (some ad))).run P w = .ok v w := by
  have hagg : (isAgg ty).run P w = .ok false w := by
    unfold isAgg
    rw [Sem.run_bind, run_underlying hu w]
    cases d <;> simp_all
  have hl : (load ad).run P w = .ok v w := by
    rw [run_load, hc]
  simp only [Instr.loadAt, Instr.sureAddr, loadVar, Sem.run_bind, Sem.run_pure, Result.andThen_ok, hagg, Bool.false_eq_true, if_false, hl]
theorem y_cell {v : Value} (ty : TypeId) (x : Operand) (ad : Addr) (td : TypeDesc) (hw : Region.wanted oi (yielded ops a.tmps) = true) (ho : oi.op = .load ty x) (hx : a.eval x = .pointer (some ad)) (hc : ∀ w, S w → w.cell? ad = some v) (hu : P.underlying ty = some td) (hr : td.isRow = false) : YieldsIf P ops S oi v a :=
  .inl ⟨hw, fun w hS => by
    unfold execOp
    simp only [ho, hx, Sem.run_bind, Sem.run_pure, Result.andThen_ok, run_loadAt_cellU w ad ty v td (hc w hS) hu hr]⟩
theorem u_one (i : Nat) (hi : ops[i]? = some oi) (hw : Region.wanted oi (yielded ops a.tmps) = true) (hr : Region.ready md ops listed = [i])
    (h : Oper.wp P oi a w (fun a' w' => (m ≤ i ∨ S w') ∧ UwA P md ops Q S m fuel (listed.setIfInBounds i true) a' w') Q) : UwA P md ops Q S m (fuel + 1) listed a w := by
  refine ⟨wpAnyU_all hr (by simp) (fun j hj => ?_)⟩
  obtain rfl : j = i := by simpa using hj
  refine wpOp_mono (K := fun a' w' => (m ≤ j ∨ S w') ∧ UwA P md ops Q S m fuel (listed.setIfInBounds j true) a' w') (fun a' w' h' => ⟨h'.1, h'.2.h⟩) ?_
  unfold wpOp
  simp only [hi, hw, if_true]
  exact .inl h
/-- The one operation that is ready calls a function, whose value is known. -/
theorem u_call (i : Nat) (d : Option Tmp) (f : FuncId) (vs : Array Value) (v : Value) (F : World → Prop) (hi : ops[i]? = some oi) (hd : oi.dst = d) (hw : Region.wanted oi (yielded ops a.tmps) = true) (hr : Region.ready md ops listed = [i])
    (hx : (execOp a.eval oi).run P w = .ok (.enter f vs) w) (hc : Calls P f vs w (fun e w' => e = .returned v ∧ F w'))
    (h : ∀ w', F w' → S w' ∧ UwA P md ops Q S m fuel (listed.setIfInBounds i true) (a.put d v) w') : UwA P md ops Q S m (fuel + 1) listed a w := by
  subst hd
  refine u_one i hi hw hr ?_
  unfold Oper.wp
  rw [hx, Oper.upon_enter]
  refine hc.mono ?_
  rintro e w' ⟨rfl, hF⟩
  exact ⟨.inr (h w' hF).1, (h w' hF).2⟩
/-- .. whose value the call tells. -/
theorem u_callE (i : Nat) (d : Option Tmp) (f : FuncId) (vs : Array Value) (F : Value → World → Prop) (hi : ops[i]? = some oi) (hd : oi.dst = d) (hw : Region.wanted oi (yielded ops a.tmps) = true) (hr : Region.ready md ops listed = [i])
    (hx : (execOp a.eval oi).run P w = .ok (.enter f vs) w) (hc : Calls P f vs w (fun e w' => ∃ v, e = .returned v ∧ F v w'))
    (h : ∀ v w', F v w' → S w' ∧ UwA P md ops Q S m fuel (listed.setIfInBounds i true) (a.put d v) w') : UwA P md ops Q S m (fuel + 1) listed a w := by
  subst hd
  refine u_one i hi hw hr ?_
  unfold Oper.wp
  rw [hx, Oper.upon_enter]
  refine hc.mono ?_
  rintro e w' ⟨v, rfl, hF⟩
  exact ⟨.inr (h v w' hF).1, (h v w' hF).2⟩
/-- The one operation that is ready stores a whole struct. -/
theorem u_store (i : Nat) (ty : TypeId) (x y : Operand) (b o : Nat) (cells : Array Value) (hi : ops[i]? = some oi) (hd : oi.dst = none) (hw : Region.wanted oi (yielded ops a.tmps) = true) (hr : Region.ready md ops listed = [i])
    (ho : oi.op = .store ty x y) (hx : a.eval x = .pointer (some ⟨b, o, none⟩)) (hy : a.eval y = .agg cells) (ht : w.there b o cells.size) (hz : (P.info? ty).map (·.size) = some cells.size) (h1 : cells.all (·.oneCell') = true)
    (h : ∀ w', w' = w.setCells b o cells.toList → S w' ∧ UwA P md ops Q S m fuel (listed.setIfInBounds i true) a w') : UwA P md ops Q S m (fuel + 1) listed a w := by
  refine u_one i hi hw hr ?_
  refine wp_store_mid ty x y ho b o cells hx hy ht hz h1 ?_
  rw [hd]
  exact ⟨.inr (h _ rfl).1, (h _ rfl).2⟩
theorem u_done (hr : Region.ready md ops listed = []) (h : Q .normal a w) : UwA P md ops Q S m fuel listed a w := ⟨wpAnyU_done hr h fuel⟩
theorem wp_region_u (m : Nat) (S : World → Prop) {id : Nat} (hm : P.follows .mixedOrders = true)
    (h : UwA P .any ops Q S m ops.size (Array.replicate ops.size false) a w.drew) : (Code.region id ops true).wp P Q a w := wp_region_U hm h.h
end
end Go.Proofs.YtfihfjbakfadkaaDoor
namespace Go.Proofs.YtfihfjbakfadkaaDoor
open Go.RowKit
set_option maxRecDepth 100000
set_option linter.unusedVariables false

/-- Is one list of bytes ahead of another one? -/
def ltL : List UInt8 → List UInt8 → Bool
  | [], [] => false
  | [], _ :: _ => true
  | _ :: _, [] => false
  | a :: x, b :: y => decide (a.toNat < b.toNat) || (decide (a.toNat = b.toNat) && ltL x y)
theorem u8_eq {a b : UInt8} (h : a.toNat = b.toNat) : a = b := UInt8.toNat_inj.1 h
theorem ltL_cons {a b : UInt8} {x y : List UInt8} : ltL (a :: x) (b :: y) = true ↔ a.toNat < b.toNat ∨ a.toNat = b.toNat ∧ ltL x y = true := by
  simp [ltL]
theorem ltL_irrefl : ∀ x : List UInt8, ltL x x = false
  | [] => rfl
  | a :: x => by simp [ltL, ltL_irrefl x]
theorem ltL_trans : ∀ {x y z : List UInt8}, ltL x y = true → ltL y z = true → ltL x z = true
  | [], [], _, h, _ => by simp [ltL] at h
  | [], _ :: _, [], _, h => by simp [ltL] at h
  | [], _ :: _, _ :: _, _, _ => rfl
  | _ :: _, [], _, h, _ => by simp [ltL] at h
  | _ :: _, _ :: _, [], _, h => by simp [ltL] at h
  | a :: x, b :: y, c :: z, h, k => by
    rw [ltL_cons] at h k ⊢
    rcases h with h | ⟨h, h'⟩ <;> rcases k with k | ⟨k, k'⟩
    · left; omega
    · left; omega
    · left; omega
    · right; exact ⟨by omega, ltL_trans h' k'⟩
theorem ltL_total : ∀ (x y : List UInt8), ltL x y = true ∨ x = y ∨ ltL y x = true
  | [], [] => .inr (.inl rfl)
  | [], _ :: _ => .inl rfl
  | _ :: _, [] => .inr (.inr rfl)
  | a :: x, b :: y => by
    rw [ltL_cons, ltL_cons]
    rcases Nat.lt_trichotomy a.toNat b.toNat with h | h | h
    · exact .inl (.inl h)
    · rcases ltL_total x y with k | rfl | k
      · exact .inl (.inr ⟨h, k⟩)
      · exact .inr (.inl (by rw [u8_eq h]))
      · exact .inr (.inr (.inr ⟨h.symm, k⟩))
    · exact .inr (.inr (.inl h))
/-- How many bytes two lists begin with alike. -/
def cpL : List UInt8 → List UInt8 → Nat
  | a :: x, b :: y => if a = b then cpL x y + 1 else 0
  | _, _ => 0
theorem cpL_le : ∀ (x y : List UInt8), cpL x y ≤ x.length ∧ cpL x y ≤ y.length
  | [], _ => ⟨Nat.le_refl _, Nat.zero_le _⟩
  | _ :: _, [] => ⟨Nat.zero_le _, Nat.le_refl _⟩
  | a :: x, b :: y => by
    have := cpL_le x y
    rw [cpL]
    split <;> simp <;> omega
theorem cpL_in : ∀ {x y : List UInt8} {i : Nat}, i < cpL x y → x[i]? = y[i]?
  | [], _, i, h => by simp [cpL] at h
  | _ :: _, [], i, h => by simp [cpL] at h
  | a :: x, b :: y, i, h => by
    rw [cpL] at h
    split at h
    · rename_i e
      cases i with
      | zero => simp [e]
      | succ i => simpa using cpL_in (x := x) (y := y) (i := i) (by omega)
    · omega
theorem cpL_stop : ∀ {x y : List UInt8} {a b : UInt8}, x[cpL x y]? = some a → y[cpL x y]? = some b → a ≠ b
  | [], _, a, b, h, _ => by simp at h
  | _ :: _, [], a, b, _, h => by simp at h
  | c :: x, d :: y, a, b, h, k => by
    rw [cpL] at h k
    split at h
    · rename_i e
      rw [if_pos e] at k
      exact cpL_stop (x := x) (y := y) (by simpa using h) (by simpa using k)
    · rename_i e
      rw [if_neg e] at k
      have h1 : c = a := by simpa using h
      have h2 : d = b := by simpa using k
      rw [← h1, ← h2]; exact e
/-- A number that is as far as two lists are alike, and no farther, is that. -/
theorem cpL_is : ∀ {x y : List UInt8} {n : Nat}, (∀ i, i < n → x[i]? = y[i]?) → n ≤ x.length → n ≤ y.length → (n = x.length ∨ n = y.length ∨ ∃ a b, x[n]? = some a ∧ y[n]? = some b ∧ a ≠ b) → cpL x y = n
  | [], y, n, _, h1, _, _ => by
    obtain rfl : n = 0 := by simpa using h1
    simp [cpL]
  | _ :: _, [], n, _, _, h2, _ => by
    obtain rfl : n = 0 := by simpa using h2
    simp [cpL]
  | c :: x, d :: y, 0, _, _, _, h => by
    rcases h with h | h | ⟨a, b, h1, h2, h3⟩
    · simp at h
    · simp at h
    · have e1 : c = a := by simpa using h1
      have e2 : d = b := by simpa using h2
      rw [cpL, if_neg (by rw [e1, e2]; exact h3)]
  | c :: x, d :: y, n + 1, hi, h1, h2, h => by
    have e0 : c = d := by simpa using hi 0 (by omega)
    rw [cpL, if_pos e0]
    congr 1
    refine cpL_is (fun i hn => by simpa using hi (i + 1) (by omega)) (by simpa using h1) (by simpa using h2) ?_
    rcases h with h | h | ⟨a, b, h1, h2, h3⟩
    · exact .inl (by simpa using h)
    · exact .inr (.inl (by simpa using h))
    · exact .inr (.inr ⟨a, b, by simpa using h1, by simpa using h2, h3⟩)
theorem lt_of_end : ∀ {x y : List UInt8}, cpL x y = x.length → x.length < y.length → ltL x y = true
  | [], [], _, h => by simp at h
  | [], _ :: _, _, _ => rfl
  | _ :: _, [], _, h => by simp at h
  | a :: x, b :: y, h, hl => by
    rw [cpL] at h
    split at h
    · rename_i e
      rw [ltL_cons]
      right
      exact ⟨by rw [e], lt_of_end (by simpa using h) (by simpa using hl)⟩
    · simp at h
theorem cp_comm : ∀ x y : List UInt8, cpL x y = cpL y x
  | [], [] => rfl
  | [], _ :: _ => rfl
  | _ :: _, [] => rfl
  | a :: x, b :: y => by
    rw [cpL, cpL]
    by_cases h : a = b
    · rw [if_pos h, if_pos h.symm, cp_comm x y]
    · rw [if_neg h, if_neg (fun e => h e.symm)]
theorem lt_of_stop : ∀ {x y : List UInt8} {a b : UInt8}, x[cpL x y]? = some a → y[cpL x y]? = some b → a.toNat < b.toNat → ltL x y = true
  | [], _, a, b, h, _, _ => by simp at h
  | _ :: _, [], a, b, _, h, _ => by simp at h
  | c :: x, d :: y, a, b, h, k, l => by
    rw [ltL_cons]
    rw [cpL] at h k
    split at h
    · rename_i e
      rw [if_pos e] at k
      exact .inr ⟨by rw [e], lt_of_stop (by simpa using h) (by simpa using k) l⟩
    · rename_i e
      rw [if_neg e] at k
      have h1 : c = a := by simpa using h
      have h2 : d = b := by simpa using k
      rw [h1, h2]; exact .inl l
theorem eq_of_cp {x y : List UInt8} (h1 : cpL x y = x.length) (h2 : cpL x y = y.length) : x = y := by
  apply List.ext_getElem?
  intro i
  rcases Nat.lt_or_ge i (cpL x y) with h | h
  · exact cpL_in h
  · rw [List.getElem?_eq_none (by omega), List.getElem?_eq_none (by omega)]

def ltS (a b : ByteArray) : Bool := ltL a.data.toList b.data.toList
theorem ba_eq {a b : ByteArray} (h : a.data.toList = b.data.toList) : a = b := by
  cases a; cases b
  congr
  exact Array.toList_inj.1 h
theorem ltS_irrefl (a : ByteArray) : ltS a a = false := ltL_irrefl _
theorem ltS_trans {a b c : ByteArray} (h : ltS a b = true) (k : ltS b c = true) : ltS a c = true := ltL_trans h k
theorem ltS_total (a b : ByteArray) : ltS a b = true ∨ a = b ∨ ltS b a = true := by
  rcases ltL_total a.data.toList b.data.toList with h | h | h
  · exact .inl h
  · exact .inr (.inl (ba_eq h))
  · exact .inr (.inr h)
theorem ltS_asymm {a b : ByteArray} (h : ltS a b = true) : ltS b a = false := by
  cases h' : ltS b a with
  | false => rfl
  | true => have := ltS_trans h h'; rw [ltS_irrefl] at this; cases this
theorem ltS_ne {a b : ByteArray} (h : ltS a b = true) : a ≠ b := by rintro rfl; rw [ltS_irrefl] at h; cases h
theorem ba_toList (a : ByteArray) : a.toList = a.data.toList := ByteArray.toList_eq a
/-- Are two texts the same? As the walk spells it. -/
def sEq (a b : ByteArray) : Bool := a.toList == b.toList
theorem sEq_iff {a b : ByteArray} : sEq a b = true ↔ a = b := by
  unfold sEq
  rw [beq_iff_eq, ba_toList, ba_toList]
  exact ⟨ba_eq, fun h => by rw [h]⟩
theorem sEq_self (a : ByteArray) : sEq a a = true := sEq_iff.2 rfl
theorem sEq_ne {a b : ByteArray} (h : a ≠ b) : sEq a b = false := by
  cases e : sEq a b with
  | false => rfl
  | true => exact absurd (sEq_iff.1 e) h
def cmpI (a b : ByteArray) : Int := if ltS a b = true then -1 else if a = b then 0 else 1
theorem cmp_lt {a b : ByteArray} (h : ltS a b = true) : cmpI a b = -1 := if_pos h
theorem cmp_eq (a : ByteArray) : cmpI a a = 0 := by rw [cmpI, if_neg (by rw [ltS_irrefl]; decide), if_pos rfl]
theorem cmp_gt {a b : ByteArray} (h : ltS b a = true) : cmpI a b = 1 := by rw [cmpI, if_neg (by rw [ltS_asymm h]; decide), if_neg (fun e => ltS_ne h e.symm)]
theorem cmp_neg (a b : ByteArray) : decide (cmpI a b < 0) = ltS a b := by
  rcases ltS_total a b with h | rfl | h
  · rw [cmp_lt h, h]; rfl
  · rw [cmp_eq, ltS_irrefl]; rfl
  · rw [cmp_gt h, ltS_asymm h]; rfl
theorem cmp_le (a b : ByteArray) : decide (cmpI a b ≤ 0) = !ltS b a := by
  rcases ltS_total a b with h | rfl | h
  · rw [cmp_lt h, ltS_asymm h]; rfl
  · rw [cmp_eq, ltS_irrefl]; rfl
  · rw [cmp_gt h, h]; rfl
theorem cmp_ge (a b : ByteArray) : decide (0 ≤ cmpI a b) = !ltS a b := by
  rcases ltS_total a b with h | rfl | h
  · rw [cmp_lt h, h]; rfl
  · rw [cmp_eq, ltS_irrefl]; rfl
  · rw [cmp_gt h, ltS_asymm h]; rfl
def inS (low high : ByteArray) (unb : Bool) (key : ByteArray) : Bool := !ltS key low && (unb || ltS key high)

theorem ba_len (a : ByteArray) : a.data.toList.length = a.size := by simp
theorem ba_get {a : ByteArray} {i : Nat} (h : i < a.size) : a.data.toList[i]? = some a[i] := by
  rw [List.getElem?_eq_getElem (by rw [ba_len]; exact h)]
  rfl

theorem drewN_drewN (w : World) (a b : Nat) : (w.drewN a).drewN b = w.drewN (a + b) := by
  simp [World.drewN, Nat.add_assoc]
set_option maxHeartbeats 2000000 in
theorem common_ok (a b : ByteArray) (w : World) (ha : a.size ≤ 9000000000000000000) (hb : b.size ≤ 9000000000000000000) :
    Calls Tryd.prog 84 #[.string a, .string b] w fun e w' => e = .returned (.int .i64 (cpL a.data.toList b.data.toList : Nat)) ∧ ∃ n, w' = w.drewN n := by
  by_cases hmin : b.size < a.size
  · go_enter Tryd.func84, Tryd.ntmps84
    go_wp2
    go_loopw [5, 11] (fun n i wr => ∃ k : Nat, k ≤ b.size ∧ n = .int .i64 k ∧ i = .int .i64 k ∧ (∀ j, j < k → a.data.toList[j]? = b.data.toList[j]?) ∧ ∃ q, wr = w.drewN q) (fun _ i _ => b.size - (intOf i).toNat)
    case atStart => exact ⟨0, Nat.zero_le _, rfl, rfl, fun j hj => by omega, 0, rfl⟩
    case round =>
      obtain ⟨k, hk, rfl, rfl, hall, q, rfl⟩ := hrel
      have HA := hid_ hall
      clear hall
      by_cases hlt : k < b.size
      · have hka : k < a.size := by omega
        have hkb : k < b.size := by omega
        have hi0 : (0 : Int) ≤ (k : Int) := Int.natCast_nonneg _
        have hia : (k : Int) < (a.size : Int) := by omega
        have hib : (k : Int) < (b.size : Int) := by omega
        by_cases he : a[k] = b[k]
        · have hne : ((a[k].toNat : Int) != (b[k].toNat : Int)) = false := by rw [he]; simp
          have HS : Hid (∀ j, j < k + 1 → a.data.toList[j]? = b.data.toList[j]?) := hid_ (fun j hj => by
            rcases Nat.lt_succ_iff_lt_or_eq.1 hj with h | rfl
            · exact HA.out j h
            · rw [ba_get hka, ba_get hkb, he])
          clear he
          go_wp2_with fail
          go_quiet (fail)
          go_wp2_with fail
          go_roundw
          case rel => exact ⟨k + 1, by omega, by go_num, by go_num, HS.out, _, rfl⟩
          case measure => simp [intOf]; omega
        · have hne : ((a[k].toNat : Int) != (b[k].toNat : Int)) = true := by
            rw [bne_iff_ne]
            intro e
            exact he (u8_eq (by omega))
          have HE : Hid (cpL a.data.toList b.data.toList = k) := hid_ (cpL_is HA.out (by rw [ba_len]; omega) (by rw [ba_len]; omega) (.inr (.inr ⟨a[k], b[k], ba_get hka, ba_get hkb, he⟩)))
          clear he
          go_wp2_with fail
          go_quiet (fail)
          go_wp2_with fail
          go_ret
          refine ⟨by rw [HE.out]; rfl, ?_⟩
          first | exact ⟨_, rfl⟩ | exact ⟨_, drewN_drewN _ _ _⟩
      · obtain rfl : k = b.size := by omega
        have HE : Hid (cpL a.data.toList b.data.toList = b.size) := hid_ (cpL_is HA.out (by rw [ba_len]; omega) (by rw [ba_len]; omega) (by rw [ba_len, ba_len]; omega))
        go_wp2_with fail
        go_ret
        refine ⟨by rw [HE.out]; rfl, ?_⟩
        first | exact ⟨_, rfl⟩ | exact ⟨_, drewN_drewN _ _ _⟩
  · go_enter Tryd.func84, Tryd.ntmps84
    go_wp2
    go_loopw [5, 11] (fun n i wr => ∃ k : Nat, k ≤ a.size ∧ n = .int .i64 k ∧ i = .int .i64 k ∧ (∀ j, j < k → a.data.toList[j]? = b.data.toList[j]?) ∧ ∃ q, wr = w.drewN q) (fun _ i _ => a.size - (intOf i).toNat)
    case atStart => exact ⟨0, Nat.zero_le _, rfl, rfl, fun j hj => by omega, 0, rfl⟩
    case round =>
      obtain ⟨k, hk, rfl, rfl, hall, q, rfl⟩ := hrel
      have HA := hid_ hall
      clear hall
      by_cases hlt : k < a.size
      · have hka : k < a.size := by omega
        have hkb : k < b.size := by omega
        have hi0 : (0 : Int) ≤ (k : Int) := Int.natCast_nonneg _
        have hia : (k : Int) < (a.size : Int) := by omega
        have hib : (k : Int) < (b.size : Int) := by omega
        by_cases he : a[k] = b[k]
        · have hne : ((a[k].toNat : Int) != (b[k].toNat : Int)) = false := by rw [he]; simp
          have HS : Hid (∀ j, j < k + 1 → a.data.toList[j]? = b.data.toList[j]?) := hid_ (fun j hj => by
            rcases Nat.lt_succ_iff_lt_or_eq.1 hj with h | rfl
            · exact HA.out j h
            · rw [ba_get hka, ba_get hkb, he])
          clear he
          go_wp2_with fail
          go_quiet (fail)
          go_wp2_with fail
          go_roundw
          case rel => exact ⟨k + 1, by omega, by go_num, by go_num, HS.out, _, rfl⟩
          case measure => simp [intOf]; omega
        · have hne : ((a[k].toNat : Int) != (b[k].toNat : Int)) = true := by
            rw [bne_iff_ne]
            intro e
            exact he (u8_eq (by omega))
          have HE : Hid (cpL a.data.toList b.data.toList = k) := hid_ (cpL_is HA.out (by rw [ba_len]; omega) (by rw [ba_len]; omega) (.inr (.inr ⟨a[k], b[k], ba_get hka, ba_get hkb, he⟩)))
          clear he
          go_wp2_with fail
          go_quiet (fail)
          go_wp2_with fail
          go_ret
          refine ⟨by rw [HE.out]; rfl, ?_⟩
          first | exact ⟨_, rfl⟩ | exact ⟨_, drewN_drewN _ _ _⟩
      · obtain rfl : k = a.size := by omega
        have HE : Hid (cpL a.data.toList b.data.toList = a.size) := hid_ (cpL_is HA.out (by rw [ba_len]; omega) (by rw [ba_len]; omega) (by rw [ba_len, ba_len]; omega))
        go_wp2_with fail
        go_ret
        refine ⟨by rw [HE.out]; rfl, ?_⟩
        first | exact ⟨_, rfl⟩ | exact ⟨_, drewN_drewN _ _ _⟩

set_option maxHeartbeats 2000000 in
theorem compare_ok (a b : ByteArray) (w : World) (ha : a.size ≤ 9000000000000000000) (hb : b.size ≤ 9000000000000000000) :
    Calls Tryd.prog 76 #[.string a, .string b] w fun e w' => e = .returned (.int .i64 (cmpI a b)) ∧ ∃ n, w' = w.drewN n := by
  obtain ⟨n, hn⟩ : ∃ n, n = cpL a.data.toList b.data.toList := ⟨_, rfl⟩
  have hle := cpL_le a.data.toList b.data.toList
  rw [ba_len, ba_len, ← hn] at hle
  obtain ⟨hla, hlb⟩ := hle
  have HN := hid_ hn
  clear hn
  by_cases h1 : n = a.size
  · have hA : ((n : Int) == (a.size : Int)) = true := beq_iff_eq.2 (by omega)
    by_cases h2 : n = b.size
    · have hB : ((n : Int) == (b.size : Int)) = true := beq_iff_eq.2 (by omega)
      have he : a = b := ba_eq (eq_of_cp (by rw [ba_len, ← HN.out, h1]) (by rw [ba_len, ← HN.out, h2]))
      have HE : Hid (cmpI a b = 0) := hid_ (by rw [he]; exact cmp_eq b)
      clear h1 h2 he
      go_enter Tryd.func76, Tryd.ntmps76
      go_wp2_with fail
      refine (common_ok a b w ha hb).mono ?_
      rintro e w1 ⟨rfl, q, rfl⟩
      rw [← HN.out]
      go_wp2_with fail
      go_ret
      refine ⟨by rw [HE.out]; rfl, ?_⟩
      first | exact ⟨_, rfl⟩ | exact ⟨_, drewN_drewN _ _ _⟩
    · have hB : ((n : Int) == (b.size : Int)) = false := beq_eq_false_iff_ne.2 (by omega)
      have HE : Hid (cmpI a b = -1) := hid_ (cmp_lt (lt_of_end (by rw [ba_len, ← HN.out, h1]) (by rw [ba_len, ba_len]; omega)))
      clear h1 h2
      go_enter Tryd.func76, Tryd.ntmps76
      go_wp2_with fail
      refine (common_ok a b w ha hb).mono ?_
      rintro e w1 ⟨rfl, q, rfl⟩
      rw [← HN.out]
      go_wp2_with fail
      go_ret
      refine ⟨by rw [HE.out]; rfl, ?_⟩
      first | exact ⟨_, rfl⟩ | exact ⟨_, drewN_drewN _ _ _⟩
  · have hA : ((n : Int) == (a.size : Int)) = false := beq_eq_false_iff_ne.2 (by omega)
    by_cases h2 : n = b.size
    · have hB : ((n : Int) == (b.size : Int)) = true := beq_iff_eq.2 (by omega)
      have HE : Hid (cmpI a b = 1) := hid_ (cmp_gt (lt_of_end (by rw [cp_comm, ba_len, ← HN.out, h2]) (by rw [ba_len, ba_len]; omega)))
      clear h1 h2
      go_enter Tryd.func76, Tryd.ntmps76
      go_wp2_with fail
      refine (common_ok a b w ha hb).mono ?_
      rintro e w1 ⟨rfl, q, rfl⟩
      rw [← HN.out]
      go_wp2_with fail
      go_ret
      refine ⟨by rw [HE.out]; rfl, ?_⟩
      first | exact ⟨_, rfl⟩ | exact ⟨_, drewN_drewN _ _ _⟩
    · have hB : ((n : Int) == (b.size : Int)) = false := beq_eq_false_iff_ne.2 (by omega)
      have hka : n < a.size := by omega
      have hkb : n < b.size := by omega
      have hi0 : (0 : Int) ≤ (n : Int) := Int.natCast_nonneg _
      have hia : (n : Int) < (a.size : Int) := by omega
      have hib : (n : Int) < (b.size : Int) := by omega
      have ga : a.data.toList[cpL a.data.toList b.data.toList]? = some a[n] := by rw [← HN.out]; exact ba_get hka
      have gb : b.data.toList[cpL a.data.toList b.data.toList]? = some b[n] := by rw [← HN.out]; exact ba_get hkb
      have hst := cpL_stop ga gb
      by_cases h3 : a[n].toNat < b[n].toNat
      · have hC : decide (a[n].toNat < b[n].toNat) = true := decide_eq_true h3
        have HE : Hid (cmpI a b = -1) := hid_ (cmp_lt (lt_of_stop ga gb h3))
        clear h1 h2 h3 ga gb hst
        go_enter Tryd.func76, Tryd.ntmps76
        go_wp2_with fail
        refine (common_ok a b w ha hb).mono ?_
        rintro e w1 ⟨rfl, q, rfl⟩
        rw [← HN.out]
        go_wp2_with fail
        go_quiet (fail)
        go_wp2_with fail
        go_ret
        refine ⟨by rw [HE.out]; rfl, ?_⟩
        first | exact ⟨_, rfl⟩ | exact ⟨_, drewN_drewN _ _ _⟩
      · have hC : decide (a[n].toNat < b[n].toNat) = false := decide_eq_false h3
        have hgt : b[n].toNat < a[n].toNat := by
          rcases Nat.lt_trichotomy a[n].toNat b[n].toNat with h | h | h
          · exact absurd h h3
          · exact absurd (u8_eq h) hst
          · exact h
        rw [cp_comm] at ga gb
        have HE : Hid (cmpI a b = 1) := hid_ (cmp_gt (lt_of_stop gb ga hgt))
        clear h1 h2 h3 ga gb hst hgt
        go_enter Tryd.func76, Tryd.ntmps76
        go_wp2_with fail
        refine (common_ok a b w ha hb).mono ?_
        rintro e w1 ⟨rfl, q, rfl⟩
        rw [← HN.out]
        go_wp2_with fail
        go_quiet (fail)
        go_wp2_with fail
        go_ret
        refine ⟨by rw [HE.out]; rfl, ?_⟩
        first | exact ⟨_, rfl⟩ | exact ⟨_, drewN_drewN _ _ _⟩

set_option maxHeartbeats 2000000 in
theorem in_ok (low high : ByteArray) (unb : Bool) (key : ByteArray) (w : World) (h1 : low.size ≤ 9000000000000000000) (h2 : high.size ≤ 9000000000000000000) (h3 : key.size ≤ 9000000000000000000) :
    Calls Tryd.prog 70 #[.string low, .string high, .bool unb, .string key] w fun e w' => e = .returned (.bool (inS low high unb key)) ∧ ∃ n, w' = w.drewN n := by
  have ca := cmp_le low key
  have cb := cmp_neg key high
  cases ha : ltS key low with
  | true =>
    have hr : Hid (inS low high unb key = false) := hid_ (by simp [inS, ha])
    rw [ha] at ca
    have ca' : decide (cmpI low key ≤ 0) = false := ca
    clear ca cb ha
    go_enter Tryd.func70, Tryd.ntmps70
    go_wp2_with fail
    refine (compare_ok low key w h1 h3).mono ?_
    rintro e w1 ⟨rfl, q, rfl⟩
    go_wp2_with fail
    go_ret
    refine ⟨by rw [hr.out]; rfl, ?_⟩
    first | exact ⟨_, rfl⟩ | exact ⟨_, drewN_drewN _ _ _⟩
  | false =>
    rw [ha] at ca
    have ca' : decide (cmpI low key ≤ 0) = true := ca
    cases unb with
    | true =>
      have hr : Hid (inS low high true key = true) := hid_ (by simp [inS, ha])
      clear ca cb ha
      go_enter Tryd.func70, Tryd.ntmps70
      go_wp2_with fail
      refine (compare_ok low key w h1 h3).mono ?_
      rintro e w1 ⟨rfl, q, rfl⟩
      go_wp2_with fail
      go_ret
      refine ⟨by rw [hr.out]; rfl, ?_⟩
      first | exact ⟨_, rfl⟩ | exact ⟨_, drewN_drewN _ _ _⟩
    | false =>
      have hr : Hid (inS low high false key = ltS key high) := hid_ (by simp [inS, ha])
      have CB := hid_ cb
      clear ca cb ha
      go_enter Tryd.func70, Tryd.ntmps70
      go_wp2_with fail
      refine (compare_ok low key w h1 h3).mono ?_
      rintro e w1 ⟨rfl, q, rfl⟩
      go_wp2_with fail
      refine (compare_ok key high _ h3 h2).mono ?_
      rintro e w1 ⟨rfl, q2, rfl⟩
      go_wp2_with fail
      go_ret
      refine ⟨by rw [hr.out, ← CB.out]; rfl, ?_⟩
      first | exact ⟨_, rfl⟩ | exact ⟨_, drewN_drewN _ _ _⟩
end Go.Proofs.YtfihfjbakfadkaaDoor
namespace Go.Proofs.YtfihfjbakfadkaaDoor
open Go

/-- A world in which all that was there is as it was. -/
structure Wx (w : World) where
  v : World
  h : Fr none_ w v
instance Wx.some_ (w : World) : Nonempty (Wx w) := ⟨⟨w, Fr.refl _ _⟩⟩
def Wx.to {w : World} (x : Wx w) : World := x.v
theorem Wx.fr {w : World} (x : Wx w) : Fr none_ w x.to := x.h
theorem Wx.cell {w : World} (x : Wx w) {b o : Nat} {v : Value} (h : w.cell? ⟨b, o, none⟩ = some v) : x.to.cell? ⟨b, o, none⟩ = some v :=
  (World.cell?_of_block (x.h.block b (World.block_lt_of_cell? w _ h) id)).trans h
section
variable {P : Program} {w : World}
theorem wp_region_quiet_x {id : Nat} {Q : Exit → Act → World → Prop} {a : Act} {l : List Oper} (hm : P.follows .mixedOrders = true) (hB : Region.lexB .any l.toArray = true)
    (h : wpQuiet P l.toArray (fun w' => ∃ x : Wx w, w' = x.to) (fun a' => ∀ w', (∃ x : Wx w, w' = x.to) → Q .normal a' w') l a) : (Code.region id l.toArray true).wp P Q a w :=
  wp_region_quiet (C := fun w' => ∃ x : Wx w, w' = x.to) hm hB ⟨⟨_, (Fr.refl none_ w).drew⟩, rfl⟩ (by simpa using h)
theorem Calls.quiet_x {f : FuncId} {args : Array Value} {x : Wx w} {v : Value}
    (h : Calls P f args x.to fun e w' => e = .returned v ∧ Fr none_ x.to w') : Calls P f args x.to fun e w'' => e = .returned v ∧ ∃ y : Wx w, w'' = y.to :=
  h.mono fun _ w' ⟨he, hf⟩ => ⟨he, ⟨w', x.h.then_none hf⟩, rfl⟩
end
end Go.Proofs.YtfihfjbakfadkaaDoor
namespace Go.Proofs.YtfihfjbakfadkaaDoor
open Go.RowKit Go.BigFrame
set_option maxRecDepth 100000
set_option linter.unusedVariables false

structure Vw where
  low : ByteArray
  high : ByteArray
  unb : Bool
  right : Int
  ents : List Et
  held : Bool
  hp : Int
  hl : Int
  hk : ByteArray
def Vw.zero : Vw := ⟨nilS, nilS, false, 0, [], false, 0, 0, nilS⟩
abbrev vwA (V : Vw) (ve : Value) : Array Value := #[.string V.low, .string V.high, .bool V.unb, .int .i64 V.right, ve, .bool V.held, .int .i64 V.hp, .int .i64 V.hl, .string V.hk]
abbrev vwV (V : Vw) (ve : Value) : Value := .agg (vwA V ve)
def SzOk (s : ByteArray) : Prop := s.size ≤ 9000000000000000000
theorem SzOk.le {s : ByteArray} (h : SzOk s) : s.size ≤ 9000000000000000000 := h
theorem SzOk.nil : SzOk nilS := by unfold SzOk; decide
def EtsOk (L : List Et) : Prop := L.length ≤ 1000 ∧ ∀ p ∈ L, SzOk p.1
structure Vw.Ok (V : Vw) : Prop where
  low : SzOk V.low
  high : SzOk V.high
  hk : SzOk V.hk
  ents : EtsOk V.ents
/-- A view's entries lie where its slice says. -/
structure VwIn (w : World) (V : Vw) (A : Option Addr) (c : Nat) : Prop where
  rd : Reads w 2 A V.ents.length (etFlat V.ents)
  cap : V.ents.length ≤ c
  capm : c ≤ maxLen
  ok : V.Ok
theorem VwIn.keep {w w' : World} {V : Vw} {A : Option Addr} {c : Nat} (h : VwIn w V A c) (hf : Fr none_ w w') : VwIn w' V A c := ⟨h.rd.none_fr hf, h.cap, h.capm, h.ok⟩

/-- How many entries stand ahead of a key. -/
def plN : List Et → ByteArray → Nat
  | [], _ => 0
  | p :: t, key => if ltS p.1 key = true then plN t key + 1 else 0
theorem plN_le : ∀ (L : List Et) (key : ByteArray), plN L key ≤ L.length
  | [], _ => Nat.le_refl _
  | p :: t, key => by
    have := plN_le t key
    rw [plN]
    split <;> simp <;> omega
theorem plN_in : ∀ {L : List Et} {key : ByteArray} {i : Nat} {p : Et}, i < plN L key → L[i]? = some p → ltS p.1 key = true
  | [], _, i, p, h, _ => by simp [plN] at h
  | q :: t, key, i, p, h, hp => by
    rw [plN] at h
    split at h
    · cases i with
      | zero =>
        obtain rfl : q = p := by simpa using hp
        assumption
      | succ i => exact plN_in (L := t) (i := i) (by omega) (by simpa using hp)
    · omega
theorem plN_at : ∀ {L : List Et} {key : ByteArray} {p : Et}, L[plN L key]? = some p → ltS p.1 key = false
  | [], _, p, h => by simp at h
  | q :: t, key, p, h => by
    rw [plN] at h
    split at h
    · exact plN_at (L := t) (by simpa using h)
    · obtain rfl : q = p := by simpa using h
      rename_i h1
      simpa using h1
def atB (L : List Et) (key : ByteArray) : Bool :=
  match L[plN L key]? with
  | some p => sEq p.1 key
  | none => false
theorem atB_some {L : List Et} {key : ByteArray} {p : Et} (h : L[plN L key]? = some p) : atB L key = sEq p.1 key := by simp [atB, h]
theorem atB_none {L : List Et} {key : ByteArray} (h : plN L key = L.length) : atB L key = false := by simp [atB, h]

set_option maxHeartbeats 4000000 in
theorem place_ok (V : Vw) (A : Option Addr) (c : Nat) (key : ByteArray) (w : World) (h : VwIn w V A c) (hk : SzOk key) :
    Calls Tryd.prog 94 #[vwV V (.slice A V.ents.length c), .string key] w fun e w' => e = .returned (.tuple #[.int .i64 (plN V.ents key : Nat), .bool (atB V.ents key)]) ∧ Fr none_ w w' := by
  obtain ⟨w0, hw0⟩ : ∃ w0, w0 = w.alloc (.cells (vwA V (.slice A V.ents.length c)) 81) := ⟨_, rfl⟩
  have f0 : Fr none_ w w0 := by rw [hw0]; exact (Fr.refl none_ w).alloc _
  have F0 := hid_ f0
  have H0 := hid_ (h.keep f0)
  have B0 : Hid (Blk w0 w.heap.size 81 (vwA V (.slice A V.ents.length c))) := hid_ (by rw [hw0]; exact Blk.new w _ _)
  have hle := plN_le V.ents key
  have h1000 := h.ok.ents.1
  have HSZ := hid_ (And.intro h.ok.ents.2 hk)
  clear h f0 hk
  go_enter Tryd.func94, Tryd.ntmps94
  go_wp2_with fail
  change Code.wp _ _ _ _ (w.alloc (.cells (vwA V (.slice A V.ents.length c)) 81))
  rw [← hw0]
  clear hw0
  go_loopw [6] (fun i wr => ∃ k : Nat, k ≤ plN V.ents key ∧ i = .int .i64 k ∧ Fr none_ w0 wr) (fun i _ => plN V.ents key - (intOf i).toNat)
  case atStart => exact ⟨0, Nat.zero_le _, rfl, Fr.refl _ _⟩
  case round =>
    obtain ⟨k, hk, rfl, hF⟩ := hrel
    have B := hid_ (B0.out.fr hF id)
    have H := hid_ (H0.out.keep hF)
    have F := hid_ hF
    clear hF
    have v4 : wr.cell? ⟨w.heap.size, 4, none⟩ = some (.slice A V.ents.length c) := B.out.cell' rfl
    have hi0 : (0 : Int) ≤ (k : Int) := Int.natCast_nonneg _
    by_cases hlt : k < plN V.ents key
    · have hkl : k < V.ents.length := by omega
      have hi1 : (k : Int) < (V.ents.length : Int) := by omega
      have hd1 : decide ((k : Int) < (V.ents.length : Int)) = true := by simp; omega
      obtain ⟨p, hp⟩ : ∃ p, V.ents[k]? = some p := ⟨_, List.getElem?_eq_getElem hkl⟩
      obtain ⟨b, off, rfl, hb, c0, c1⟩ := et_at H.out.rd hp
      have hcmp : decide (cmpI p.1 key < 0) = true := by rw [cmp_neg]; exact plN_in hlt hp
      have hsz := HSZ.out.1 p (List.mem_of_getElem? hp)
      have HCMP := hid_ hcmp
      clear hp hcmp c1
      go_wp2_with fail
      refine (compare_ok p.1 key _ hsz.le HSZ.out.2.le).mono ?_
      rintro e w1 ⟨rfl, q, rfl⟩
      have hcmp := HCMP.out
      have FQ := hid_ (F.out.drewN q)
      clear v4 c0
      go_wp2_with fail
      go_roundw
      case rel => exact ⟨k + 1, by omega, by go_num, FQ.out⟩
      case measure => simp [intOf]; omega
    · obtain rfl : k = plN V.ents key := by omega
      by_cases hl : plN V.ents key < V.ents.length
      · obtain ⟨p, hp⟩ : ∃ p, V.ents[plN V.ents key]? = some p := ⟨_, List.getElem?_eq_getElem hl⟩
        obtain ⟨b, off, rfl, hb, c0, c1⟩ := et_at H.out.rd hp
        have hcmp : decide (cmpI p.1 key < 0) = false := by rw [cmp_neg]; exact plN_at hp
        have hsz := HSZ.out.1 p (List.mem_of_getElem? hp)
        have hat := atB_some hp
        obtain ⟨n, hn⟩ : ∃ n, n = plN V.ents key := ⟨_, rfl⟩
        have hi1 : (n : Int) < (V.ents.length : Int) := by omega
        have hd1 : decide ((n : Int) < (V.ents.length : Int)) = true := by simp; omega
        have hd2 : decide (n < V.ents.length) = true := by simp; omega
        rw [← hn] at c0 c1 hi0
        rw [← hn]
        have HCMP := hid_ hcmp
        have HAT := hid_ hat
        have HN := hid_ hn
        clear hp hcmp c1 hl hlt hat hn hk hle
        go_wp2_with fail
        refine (compare_ok p.1 key _ hsz.le HSZ.out.2.le).mono ?_
        rintro e w1 ⟨rfl, q, rfl⟩
        have hcmp := HCMP.out
        have FQ := hid_ (F.out.drewN q)
        go_wp2_with fail
        go_quiet (fail)
        go_wp2_with fail
        go_ret2
        exact ⟨by rw [HAT.out, ← HN.out]; rfl, F0.out.then_none (by repeat (first | exact FQ.out | apply Fr.drewN | apply Fr.drew))⟩
      · have he : plN V.ents key = V.ents.length := by omega
        have hat := atB_none he
        have HAT := hid_ hat
        have HE := hid_ he
        have hd1 : decide ((V.ents.length : Int) < (V.ents.length : Int)) = false := by simp
        rw [he]
        clear he hat hl hlt hk hle
        go_wp2_with fail
        go_quiet (fail)
        go_wp2_with fail
        go_ret2
        exact ⟨by rw [HAT.out, HE.out]; rfl, F0.out.then_none (by repeat (first | exact F.out | apply Fr.drewN | apply Fr.drew))⟩

theorem vin_ok (V : Vw) (ve : Value) (key : ByteArray) (w : World) (h1 : SzOk V.low) (h2 : SzOk V.high) (h3 : SzOk key) :
    Calls Tryd.prog 93 #[vwV V ve, .string key] w fun e w' => e = .returned (.bool (inS V.low V.high V.unb key)) ∧ Fr none_ w w' := by
  have F0 := hid_ ((Fr.refl none_ w).alloc (.cells (vwA V ve) 81))
  have H := hid_ (And.intro h1 (And.intro h2 h3))
  clear h1 h2 h3
  go_enter Tryd.func93, Tryd.ntmps93
  go_wp2_with fail
  refine (in_ok V.low V.high V.unb key _ H.out.1.le H.out.2.1.le H.out.2.2.le).mono ?_
  rintro e w1 ⟨rfl, q, rfl⟩
  go_wp2
  go_ret
  exact ⟨rfl, F0.out.drewN q⟩
/-- What sound says of a view. -/
structure Sound (V : Vw) : Prop where
  head : ∃ p, V.ents[0]? = some p ∧ p.1 = V.low
  high : V.unb = true → V.high = nilS
  inn : ∀ p ∈ V.ents, inS V.low V.high V.unb p.1 = true
  ris : ∀ (i : Nat) (p q : Et), V.ents[i]? = some p → V.ents[i + 1]? = some q → ltS p.1 q.1 = true
def SoundTo (V : Vw) (k : Nat) : Prop := (∀ (j : Nat) (p : Et), j < k → V.ents[j]? = some p → inS V.low V.high V.unb p.1 = true) ∧ ∀ (j : Nat) (p q : Et), j + 1 < k → V.ents[j]? = some p → V.ents[j + 1]? = some q → ltS p.1 q.1 = true
def SoundPost (V : Vw) (w : World) (e : Ending) (w' : World) : Prop := ∃ b : Bool, e = .returned (.bool b) ∧ (b = true ↔ Sound V) ∧ Fr none_ w w'
set_option maxHeartbeats 4000000 in
theorem sound_ok (V : Vw) (A : Option Addr) (c : Nat) (w : World) (h : VwIn w V A c) :
    Calls Tryd.prog 82 #[vwV V (.slice A V.ents.length c)] w (SoundPost V w) := by
  obtain ⟨w0, hw0⟩ : ∃ w0, w0 = w.alloc (.cells (vwA V (.slice A V.ents.length c)) 81) := ⟨_, rfl⟩
  have f0 : Fr none_ w w0 := by rw [hw0]; exact (Fr.refl none_ w).alloc _
  have F0 := hid_ f0
  have H0 := hid_ (h.keep f0)
  have B0 : Hid (Blk w0 w.heap.size 81 (vwA V (.slice A V.ents.length c))) := hid_ (by rw [hw0]; exact Blk.new w _ _)
  have h1000 := h.ok.ents.1
  have OK := hid_ h.ok
  have v0 : w0.cell? ⟨w.heap.size, 0, none⟩ = some (.string V.low) := B0.out.cell' rfl
  have v1 : w0.cell? ⟨w.heap.size, 1, none⟩ = some (.string V.high) := B0.out.cell' rfl
  have v2 : w0.cell? ⟨w.heap.size, 2, none⟩ = some (.bool V.unb) := B0.out.cell' rfl
  have v4 : w0.cell? ⟨w.heap.size, 4, none⟩ = some (.slice A V.ents.length c) := B0.out.cell' rfl
  clear h f0
  by_cases hl0 : V.ents.length = 0
  · have hne : ¬ Sound V := fun h => by
      obtain ⟨p, hp, _⟩ := h.head
      rw [List.getElem?_eq_none (by omega)] at hp
      cases hp
    have HNE := hid_ hne
    rw [hl0] at v4 hw0
    rw [hl0]
    clear hl0 hne
    go_enter Tryd.func82, Tryd.ntmps82
    go_wp2_with fail
    change Code.wp _ _ _ _ (w.alloc (.cells (vwA V (.slice A 0 c)) 81))
    rw [← hw0]
    clear hw0
    go_quiet (fail)
    go_wp2_with fail
    go_ret
    exact ⟨false, rfl, ⟨(fun h => by cases h), fun h => absurd h HNE.out⟩, F0.out.drewN _⟩
  obtain ⟨p0, hp0⟩ : ∃ p, V.ents[0]? = some p := ⟨_, List.getElem?_eq_getElem (by omega)⟩
  obtain ⟨b, off, rfl, hb, c0, c1⟩ := et_at H0.out.rd hp0
  have hd0 : decide ((0 : Int) < (V.ents.length : Int)) = true := by simp; omega
  have hd0' : ((V.ents.length : Int) == 0) = false := beq_eq_false_iff_ne.2 (by omega)
  have hi1 : (0 : Int) < (V.ents.length : Int) := by omega
  simp only [Nat.zero_mul, Nat.add_zero] at c0
  have HP0 := hid_ hp0
  have HL0 := hid_ hl0
  clear hp0 c1 hl0
  by_cases hlow : p0.1 = V.low
  case neg =>
    have hne : ¬ Sound V := fun h => by
      obtain ⟨p, hp, e⟩ := h.head
      rw [HP0.out] at hp
      cases hp
      exact hlow e
    have HNE := hid_ hne
    have hs1 := sEq_ne hlow
    unfold sEq at hs1
    have hs2 : (p0.1.toList != V.low.toList) = true := by simpa [bne] using hs1
    clear hne hlow
    go_enter Tryd.func82, Tryd.ntmps82
    go_wp2_with fail
    change Code.wp _ _ _ _ (w.alloc (.cells (vwA V (.slice (some ⟨b, off, none⟩) V.ents.length c)) 81))
    rw [← hw0]
    clear hw0
    go_quiet (fail)
    go_wp2_with fail
    go_ret
    exact ⟨false, rfl, ⟨(fun h => by cases h), fun h => absurd h HNE.out⟩, F0.out.drewN _⟩
  have hs1 : (p0.1.toList == V.low.toList) = true := sEq_iff.2 hlow
  have hs2 : (p0.1.toList != V.low.toList) = false := by simpa [bne] using hs1
  have HLOW := hid_ hlow
  clear hlow
  by_cases hhi : V.unb = true ∧ V.high ≠ nilS
  · have hne : ¬ Sound V := fun h => hhi.2 (h.high hhi.1)
    have HNE := hid_ hne
    rw [hhi.1] at v2
    have hh : V.high.toList.isEmpty = false := by
      cases e : V.high.toList.isEmpty with
      | false => rfl
      | true => exact absurd (ba_eq (by rw [← ba_toList, List.isEmpty_iff.1 e])) hhi.2
    have hh2 : (!V.high.toList.isEmpty) = true := by rw [hh]; rfl
    clear hne hhi
    go_enter Tryd.func82, Tryd.ntmps82
    go_wp2_with fail
    change Code.wp _ _ _ _ (w.alloc (.cells (vwA V (.slice (some ⟨b, off, none⟩) V.ents.length c)) 81))
    rw [← hw0]
    clear hw0
    go_quiet (fail)
    go_wp2_with fail
    go_ret
    exact ⟨false, rfl, ⟨(fun h => by cases h), fun h => absurd h HNE.out⟩, F0.out.drewN _⟩
  have HHI : Hid (V.unb = true → V.high = nilS) := hid_ (fun hu => Classical.byContradiction fun hn => hhi ⟨hu, hn⟩)
  clear hhi
  go_enter Tryd.func82, Tryd.ntmps82
  go_upto_region 1 with fail
  change Code.wp _ _ _ _ (w.alloc (.cells (vwA V (.slice (some ⟨b, off, none⟩) V.ents.length c)) 81))
  rw [← hw0]
  clear hw0
  go_cut [27] (fun v wq => v = .bool false ∧ Fr none_ w0 wq)
  case first =>
    cases hu : V.unb with
    | false =>
      rw [hu] at v2
      clear hu
      go_quiet (fail)
      go_wp2
      go_meet
      case rel => exact ⟨rfl, (Fr.refl none_ w0).drewN _⟩
    | true =>
      have hh := HHI.out hu
      rw [hu] at v2
      rw [hh] at v1
      clear hu hh
      go_quiet (fail)
      go_wp2
      go_meet
      case rel => exact ⟨rfl, (Fr.refl none_ w0).drewN _⟩
  case rest =>
  obtain ⟨rfl, hf⟩ := hcut
  have B1 := hid_ (B0.out.fr hf id)
  have F1 := hid_ (F0.out.then_none hf)
  have H1 := hid_ (H0.out.keep hf)
  clear hf v0 v1 v2 v4 c0 hs1 hs2 hd0 hd0'
  have v4 : wc.cell? ⟨w.heap.size, 4, none⟩ = some (.slice (some ⟨b, off, none⟩) V.ents.length c) := B1.out.cell' rfl
  go_wp2_with fail
  clear v4 F0 H0 B0
  go_loopw [31] (fun i wr => ∃ k : Nat, k ≤ V.ents.length ∧ i = .int .i64 k ∧ SoundTo V k ∧ Fr none_ wc wr) (fun i _ => V.ents.length - (intOf i).toNat)
  case atStart => exact ⟨0, Nat.zero_le _, rfl, ⟨fun j p hj => by omega, fun j p q hj => by omega⟩, Fr.refl _ _⟩
  case round =>
    obtain ⟨k, hk, rfl, hst, hF⟩ := hrel
    have ST := hid_ hst
    have B := hid_ (B1.out.fr hF id)
    have H := hid_ (H1.out.keep hF)
    have F := hid_ (F1.out.then_none hF)
    have FC := hid_ hF
    clear hst hF
    have hi0 : (0 : Int) ≤ (k : Int) := Int.natCast_nonneg _
    by_cases hlt : k < V.ents.length
    · have hi1' : (k : Int) < (V.ents.length : Int) := by omega
      obtain ⟨p, hp⟩ : ∃ p, V.ents[k]? = some p := ⟨_, List.getElem?_eq_getElem hlt⟩
      obtain ⟨b2, off2, hA, hb2, c0, c1⟩ := et_at H.out.rd hp
      obtain ⟨rfl, rfl⟩ : b = b2 ∧ off = off2 := by injection hA with hA; injection hA with e1 e2; exact ⟨e1, e2⟩
      have HP := hid_ hp
      clear hp hA
      go_upto_region 6 with fail
      obtain ⟨X, hX⟩ : ∃ X, X = wr.heap.size := ⟨_, rfl⟩
      obtain ⟨w2, hw2⟩ : ∃ w2, w2 = wr.alloc (.cells #[.string p.1, .int .i64 p.2] 139) := ⟨_, rfl⟩
      have f2 : Fr none_ wr w2 := by rw [hw2]; exact (Fr.refl none_ wr).alloc _
      have BX : Hid (Blk w2 X 139 #[.string p.1, .int .i64 p.2]) := hid_ (by rw [hw2, hX]; exact Blk.new wr _ _)
      have B2 := hid_ (B.out.fr f2 id)
      have H2 := hid_ (H.out.keep f2)
      have F2 := hid_ (FC.out.then_none f2)
      rw [← hX]
      change Code.wp _ _ _ _ (wr.alloc (.cells #[.string p.1, .int .i64 p.2] 139))
      rw [← hw2]
      clear hw2 hX f2 c0 c1
      have hpk := OK.out.ents.2 p (List.mem_of_getElem? HP.out)
      have HPK := hid_ hpk
      clear hpk
      go_cut [57] (fun v wq => ∃ bb : Bool, v = .bool bb ∧ (bb = false ↔ (inS V.low V.high V.unb p.1 = true ∧ ∀ q, 0 < k → V.ents[k - 1]? = some q → ltS q.1 p.1 = true)) ∧ Fr none_ w2 wq)
      case first =>
        have v0 : w2.cell? ⟨w.heap.size, 0, none⟩ = some (.string V.low) := B2.out.cell' rfl
        have v1 : w2.cell? ⟨w.heap.size, 1, none⟩ = some (.string V.high) := B2.out.cell' rfl
        have v2 : w2.cell? ⟨w.heap.size, 2, none⟩ = some (.bool V.unb) := B2.out.cell' rfl
        have v3 : w2.cell? ⟨w.heap.size, 3, none⟩ = some (.int .i64 V.right) := B2.out.cell' rfl
        have v4 : w2.cell? ⟨w.heap.size, 4, none⟩ = some (.slice (some ⟨b, off, none⟩) V.ents.length c) := B2.out.cell' rfl
        have v5 : w2.cell? ⟨w.heap.size, 5, none⟩ = some (.bool V.held) := B2.out.cell' rfl
        have v6 : w2.cell? ⟨w.heap.size, 6, none⟩ = some (.int .i64 V.hp) := B2.out.cell' rfl
        have v7 : w2.cell? ⟨w.heap.size, 7, none⟩ = some (.int .i64 V.hl) := B2.out.cell' rfl
        have v8 : w2.cell? ⟨w.heap.size, 8, none⟩ = some (.string V.hk) := B2.out.cell' rfl
        have x0 : w2.cell? ⟨X, 0, none⟩ = some (.string p.1) := BX.out.cell' rfl
        have y0 : ∀ x : Wx w2, x.to.cell? ⟨w.heap.size, 0, none⟩ = some (.string V.low) := fun x => x.cell v0
        have y1 : ∀ x : Wx w2, x.to.cell? ⟨w.heap.size, 1, none⟩ = some (.string V.high) := fun x => x.cell v1
        have y2 : ∀ x : Wx w2, x.to.cell? ⟨w.heap.size, 2, none⟩ = some (.bool V.unb) := fun x => x.cell v2
        have y3 : ∀ x : Wx w2, x.to.cell? ⟨w.heap.size, 3, none⟩ = some (.int .i64 V.right) := fun x => x.cell v3
        have y4 : ∀ x : Wx w2, x.to.cell? ⟨w.heap.size, 4, none⟩ = some (.slice (some ⟨b, off, none⟩) V.ents.length c) := fun x => x.cell v4
        have y5 : ∀ x : Wx w2, x.to.cell? ⟨w.heap.size, 5, none⟩ = some (.bool V.held) := fun x => x.cell v5
        have y6 : ∀ x : Wx w2, x.to.cell? ⟨w.heap.size, 6, none⟩ = some (.int .i64 V.hp) := fun x => x.cell v6
        have y7 : ∀ x : Wx w2, x.to.cell? ⟨w.heap.size, 7, none⟩ = some (.int .i64 V.hl) := fun x => x.cell v7
        have y8 : ∀ x : Wx w2, x.to.cell? ⟨w.heap.size, 8, none⟩ = some (.string V.hk) := fun x => x.cell v8
        have z0 : ∀ x : Wx w2, x.to.cell? ⟨X, 0, none⟩ = some (.string p.1) := fun x => x.cell x0
        clear v0 v1 v2 v3 v4 v5 v6 v7 v8 x0
        cases hin : inS V.low V.high V.unb p.1 with
        | false =>
          have HC : Hid (∀ x : Wx w2, Calls Tryd.prog 93 #[vwV V (.slice (some ⟨b, off, none⟩) V.ents.length c), .string p.1] x.to fun e w' => e = .returned (.bool false) ∧ Fr none_ x.to w') := hid_ (fun x => by
            have h := vin_ok V (.slice (some ⟨b, off, none⟩) V.ents.length c) p.1 x.to OK.out.low OK.out.high HPK.out
            rwa [hin] at h)
          have HIN := hid_ hin
          clear hin
          refine wp_region_quiet_x (by kernel_rfl) (by kernel_rfl) ?_
          repeat (first | go_big_quiet_step ((go_at_call 93; exact Calls.quiet_x (HC.out _))) | quiet_step ((go_at_call 93; exact Calls.quiet_x (HC.out _))))
          refine wpQuiet_nil ?_
          intro _ hw'
          obtain ⟨xq, hw''⟩ := hw'
          subst hw''
          go_wp2
          go_meet
          case rel => exact ⟨true, rfl, ⟨(fun h => by cases h), fun h => by rw [HIN.out] at h; cases h.1⟩, xq.fr⟩
        | true =>
          have HC : Hid (∀ x : Wx w2, Calls Tryd.prog 93 #[vwV V (.slice (some ⟨b, off, none⟩) V.ents.length c), .string p.1] x.to fun e w' => e = .returned (.bool true) ∧ Fr none_ x.to w') := hid_ (fun x => by
            have h := vin_ok V (.slice (some ⟨b, off, none⟩) V.ents.length c) p.1 x.to OK.out.low OK.out.high HPK.out
            rwa [hin] at h)
          have HIN := hid_ hin
          clear hin
          by_cases hk0 : 0 < k
          · obtain ⟨q, hq⟩ : ∃ q, V.ents[k - 1]? = some q := ⟨_, List.getElem?_eq_getElem (by omega)⟩
            obtain ⟨b3, off3, hA, hb3, d0, d1⟩ := et_at H2.out.rd hq
            obtain ⟨rfl, rfl⟩ : b = b3 ∧ off = off3 := by injection hA with hA; injection hA with e1 e2; exact ⟨e1, e2⟩
            have e0 : ∀ x : Wx w2, x.to.cell? ⟨b, off + (k - 1) * 2, none⟩ = some (.string q.1) := fun x => x.cell d0
            have hqk := OK.out.ents.2 q (List.mem_of_getElem? hq)
            have HQK := hid_ hqk
            have HQ := hid_ hq
            have HQ' : Hid ((∀ q', 0 < k → V.ents[k - 1]? = some q' → ltS q'.1 p.1 = true) ↔ ltS q.1 p.1 = true) := hid_ ⟨fun h => h q hk0 hq, fun h q' _ hq' => by rw [hq] at hq'; cases hq'; exact h⟩
            have HC2 : Hid (∀ x : Wx w2, Calls Tryd.prog 76 #[.string q.1, .string p.1] x.to fun e w' => e = .returned (.int .i64 (cmpI q.1 p.1)) ∧ Fr none_ x.to w') := hid_ (fun x => (compare_ok q.1 p.1 x.to HQK.out.le HPK.out.le).mono (by rintro e w' ⟨rfl, n, rfl⟩; exact ⟨rfl, (Fr.refl none_ _).drewN n⟩))
            have hw1 : IntKind.i64.wrap ((k : Int) - 1) = ((k - 1 : Nat) : Int) := by rw [show (k : Int) - 1 = ((k - 1 : Nat) : Int) by omega]; exact IntWalk.i64_in _ (by omega)
            have hdk : decide (0 < k) = true := decide_eq_true hk0
            have hj0 : (0 : Int) ≤ ((k - 1 : Nat) : Int) := Int.natCast_nonneg _
            have hj1 : ((k - 1 : Nat) : Int) < (V.ents.length : Int) := by omega
            obtain ⟨j, hj⟩ : ∃ j, j = k - 1 := ⟨_, rfl⟩
            rw [← hj] at e0 hw1 hj0 hj1
            have HJ := hid_ hj
            have hge := cmp_ge q.1 p.1
            have HGE := hid_ hge
            clear hq hA d0 d1 hqk hj hge hk0
            refine wp_region_quiet_x (by kernel_rfl) (by kernel_rfl) ?_
            repeat (first | go_big_quiet_step ((first | (go_at_call 93; exact Calls.quiet_x (HC.out _)) | (go_at_call 76; exact Calls.quiet_x (HC2.out _)))) | quiet_step ((first | (go_at_call 93; exact Calls.quiet_x (HC.out _)) | (go_at_call 76; exact Calls.quiet_x (HC2.out _)))))
            refine wpQuiet_nil ?_
            intro _ hw'
            obtain ⟨xq, hw''⟩ := hw'
            subst hw''
            go_wp2
            go_meet
            case rel => exact ⟨_, rfl, by
              rw [HGE.out, HIN.out, HQ'.out]
              cases ltS q.1 p.1 <;> simp, xq.fr⟩
          · have hdk : decide (0 < k) = false := decide_eq_false hk0
            have hk0' : k = 0 := by omega
            have HK0 := hid_ hk0'
            clear hk0 hk0'
            refine wp_region_quiet_x (by kernel_rfl) (by kernel_rfl) ?_
            repeat (first | go_big_quiet_step ((go_at_call 93; exact Calls.quiet_x (HC.out _))) | quiet_step ((go_at_call 93; exact Calls.quiet_x (HC.out _))))
            refine wpQuiet_nil ?_
            intro _ hw'
            obtain ⟨xq, hw''⟩ := hw'
            subst hw''
            go_wp2
            go_meet
            case rel => exact ⟨false, rfl, ⟨fun _ => ⟨HIN.out, fun q h => by have := HK0.out; omega⟩, fun _ => rfl⟩, xq.fr⟩
      case rest =>
      obtain ⟨bb, rfl, hbb, hf⟩ := hcut
      have F3 := hid_ (F2.out.then_none hf)
      have HB := hid_ hbb
      clear hf hbb B2 H2 BX F2
      cases bb with
      | true =>
        have hns : ¬ Sound V := fun hS => by
          have h := HB.out.2 ⟨hS.inn p (List.mem_of_getElem? HP.out), fun q h0 hq => hS.ris (k - 1) q p hq (by rw [show k - 1 + 1 = k by omega]; exact HP.out)⟩
          cases h
        have HNS := hid_ hns
        clear hns
        go_wp2_with fail
        go_ret
        exact ⟨false, rfl, ⟨(fun h => by cases h), fun h => absurd h HNS.out⟩, F1.out.then_none F3.out⟩
      | false =>
        have hst : SoundTo V (k + 1) := by
          have h := HB.out.1 rfl
          refine ⟨fun j p' hj hp' => ?_, fun j p' q hj hp' hq => ?_⟩
          · rcases Nat.lt_succ_iff_lt_or_eq.1 hj with hj | rfl
            · exact ST.out.1 j p' hj hp'
            · rw [HP.out] at hp'; cases hp'; exact h.1
          · rcases Nat.lt_succ_iff_lt_or_eq.1 hj with hj | hj
            · exact ST.out.2 j p' q hj hp' hq
            · rw [hj, HP.out] at hq
              cases hq
              exact h.2 p' (by omega) (by rw [show k - 1 = j by omega]; exact hp')
        have HST := hid_ hst
        clear hst
        go_wp2_with fail
        go_roundw
        case rel => exact ⟨k + 1, by omega, by go_num, HST.out, F3.out⟩
        case measure => simp [intOf]; omega
    · obtain rfl : k = V.ents.length := by omega
      have hS : Sound V := ⟨⟨p0, HP0.out, HLOW.out⟩, HHI.out, fun p hp => by obtain ⟨j, hj, e⟩ := List.mem_iff_getElem.1 hp; exact ST.out.1 j p hj (by rw [List.getElem?_eq_getElem hj, e]), fun j p q hp hq => ST.out.2 j p q (List.getElem?_eq_some_iff.1 hq).1 hp hq⟩
      have HS := hid_ hS
      clear hS
      go_wp2_with fail
      go_ret
      exact ⟨true, rfl, ⟨fun _ => HS.out, fun _ => rfl⟩, F.out⟩
end Go.Proofs.YtfihfjbakfadkaaDoor
namespace Go.Proofs.YtfihfjbakfadkaaDoor
open Go.RowKit Go.BigFrame
set_option maxRecDepth 100000
set_option linter.unusedVariables false

theorem box9 {w1 : World} {b : Nat} {t : TypeId} {c0 c1 c2 c3 c4 c5 c6 c7 c8 : Value} (h : Blk w1 b t #[c0, c1, c2, c3, c4, c5, c6, c7, c8]) (x0 x1 x2 x3 x4 x5 x6 x7 x8 : Value) :
    Blk (((((((((w1.setCell ⟨b, 0, none⟩ x0).setCell ⟨b, 1, none⟩ x1).setCell ⟨b, 2, none⟩ x2).setCell ⟨b, 3, none⟩ x3).setCell ⟨b, 4, none⟩ x4).setCell ⟨b, 5, none⟩ x5).setCell ⟨b, 6, none⟩ x6).setCell ⟨b, 7, none⟩ x7).setCell ⟨b, 8, none⟩ x8) b t #[x0, x1, x2, x3, x4, x5, x6, x7, x8] ∧ Fr (only b) w1 (((((((((w1.setCell ⟨b, 0, none⟩ x0).setCell ⟨b, 1, none⟩ x1).setCell ⟨b, 2, none⟩ x2).setCell ⟨b, 3, none⟩ x3).setCell ⟨b, 4, none⟩ x4).setCell ⟨b, 5, none⟩ x5).setCell ⟨b, 6, none⟩ x6).setCell ⟨b, 7, none⟩ x7).setCell ⟨b, 8, none⟩ x8) := by
  refine ⟨?_, (((((((((Fr.refl (only b) w1).setCell (p := ⟨b, 0, none⟩) (.inl (Eq.refl _)) x0).setCell (p := ⟨b, 1, none⟩) (.inl (Eq.refl _)) x1).setCell (p := ⟨b, 2, none⟩) (.inl (Eq.refl _)) x2).setCell (p := ⟨b, 3, none⟩) (.inl (Eq.refl _)) x3).setCell (p := ⟨b, 4, none⟩) (.inl (Eq.refl _)) x4).setCell (p := ⟨b, 5, none⟩) (.inl (Eq.refl _)) x5).setCell (p := ⟨b, 6, none⟩) (.inl (Eq.refl _)) x6).setCell (p := ⟨b, 7, none⟩) (.inl (Eq.refl _)) x7).setCell (p := ⟨b, 8, none⟩) (.inl (Eq.refl _)) x8⟩
  have e := (((((((((h.set_ 0 x0).set_ 1 x1).set_ 2 x2).set_ 3 x3).set_ 4 x4).set_ 5 x5).set_ 6 x6).set_ 7 x7).set_ 8 x8)
  simp only [List.setIfInBounds_toArray, List.set_cons_zero, List.set_cons_succ] at e
  exact e

abbrev Pt := Option Addr × Nat × List Et
abbrev ptV (x : Pt) : Value := .slice x.1 x.2.2.length x.2.1
def ptL (ps : List Pt) : List Et := (ps.map (·.2.2)).flatten
theorem etFlat_app (L M : List Et) : etFlat (L ++ M) = etFlat L ++ etFlat M := by simp [etFlat]
theorem etFlat_take : ∀ (L : List Et) (n : Nat), etFlat (L.take n) = (etFlat L).take (n * 2)
  | [], n => by simp [etFlat]
  | p :: t, 0 => by simp [etFlat]
  | p :: t, n + 1 => by
    have := etFlat_take t n
    rw [show (n + 1) * 2 = n * 2 + 1 + 1 by omega]
    show etCells p ++ etFlat (t.take n) = (etCells p ++ etFlat t).take (n * 2 + 1 + 1)
    rw [this]
    rfl
theorem etFlat_drop (L : List Et) (n : Nat) : etFlat (L.drop n) = (etFlat L).drop (n * 2) := by
  have h : etFlat L = etFlat (L.take n) ++ etFlat (L.drop n) := by rw [← etFlat_app, List.take_append_drop]
  rcases Nat.lt_or_ge L.length n with hl | hl
  · rw [List.drop_eq_nil_of_le (by omega), List.drop_eq_nil_of_le (by rw [etFlat_len]; omega)]
    rfl
  · rw [h, List.drop_left' (by rw [etFlat_len]; simp; omega)]
theorem ptL_take {ps : List Pt} {k : Nat} {x : Pt} (h : ps[k]? = some x) : ptL (ps.take (k + 1)) = ptL (ps.take k) ++ x.2.2 := by
  simp [ptL, List.take_add_one, h]
theorem ptL_le (ps : List Pt) : ∀ k, (ptL (ps.take k)).length ≤ (ptL ps).length := fun k => by
  have : ptL ps = ptL (ps.take k) ++ ptL (ps.drop k) := by
    unfold ptL
    rw [← List.flatten_append, ← List.map_append, List.take_append_drop]
  rw [this, List.length_append]
  omega
def JoinPost (w : World) (L : List Et) (e : Ending) (w' : World) : Prop :=
  ∃ A c, e = .returned (.slice A L.length c) ∧ w'.ownsRow w.heap.size 139 2 (.slice A L.length c) L.length (etFlat L) ∧ Fr none_ w w'
set_option maxHeartbeats 2000000 in
theorem joined_ok (b : Nat) (ps : List Pt) (w : World) (hb : ∀ (i : Nat) x, ps[i]? = some x → w.cell? ⟨b, i, none⟩ = some (ptV x)) (hr : ∀ x ∈ ps, Reads w 2 x.1 x.2.2.length (etFlat x.2.2)) (hl : (ptL ps).length ≤ 2000) (hn : ps.length ≤ 10) :
    Calls Tryd.prog 81 #[.slice (some ⟨b, 0, none⟩) ps.length ps.length] w (JoinPost w (ptL ps)) := by
  obtain ⟨i0, hi0, hz0, hs0, hb0⟩ := info_parts entry_info
  have Hi := hid_ (And.intro hi0 (And.intro hz0 (And.intro hs0 hb0)))
  have HB := hid_ hb
  have HR := hid_ hr
  clear hi0 hz0 hs0 hb0 hb hr
  go_enter Tryd.func81, Tryd.ntmps81
  go_wp2_with fail
  go_loopw [3, 8] (fun v i wr => ∃ k : Nat, k ≤ ps.length ∧ i = .int .i64 k ∧ wr.ownsRow w.heap.size 139 2 v (ptL (ps.take k)).length (etFlat (ptL (ps.take k))) ∧ Fr none_ w wr) (fun _ i _ => ps.length - (intOf i).toNat)
  case atStart => exact ⟨0, Nat.zero_le _, rfl, World.ownsRow_nil _ _ _ _, Fr.refl _ _⟩
  case round =>
    obtain ⟨k, hk, rfl, hown, hF⟩ := hrel
    obtain ⟨A, c, rfl⟩ := hown.shape
    have O := hid_ hown
    have F := hid_ hF
    clear hown hF
    have hi0 : (0 : Int) ≤ (k : Int) := Int.natCast_nonneg _
    by_cases hlt : k < ps.length
    · have hi1 : (k : Int) < (ps.length : Int) := by omega
      obtain ⟨x, hx⟩ : ∃ x, ps[k]? = some x := ⟨_, List.getElem?_eq_getElem hlt⟩
      obtain ⟨A2, c2, L2⟩ := x
      have hc : wr.cell? ⟨b, k, none⟩ = some (.slice A2 L2.length c2) := cellFr (HB.out k _ hx) F.out
      have R := hid_ ((HR.out _ (List.mem_of_getElem? hx)).none_fr F.out)
      have HT := hid_ (ptL_take hx)
      have hle : (ptL (ps.take k)).length + L2.length ≤ (ptL ps).length := by
        have := ptL_le ps (k + 1)
        rw [HT.out, List.length_append] at this
        exact this
      have hfs := F.out.size
      clear hx
      go_wp2_with (at_builtin; refine wpList_append_any _ rfl (.tmp 12) (.tmp 13) 37 rfl w.heap.size 139 i0 _ 2 24 Tryd.underlying37 Hi.out.1 Hi.out.2.1 Hi.out.2.2.1 Hi.out.2.2.2 rfl (by omega) (.slice A (ptL (ps.take k)).length c) (ptL (ps.take k)).length (etFlat (ptL (ps.take k))) rfl O.out A2 L2.length c2 (etFlat L2) rfl R.out (etFlat_one _) (by simp only [maxLen]; omega) (by omega) hfs ?_; intro A3 c3 w3 hown3 hgr3)
      have R3 : w3.ownsRow w.heap.size 139 2 (.slice A3 ((ptL (ps.take k)).length + L2.length) c3) (ptL (ps.take (k + 1))).length (etFlat (ptL (ps.take (k + 1)))) ∧ Fr none_ w w3 := by
        refine ⟨?_, F.out.grown hgr3 (fun b hb => .inr (O.out.lt b hb).1)⟩
        rw [HT.out, List.length_append, etFlat_app]
        exact hown3
      have HR3 := hid_ R3
      clear R3 hown3 hgr3
      go_wp2
      go_roundw
      case rel => exact ⟨k + 1, by omega, by go_num, HR3.out.1, HR3.out.2⟩
      case measure => simp [intOf]; omega
    · obtain rfl : k = ps.length := by omega
      have o := O.out
      have f := F.out
      rw [List.take_length] at o
      go_wp2
      go_ret
      rw [List.take_length]
      exact ⟨A, c, rfl, o, f⟩
end Go.Proofs.YtfihfjbakfadkaaDoor
namespace Go.Proofs.YtfihfjbakfadkaaDoor
open Go.RowKit Go.BigFrame
set_option maxRecDepth 100000
set_option linter.unusedVariables false

/-- How many rows stand ahead of a key. -/
def plR : List Rw → ByteArray → Nat
  | [], _ => 0
  | p :: t, key => if ltS p.1 key = true then plR t key + 1 else 0
theorem plR_le : ∀ (L : List Rw) (key : ByteArray), plR L key ≤ L.length
  | [], _ => Nat.le_refl _
  | p :: t, key => by
    have := plR_le t key
    rw [plR]
    split <;> simp <;> omega
theorem plR_in : ∀ {L : List Rw} {key : ByteArray} {i : Nat} {p : Rw}, i < plR L key → L[i]? = some p → ltS p.1 key = true
  | [], _, i, p, h, _ => by simp [plR] at h
  | q :: t, key, i, p, h, hp => by
    rw [plR] at h
    split at h
    · cases i with
      | zero =>
        obtain rfl : q = p := by simpa using hp
        assumption
      | succ i => exact plR_in (L := t) (i := i) (by omega) (by simpa using hp)
    · omega
theorem plR_at : ∀ {L : List Rw} {key : ByteArray} {p : Rw}, L[plR L key]? = some p → ltS p.1 key = false
  | [], _, p, h => by simp at h
  | q :: t, key, p, h => by
    rw [plR] at h
    split at h
    · exact plR_at (L := t) (by simpa using h)
    · obtain rfl : q = p := by simpa using h
      rename_i h1
      simpa using h1
def atR (L : List Rw) (key : ByteArray) : Bool :=
  match L[plR L key]? with
  | some p => sEq p.1 key
  | none => false
theorem atR_some {L : List Rw} {key : ByteArray} {p : Rw} (h : L[plR L key]? = some p) : atR L key = sEq p.1 key := by simp [atR, h]
theorem atR_none {L : List Rw} {key : ByteArray} (h : plR L key = L.length) : atR L key = false := by simp [atR, h]
theorem atR_lt {L : List Rw} {key : ByteArray} (h : atR L key = true) : plR L key < L.length := by
  have h1 := plR_le L key
  rcases Nat.lt_or_ge (plR L key) L.length with h2 | h2
  · exact h2
  · rw [atR_none (by omega)] at h; cases h
/-- May a row be? -/
def fitsR (p : Rw) : Bool := (decide (1 ≤ p.1.size) && decide (p.1.size ≤ 16)) && decide (p.2.size ≤ 16)
structure RightR (L : List Rw) : Prop where
  fit : ∀ p ∈ L, fitsR p = true
  ris : ∀ (i : Nat) (p q : Rw), L[i]? = some p → L[i + 1]? = some q → ltS p.1 q.1 = true
def RightTo (L : List Rw) (k : Nat) : Prop := (∀ (j : Nat) (p : Rw), j < k → L[j]? = some p → fitsR p = true) ∧ ∀ (j : Nat) (p q : Rw), j + 1 < k → L[j]? = some p → L[j + 1]? = some q → ltS p.1 q.1 = true
def RwsOk (L : List Rw) : Prop := L.length ≤ 300000 ∧ ∀ p ∈ L, SzOk p.1 ∧ SzOk p.2
def putR (L : List Rw) (r : Rw) : List Rw := L.take (plR L r.1) ++ [r] ++ L.drop (plR L r.1 + if atR L r.1 then 1 else 0)
def dropR (L : List Rw) (key : ByteArray) : List Rw := if atR L key then L.take (plR L key) ++ L.drop (plR L key + 1) else L
theorem putR_len (L : List Rw) (r : Rw) : (putR L r).length ≤ L.length + 1 := by
  have := plR_le L r.1
  simp only [putR, List.length_append, List.length_take, List.length_drop, List.length_cons, List.length_nil]
  omega
theorem dropR_len (L : List Rw) (key : ByteArray) : (dropR L key).length ≤ L.length := by
  unfold dropR
  split
  · simp only [List.length_append, List.length_take, List.length_drop]; omega
  · exact Nat.le_refl _
/-- The rows that lie in a span. -/
def inR (low high : ByteArray) (unb : Bool) (L : List Rw) : List Rw := L.filter fun p => inS low high unb p.1
theorem inR_all {low high : ByteArray} {unb : Bool} {L : List Rw} : (inR low high unb L).length = L.length ↔ ∀ p ∈ L, inS low high unb p.1 = true := by
  unfold inR
  rw [List.length_filter_eq_length_iff]
structure SoundR (low high : ByteArray) (unb : Bool) (L : List Rw) : Prop where
  hi : unb = true → high = nilS
  right : RightR L
  inn : ∀ p ∈ L, inS low high unb p.1 = true
abbrev PtR := Option Addr × Nat × List Rw
abbrev ptRV (x : PtR) : Value := .slice x.1 x.2.2.length x.2.1
def ptRL (ps : List PtR) : List Rw := (ps.map (·.2.2)).flatten
theorem rwFlat_app (L M : List Rw) : rwFlat (L ++ M) = rwFlat L ++ rwFlat M := by simp [rwFlat]
theorem rwFlat_take : ∀ (L : List Rw) (n : Nat), rwFlat (L.take n) = (rwFlat L).take (n * 2)
  | [], n => by simp [rwFlat]
  | p :: t, 0 => by simp [rwFlat]
  | p :: t, n + 1 => by
    have := rwFlat_take t n
    rw [show (n + 1) * 2 = n * 2 + 1 + 1 by omega]
    show rwCells p ++ rwFlat (t.take n) = (rwCells p ++ rwFlat t).take (n * 2 + 1 + 1)
    rw [this]
    rfl
theorem rwFlat_drop (L : List Rw) (n : Nat) : rwFlat (L.drop n) = (rwFlat L).drop (n * 2) := by
  have h : rwFlat L = rwFlat (L.take n) ++ rwFlat (L.drop n) := by rw [← rwFlat_app, List.take_append_drop]
  rcases Nat.lt_or_ge L.length n with hl | hl
  · rw [List.drop_eq_nil_of_le (by omega), List.drop_eq_nil_of_le (by rw [rwFlat_len]; omega)]
    rfl
  · rw [h, List.drop_left' (by rw [rwFlat_len]; simp; omega)]
theorem ptRL_take {ps : List PtR} {k : Nat} {x : PtR} (h : ps[k]? = some x) : ptRL (ps.take (k + 1)) = ptRL (ps.take k) ++ x.2.2 := by
  simp [ptRL, List.take_add_one, h]
theorem ptRL_le (ps : List PtR) : ∀ k, (ptRL (ps.take k)).length ≤ (ptRL ps).length := fun k => by
  have : ptRL ps = ptRL (ps.take k) ++ ptRL (ps.drop k) := by
    unfold ptRL
    rw [← List.flatten_append, ← List.map_append, List.take_append_drop]
  rw [this, List.length_append]
  omega
def JoinPostR (w : World) (L : List Rw) (e : Ending) (w' : World) : Prop :=
  ∃ A c, e = .returned (.slice A L.length c) ∧ w'.ownsRow w.heap.size 137 2 (.slice A L.length c) L.length (rwFlat L) ∧ Fr none_ w w'
set_option maxHeartbeats 2000000 in
theorem list_ok (b : Nat) (ps : List PtR) (w : World) (hb : ∀ (i : Nat) x, ps[i]? = some x → w.cell? ⟨b, i, none⟩ = some (ptRV x)) (hr : ∀ x ∈ ps, Reads w 2 x.1 x.2.2.length (rwFlat x.2.2)) (hl : (ptRL ps).length ≤ 900000) (hn : ps.length ≤ 10) :
    Calls Tryd.prog 85 #[.slice (some ⟨b, 0, none⟩) ps.length ps.length] w (JoinPostR w (ptRL ps)) := by
  obtain ⟨i0, hi0, hz0, hs0, hb0⟩ := info_parts row_info
  have Hi := hid_ (And.intro hi0 (And.intro hz0 (And.intro hs0 hb0)))
  have HB := hid_ hb
  have HR := hid_ hr
  clear hi0 hz0 hs0 hb0 hb hr
  go_enter Tryd.func85, Tryd.ntmps85
  go_wp2_with fail
  go_loopw [3, 8] (fun v i wr => ∃ k : Nat, k ≤ ps.length ∧ i = .int .i64 k ∧ wr.ownsRow w.heap.size 137 2 v (ptRL (ps.take k)).length (rwFlat (ptRL (ps.take k))) ∧ Fr none_ w wr) (fun _ i _ => ps.length - (intOf i).toNat)
  case atStart => exact ⟨0, Nat.zero_le _, rfl, World.ownsRow_nil _ _ _ _, Fr.refl _ _⟩
  case round =>
    obtain ⟨k, hk, rfl, hown, hF⟩ := hrel
    obtain ⟨A, c, rfl⟩ := hown.shape
    have O := hid_ hown
    have F := hid_ hF
    clear hown hF
    have hi0 : (0 : Int) ≤ (k : Int) := Int.natCast_nonneg _
    by_cases hlt : k < ps.length
    · have hi1 : (k : Int) < (ps.length : Int) := by omega
      obtain ⟨x, hx⟩ : ∃ x, ps[k]? = some x := ⟨_, List.getElem?_eq_getElem hlt⟩
      obtain ⟨A2, c2, L2⟩ := x
      have hc : wr.cell? ⟨b, k, none⟩ = some (.slice A2 L2.length c2) := cellFr (HB.out k _ hx) F.out
      have R := hid_ ((HR.out _ (List.mem_of_getElem? hx)).none_fr F.out)
      have HT := hid_ (ptRL_take hx)
      have hle : (ptRL (ps.take k)).length + L2.length ≤ (ptRL ps).length := by
        have := ptRL_le ps (k + 1)
        rw [HT.out, List.length_append] at this
        exact this
      have hfs := F.out.size
      clear hx
      go_wp2_with (at_builtin; refine wpList_append_any _ rfl (.tmp 12) (.tmp 13) 36 rfl w.heap.size 137 i0 _ 2 32 Tryd.underlying36 Hi.out.1 Hi.out.2.1 Hi.out.2.2.1 Hi.out.2.2.2 rfl (by omega) (.slice A (ptRL (ps.take k)).length c) (ptRL (ps.take k)).length (rwFlat (ptRL (ps.take k))) rfl O.out A2 L2.length c2 (rwFlat L2) rfl R.out (rwFlat_one _) (by simp only [maxLen]; omega) (by omega) hfs ?_; intro A3 c3 w3 hown3 hgr3)
      have R3 : w3.ownsRow w.heap.size 137 2 (.slice A3 ((ptRL (ps.take k)).length + L2.length) c3) (ptRL (ps.take (k + 1))).length (rwFlat (ptRL (ps.take (k + 1)))) ∧ Fr none_ w w3 := by
        refine ⟨?_, F.out.grown hgr3 (fun b hb => .inr (O.out.lt b hb).1)⟩
        rw [HT.out, List.length_append, rwFlat_app]
        exact hown3
      have HR3 := hid_ R3
      clear R3 hown3 hgr3
      go_wp2
      go_roundw
      case rel => exact ⟨k + 1, by omega, by go_num, HR3.out.1, HR3.out.2⟩
      case measure => simp [intOf]; omega
    · obtain rfl : k = ps.length := by omega
      have o := O.out
      have f := F.out
      rw [List.take_length] at o
      go_wp2
      go_ret
      rw [List.take_length]
      exact ⟨A, c, rfl, o, f⟩
set_option maxHeartbeats 2000000 in
theorem bright_ok (k : ByteArray) (w : World) (h : SzOk k) : Calls Tryd.prog 99 #[.string k] w fun e w' => e = .returned (.bool (decide (1 ≤ k.size) && decide (k.size ≤ 16))) ∧ Fr none_ w w' := by
  have hl := h.le
  clear h
  go_enter Tryd.func99, Tryd.ntmps99
  by_cases h1 : 1 ≤ k.size
  · have e1 : decide ((1 : Int) ≤ (k.size : Int)) = true := by simp; omega
    have H1 := hid_ h1
    by_cases h2 : k.size ≤ 16
    · have e2 : decide ((k.size : Int) ≤ 16) = true := by simp; omega
      have H2 := hid_ h2
      clear h1 h2
      go_wp2
      go_ret
      exact ⟨by simp [H1.out, H2.out], Fr.refl _ _⟩
    · have e2 : decide ((k.size : Int) ≤ 16) = false := by simp; omega
      have H2 := hid_ h2
      clear h1 h2
      go_wp2
      go_ret
      exact ⟨by simp [H1.out, H2.out], Fr.refl _ _⟩
  · have e1 : decide ((1 : Int) ≤ (k.size : Int)) = false := by simp; omega
    have H1 := hid_ h1
    clear h1
    go_wp2
    go_ret
    exact ⟨by simp [H1.out], Fr.refl _ _⟩
abbrev rwV (p : Rw) : Value := .agg #[.string p.1, .string p.2]
set_option maxHeartbeats 2000000 in
theorem fits_ok (p : Rw) (w : World) (h1 : SzOk p.1) (h2 : SzOk p.2) : Calls Tryd.prog 95 #[rwV p] w fun e w' => e = .returned (.bool (fitsR p)) ∧ Fr none_ w w' := by
  have hl := h2.le
  have H1 := hid_ h1
  obtain ⟨w0, hw0⟩ : ∃ z, z = w.alloc (.cells #[.string p.1, .string p.2] 137) := ⟨_, rfl⟩
  have f0 : Fr none_ w w0 := by rw [hw0]; exact (Fr.refl none_ w).alloc _
  have B0 : Hid (Blk w0 w.heap.size 137 #[.string p.1, .string p.2]) := hid_ (by rw [hw0]; exact Blk.new w _ _)
  have F0 := hid_ f0
  clear h1 h2 f0
  go_enter Tryd.func95, Tryd.ntmps95
  go_upto_region 1 with fail
  change Code.wp _ _ _ _ (w.alloc (.cells #[.string p.1, .string p.2] 137))
  rw [← hw0]
  clear hw0
  have c0 : w0.cell? ⟨w.heap.size, 0, none⟩ = some (.string p.1) := B0.out.cell' rfl
  go_wp2_with fail
  refine (bright_ok p.1 _ H1.out).mono ?_
  rintro e w1 ⟨rfl, hf⟩
  have c1 : w1.cell? ⟨w.heap.size, 1, none⟩ = some (.string p.2) := (B0.out.fr hf id).cell' rfl
  replace F0 := hid_ (F0.out.then_none hf)
  clear c0 hf
  obtain ⟨b, hb⟩ : ∃ b, (decide (1 ≤ p.1.size) && decide (p.1.size ≤ 16)) = b := ⟨_, rfl⟩
  rw [hb]
  have HB := hid_ hb
  clear hb
  cases b with
  | false =>
    go_wp2
    go_ret
    exact ⟨by simp [fitsR, HB.out], F0.out⟩
  | true =>
    by_cases h2 : p.2.size ≤ 16
    · have e2 : decide ((p.2.size : Int) ≤ 16) = true := by simp; omega
      have H2 := hid_ h2
      clear h2
      go_wp2
      go_ret
      exact ⟨by simp [fitsR, HB.out, H2.out], F0.out⟩
    · have e2 : decide ((p.2.size : Int) ≤ 16) = false := by simp; omega
      have H2 := hid_ h2
      clear h2
      go_wp2
      go_ret
      exact ⟨by simp [fitsR, HB.out, H2.out], F0.out⟩
set_option maxHeartbeats 4000000 in
theorem placeR_ok (L : List Rw) (A : Option Addr) (c : Nat) (key : ByteArray) (w : World) (h : Reads w 2 A L.length (rwFlat L)) (ho : RwsOk L) (hk : SzOk key) :
    Calls Tryd.prog 98 #[.slice A L.length c, .string key] w fun e w' => e = .returned (.int .i64 (plR L key : Nat)) ∧ Fr none_ w w' := by
  have H0 := hid_ h
  have hle := plR_le L key
  have h1000 := ho.1
  have HSZ := hid_ (And.intro ho.2 hk)
  clear h ho hk
  go_enter Tryd.func98, Tryd.ntmps98
  go_wp2_with fail
  go_loopw [5] (fun i wr => ∃ k : Nat, k ≤ plR L key ∧ i = .int .i64 k ∧ Fr none_ w wr) (fun i _ => plR L key - (intOf i).toNat)
  case atStart => exact ⟨0, Nat.zero_le _, rfl, Fr.refl _ _⟩
  case round =>
    obtain ⟨k, hk, rfl, hF⟩ := hrel
    have H := hid_ (H0.out.none_fr hF)
    have F := hid_ hF
    clear hF
    have hi0 : (0 : Int) ≤ (k : Int) := Int.natCast_nonneg _
    by_cases hlt : k < plR L key
    · have hkl : k < L.length := by omega
      have hi1 : (k : Int) < (L.length : Int) := by omega
      have hd1 : decide ((k : Int) < (L.length : Int)) = true := by simp; omega
      obtain ⟨p, hp⟩ : ∃ p, L[k]? = some p := ⟨_, List.getElem?_eq_getElem hkl⟩
      obtain ⟨b, off, rfl, hb, c0, c1⟩ := rw_at H.out hp
      have hcmp : decide (cmpI p.1 key < 0) = true := by rw [cmp_neg]; exact plR_in hlt hp
      have hsz := (HSZ.out.1 p (List.mem_of_getElem? hp)).1
      have HCMP := hid_ hcmp
      clear hp hcmp c1
      go_wp2_with fail
      refine (compare_ok p.1 key _ hsz.le HSZ.out.2.le).mono ?_
      rintro e w1 ⟨rfl, q, rfl⟩
      have hcmp := HCMP.out
      have FQ := hid_ (F.out.drewN q)
      clear c0
      go_wp2_with fail
      go_roundw
      case rel => exact ⟨k + 1, by omega, by go_num, FQ.out⟩
      case measure => simp [intOf]; omega
    · obtain rfl : k = plR L key := by omega
      by_cases hl : plR L key < L.length
      · obtain ⟨p, hp⟩ : ∃ p, L[plR L key]? = some p := ⟨_, List.getElem?_eq_getElem hl⟩
        obtain ⟨b, off, rfl, hb, c0, c1⟩ := rw_at H.out hp
        have hcmp : decide (cmpI p.1 key < 0) = false := by rw [cmp_neg]; exact plR_at hp
        have hsz := (HSZ.out.1 p (List.mem_of_getElem? hp)).1
        obtain ⟨n, hn⟩ : ∃ n, n = plR L key := ⟨_, rfl⟩
        have hi1 : (n : Int) < (L.length : Int) := by omega
        have hd1 : decide ((n : Int) < (L.length : Int)) = true := by simp; omega
        rw [← hn] at c0 c1 hi0
        rw [← hn]
        have HCMP := hid_ hcmp
        have HN := hid_ hn
        clear hp hcmp c1 hl hlt hn hk hle
        go_wp2_with fail
        refine (compare_ok p.1 key _ hsz.le HSZ.out.2.le).mono ?_
        rintro e w1 ⟨rfl, q, rfl⟩
        have hcmp := HCMP.out
        have FQ := hid_ (F.out.drewN q)
        go_wp2_with fail
        go_ret
        exact ⟨by rw [← HN.out]; rfl, FQ.out⟩
      · have he : plR L key = L.length := by omega
        have HE := hid_ he
        have hd1 : decide ((L.length : Int) < (L.length : Int)) = false := by simp
        rw [he]
        clear he hl hlt hk hle
        go_wp2_with fail
        go_ret
        exact ⟨by rw [HE.out]; rfl, F.out⟩
set_option maxHeartbeats 4000000 in
theorem findR_ok (L : List Rw) (A : Option Addr) (c : Nat) (key : ByteArray) (w : World) (h : Reads w 2 A L.length (rwFlat L)) (ho : RwsOk L) (hk : SzOk key) :
    Calls Tryd.prog 97 #[.slice A L.length c, .string key] w fun e w' => e = .returned (.tuple #[.int .i64 (plR L key : Nat), .bool (atR L key)]) ∧ Fr none_ w w' := by
  have H0 := hid_ h
  have HO := hid_ ho
  have HK := hid_ hk
  have hle := plR_le L key
  have h1000 := ho.1
  clear h ho hk
  go_enter Tryd.func97, Tryd.ntmps97
  go_wp2_with fail
  refine (placeR_ok L A c key _ H0.out HO.out HK.out).mono ?_
  rintro e w1 ⟨rfl, hf⟩
  have H := hid_ (H0.out.none_fr hf)
  have F := hid_ hf
  clear hf
  obtain ⟨n, hn⟩ : ∃ n, n = plR L key := ⟨_, rfl⟩
  rw [← hn]
  rw [← hn] at hle
  have HN := hid_ hn
  have hi0 : (0 : Int) ≤ (n : Int) := Int.natCast_nonneg _
  by_cases hl : n < L.length
  · obtain ⟨p, hp⟩ : ∃ p, L[n]? = some p := ⟨_, List.getElem?_eq_getElem hl⟩
    obtain ⟨b, off, rfl, hb, c0, c1⟩ := rw_at H.out hp
    have hat : atR L key = sEq p.1 key := atR_some (by rw [← hn]; exact hp)
    have HAT := hid_ hat
    have hi1 : (n : Int) < (L.length : Int) := by omega
    have hd1 : decide ((n : Int) < (L.length : Int)) = true := by simp; omega
    have hd2 : decide (n < L.length) = true := by simp; omega
    clear hp c1 hat hn hl
    go_wp2_with fail
    go_quiet (fail)
    go_wp2_with fail
    go_ret2
    exact ⟨by rw [HAT.out, ← HN.out]; rfl, by repeat (first | exact F.out | apply Fr.drewN | apply Fr.drew)⟩
  · have he : n = L.length := by omega
    have hat : atR L key = false := atR_none (by rw [← hn]; exact he)
    have HAT := hid_ hat
    have hd1 : decide ((n : Int) < (L.length : Int)) = false := by simp; omega
    have hd2 : decide (n < L.length) = false := by simp; omega
    clear hat hn hl he
    go_wp2_with fail
    go_quiet (fail)
    go_wp2_with fail
    go_ret2
    exact ⟨by rw [HAT.out, ← HN.out]; rfl, by repeat (first | exact F.out | apply Fr.drewN | apply Fr.drew)⟩
theorem copyR_ok (L : List Rw) (A : Option Addr) (c : Nat) (w : World) (h : Reads w 2 A L.length (rwFlat L)) (hl : L.length ≤ 300000) :
    Calls Tryd.prog 77 #[.slice A L.length c] w (JoinPostR w L) := by
  have H := hid_ h
  clear h
  go_enter Tryd.func77, Tryd.ntmps77
  go_wp2_with fail
  have hB := Blk.new w 36 #[.slice A L.length c]
  refine (list_ok w.heap.size [(A, c, L)] _ ?_ ?_ ?_ ?_).mono ?_
  · intro i x hx
    match i, hx with
    | 0, hx => cases hx; rw [hB.cell]; rfl
    | k + 1, hx => simp at hx
  · intro x hx
    obtain rfl : x = (A, c, L) := by simpa using hx
    exact H.out.alloc _
  · simp [ptRL]; omega
  · simp
  rintro e w1 ⟨A', c', rfl, ho, hf⟩
  rw [show ptRL [(A, c, L)] = L by simp [ptRL]] at ho ⊢
  have O := hid_ ho
  have F := hid_ hf
  clear ho hf hB
  go_wp2
  go_ret
  exact ⟨A', c', rfl, own_base O.out (by simp), (((Fr.refl none_ w).alloc _).then_none F.out)⟩
end Go.Proofs.YtfihfjbakfadkaaDoor

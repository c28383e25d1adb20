/- Contracts of package mapping's functions (a table in memory is a list of pages). -/
import Derived.Test.YthcpccddcgbanaaProg
import Derived.Test.YthcpccddcgbanaaBase
import Derived.Test.YthcpccddcgbanaaErr
import Derived.WalkLawsBesides
import Derived.WalkSpells
import Derived.BigQuiet
namespace Go.Proofs.Ythcpccddcgbanaa
open Go.RowKit

/-- A page: is it used, and its head. -/
abbrev Pg := Bool × Int × Int

theorem eql_ref (s g a b : Int) (w : World) : (binOp .eql 34 (.agg #[.int .i64 s, .int .i64 g]) (.agg #[.int .i64 a, .int .i64 b])).run Try.prog w = .ok (.bool (s == a && g == b)) w := by
  have h : (Op.equal 34 (.agg #[.int .i64 s, .int .i64 g]) (.agg #[.int .i64 a, .int .i64 b])).run Try.prog w = .ok (s == a && g == b) w := by
    simp only [Op.equal, Op.maxDepth]
    by_cases h1 : s = a <;> by_cases h2 : g = b <;> go_simp <;> simp [h1, h2]
  simp [binOp, h]
theorem neq_ref (s g a b : Int) (w : World) : (binOp .neq 34 (.agg #[.int .i64 s, .int .i64 g]) (.agg #[.int .i64 a, .int .i64 b])).run Try.prog w = .ok (.bool (!(s == a && g == b))) w := by
  have h : (Op.equal 34 (.agg #[.int .i64 s, .int .i64 g]) (.agg #[.int .i64 a, .int .i64 b])).run Try.prog w = .ok (s == a && g == b) w := by
    simp only [Op.equal, Op.maxDepth]
    by_cases h1 : s = a <;> by_cases h2 : g = b <;> go_simp <;> simp [h1, h2]
  simp [binOp, h]

structure TblAt (w : World) (T G cap : Nat) (cur : Array Value) (ps : List Pg) : Prop where
  hT : Blk w T 107 #[.slice (some ⟨G, 0, none⟩) ps.length cap]
  hG : Blk w G 115 cur
  hn : ps.length ≤ 256
  hc : ps.length ≤ cap
  hm : cap ≤ maxLen
  hs : ps.length * 3 ≤ cur.size
  hp : ∀ i p, ps[i]? = some p → cur[i * 3]? = some (.bool p.1) ∧ cur[i * 3 + 1]? = some (.int .i64 p.2.1) ∧ cur[i * 3 + 1 + 1]? = some (.int .i64 p.2.2)
def Tbl (w : World) (T G : Nat) (ps : List Pg) : Prop := ∃ cap cur, TblAt w T G cap cur ps

theorem mapAt_nil (n : Int) (w : World) : Calls Try.prog 51 #[.pointer none, .int .i64 n] w fun e w' => e = .returned (.tuple #[.pointer none, errV 1]) ∧ w = w' := by
  go_enter Try.func51, Try.ntmps51
  go_wp2
  go_ret2
  exact ⟨rfl, rfl⟩

theorem mapAt_arg (T G : Nat) (ps : List Pg) (n : Int) (w : World) (h : Tbl w T G ps) (hn : n < 0 ∨ (ps.length : Int) ≤ n) :
    Calls Try.prog 51 #[.pointer (some ⟨T, 0, none⟩), .int .i64 n] w fun e w' => e = .returned (.tuple #[.pointer none, errV 1]) ∧ w = w' := by
  obtain ⟨cap, cur, hT, hG, h1, h2, h3, h4, h5⟩ := h
  have c0 := hT.cell' (i := 0) rfl
  clear hT hG h5
  by_cases hn0 : n < 0
  · clear hn
    go_enter Try.func51, Try.ntmps51
    go_wp2
    go_ret2
    exact ⟨rfl, rfl⟩
  · have hle : (ps.length : Int) ≤ n := by omega
    clear hn
    go_enter Try.func51, Try.ntmps51
    go_wp2
    go_ret2
    exact ⟨rfl, rfl⟩

theorem mapAt_ok (T G : Nat) (ps : List Pg) (i : Nat) (s g : Int) (w : World) (h : Tbl w T G ps) (hi : ps[i]? = some (true, s, g)) :
    Calls Try.prog 51 #[.pointer (some ⟨T, 0, none⟩), .int .i64 i] w fun e w' => e = .returned (.tuple #[.pointer (some ⟨G, i * 3, none⟩), .nilIface]) ∧ w = w' := by
  obtain ⟨cap, cur, hT, hG, h1, h2, h3, h4, h5⟩ := h
  obtain ⟨d0, d1, d2⟩ := h5 i _ hi
  have c0 := hT.cell' (i := 0) rfl
  have c1 := hG.cell' d0
  have c2 := hG.cell' d1
  have c3 := hG.cell' d2
  have hlt : i < ps.length := (List.getElem?_eq_some_iff.1 hi).1
  clear hT hG h5 d0 d1 d2 hi
  go_enter Try.func51, Try.ntmps51
  go_wp2
  go_ret2
  exact ⟨rfl, rfl⟩

theorem mapAt_none (T G : Nat) (ps : List Pg) (i : Nat) (s g : Int) (w : World) (h : Tbl w T G ps) (hi : ps[i]? = some (false, s, g)) :
    Calls Try.prog 51 #[.pointer (some ⟨T, 0, none⟩), .int .i64 i] w fun e w' => e = .returned (.tuple #[.pointer none, errV 6]) ∧ w = w' := by
  obtain ⟨cap, cur, hT, hG, h1, h2, h3, h4, h5⟩ := h
  obtain ⟨d0, d1, d2⟩ := h5 i _ hi
  have c0 := hT.cell' (i := 0) rfl
  have c1 := hG.cell' d0
  have c2 := hG.cell' d1
  have c3 := hG.cell' d2
  have hlt : i < ps.length := (List.getElem?_eq_some_iff.1 hi).1
  clear hT hG h5 d0 d1 d2 hi
  go_enter Try.func51, Try.ntmps51
  go_wp2
  all_goals
    go_ret2
    exact ⟨rfl, rfl⟩

/-! ### What a store does to a table -/
def setPg (w : World) (G i : Nat) (p : Pg) : World := ((w.setCell ⟨G, i * 3, none⟩ (.bool p.1)).setCell ⟨G, i * 3 + 1, none⟩ (.int .i64 p.2.1)).setCell ⟨G, i * 3 + 1 + 1, none⟩ (.int .i64 p.2.2)

theorem Tbl.ne_ {w : World} {T G : Nat} {ps : List Pg} (h : Tbl w T G ps) : T ≠ G := by
  obtain ⟨cap, cur, hT, hG, _⟩ := h
  exact Blk.ne_ hT hG (by decide)

theorem Tbl.lt {w : World} {T G : Nat} {ps : List Pg} (h : Tbl w T G ps) : T < w.heap.size ∧ G < w.heap.size := by
  obtain ⟨cap, cur, hT, hG, _⟩ := h
  exact ⟨hT.lt, hG.lt⟩

theorem Tbl.set_ {w : World} {T G : Nat} {ps : List Pg} (h : Tbl w T G ps) {i : Nat} (hi : i < ps.length) (p : Pg) : Tbl (setPg w G i p) T G (ps.set i p) := by
  have hne := h.ne_
  obtain ⟨cap, cur, hT, hG, h1, h2, h3, h4, h5⟩ := h
  refine ⟨cap, ((cur.setIfInBounds (i * 3) (.bool p.1)).setIfInBounds (i * 3 + 1) (.int .i64 p.2.1)).setIfInBounds (i * 3 + 1 + 1) (.int .i64 p.2.2), ?_, ?_, by simpa using h1, by simpa using h2, h3, by simpa using h4, ?_⟩
  · rw [List.length_set]
    exact ((hT.far hne _).far hne _).far hne _
  · exact ((hG.set_ _ _).set_ _ _).set_ _ _
  · intro j q hj
    by_cases hji : j = i
    · subst hji
      rw [List.getElem?_set_self hi] at hj
      obtain rfl : p = q := by simpa using hj
      have e0 : j * 3 + 1 + 1 < cur.size := by omega
      refine ⟨?_, ?_, ?_⟩ <;> grind
    · rw [List.getElem?_set_ne (fun e => hji e.symm)] at hj
      obtain ⟨d0, d1, d2⟩ := h5 j q hj
      refine ⟨?_, ?_, ?_⟩ <;> grind

theorem Tbl.set_head {w : World} {T G : Nat} {ps : List Pg} (h : Tbl w T G ps) {i : Nat} {b : Bool} {s g : Int} (hi : ps[i]? = some (b, s, g)) (c d : Int) :
    Tbl ((w.setCell ⟨G, i * 3 + 1, none⟩ (.int .i64 c)).setCell ⟨G, i * 3 + 1 + 1, none⟩ (.int .i64 d)) T G (ps.set i (b, c, d)) := by
  have hne := h.ne_
  have hlt : i < ps.length := (List.getElem?_eq_some_iff.1 hi).1
  obtain ⟨cap, cur, hT, hG, h1, h2, h3, h4, h5⟩ := h
  refine ⟨cap, (cur.setIfInBounds (i * 3 + 1) (.int .i64 c)).setIfInBounds (i * 3 + 1 + 1) (.int .i64 d), ?_, ?_, by simpa using h1, by simpa using h2, h3, by simpa using h4, ?_⟩
  · rw [List.length_set]
    exact (hT.far hne _).far hne _
  · exact (hG.set_ _ _).set_ _ _
  · intro j q hj
    by_cases hji : j = i
    · subst hji
      rw [List.getElem?_set_self hlt] at hj
      obtain rfl : (b, c, d) = q := by simpa using hj
      obtain ⟨d0, d1, d2⟩ := h5 j _ hi
      have e0 : j * 3 + 1 + 1 < cur.size := by omega
      refine ⟨?_, ?_, ?_⟩ <;> grind
    · rw [List.getElem?_set_ne (fun e => hji e.symm)] at hj
      obtain ⟨d0, d1, d2⟩ := h5 j q hj
      refine ⟨?_, ?_, ?_⟩ <;> grind

theorem Tbl.fr {w w' : World} {S : Nat → Prop} {T G : Nat} {ps : List Pg} (h : Tbl w T G ps) (hf : Fr S w w') (hT : ¬ S T) (hG : ¬ S G) : Tbl w' T G ps := by
  obtain ⟨cap, cur, a, b, h1, h2, h3, h4, h5⟩ := h
  exact ⟨cap, cur, a.fr hf hT, b.fr hf hG, h1, h2, h3, h4, h5⟩

theorem setPg_fr {S : Nat → Prop} {a w : World} (h : Fr S a w) {G : Nat} (hG : S G ∨ a.heap.size ≤ G) (i : Nat) (p : Pg) : Fr S a (setPg w G i p) := ((h.setCell hG _).setCell hG _).setCell hG _

theorem setPg_only (w : World) (G i : Nat) (p : Pg) : Fr (only G) w (setPg w G i p) := setPg_fr (Fr.refl (only G) w) (.inl (Eq.refl G)) i p

/-! ### Give, Head, Swap -/
theorem give_ok (T G : Nat) (ps : List Pg) (i : Nat) (s g : Int) (w : World) (h : Tbl w T G ps) (hi : ps[i]? = some (true, s, g)) :
    Calls Try.prog 53 #[.pointer (some ⟨T, 0, none⟩), .int .i64 i] w fun e w' => e = .returned .nilIface ∧ w' = setPg w G i (false, 0, 0) := by
  have h' := h
  obtain ⟨cap, cur, hT, hG, h1, h2, h3, h4, h5⟩ := h
  obtain ⟨d0, d1, d2⟩ := h5 i _ hi
  have c1 := hG.cell' d0
  have c2 := hG.cell' d1
  have c3 := hG.cell' d2
  have f := hG.frozen
  have f0 := f (i * 3)
  have f1 := f (i * 3 + 1)
  have f2 := f (i * 3 + 1 + 1)
  have H := hid_ h'
  have Hi := hid_ hi
  clear hT hG h5 d0 d1 d2 h' hi f
  go_enter Try.func53, Try.ntmps53
  go_wp2_with (go_at_call 51; refine (mapAt_ok T G ps i s g _ H.out Hi.out).mono ?_; rintro e w' ⟨rfl, rfl⟩)
  go_ret
  exact ⟨rfl, rfl⟩

theorem give_err (o : Option Addr) (n : Int) (k : Int) (w : World)
    (hat : ∀ w1 : World, w1 = w → Calls Try.prog 51 #[.pointer o, .int .i64 n] w1 fun e w' => e = .returned (.tuple #[.pointer none, errV k]) ∧ w1 = w') :
    Calls Try.prog 53 #[.pointer o, .int .i64 n] w fun e w' => e = .returned (errV k) ∧ w = w' := by
  have H := hid_ hat
  clear hat
  go_enter Try.func53, Try.ntmps53
  go_wp2_with (go_at_call 51; refine (H.out _ rfl).mono ?_; rintro e w' ⟨rfl, rfl⟩)
  go_ret
  exact ⟨rfl, rfl⟩

theorem head_err (o : Option Addr) (n : Int) (k : Int) (w : World)
    (hat : ∀ w1 : World, Fr none_ w w1 → Calls Try.prog 51 #[.pointer o, .int .i64 n] w1 fun e w' => e = .returned (.tuple #[.pointer none, errV k]) ∧ w1 = w') :
    Calls Try.prog 37 #[.pointer o, .int .i64 n] w fun e w' => e = .returned (.tuple #[.agg #[.int .i64 0, .int .i64 0], errV k]) ∧ Fr none_ w w' := by
  have H := hid_ hat
  clear hat
  go_enter Try.func37, Try.ntmps37
  go_wp2_with (go_at_call 51; refine (H.out _ ((Fr.refl _ _).alloc _)).mono ?_; rintro e w' ⟨rfl, rfl⟩)
  exact bodyPost_ret (v := .tuple #[.agg #[.int .i64 0, .int .i64 0], errV k]) (by simp [results, Try.results37, go_sem]) rfl ⟨rfl, (Fr.refl _ _).alloc _⟩

theorem head_ok (T G : Nat) (ps : List Pg) (i : Nat) (s g : Int) (w : World) (h : Tbl w T G ps) (hi : ps[i]? = some (true, s, g)) :
    Calls Try.prog 37 #[.pointer (some ⟨T, 0, none⟩), .int .i64 i] w fun e w' => e = .returned (.tuple #[.agg #[.int .i64 s, .int .i64 g], .nilIface]) ∧ Fr none_ w w' := by
  have h' := h
  obtain ⟨cap, cur, hT, hG, h1, h2, h3, h4, h5⟩ := h
  obtain ⟨d0, d1, d2⟩ := h5 i _ hi
  have c2 := hG.cell' d1
  have c3 := hG.cell' d2
  have hlt := hG.lt
  have H := hid_ h'
  have Hi := hid_ hi
  clear hT hG h5 d0 d1 d2 h' hi
  go_enter Try.func37, Try.ntmps37
  go_wp2_with (go_at_call 51; refine (mapAt_ok T G ps i s g _ (H.out.fr ((Fr.refl none_ _).alloc _) id id) Hi.out).mono ?_; rintro e w' ⟨rfl, rfl⟩)
  exact bodyPost_ret (v := .tuple #[.agg #[.int .i64 s, .int .i64 g], .nilIface]) (by simp [results, Try.results37, go_sem]) rfl ⟨rfl, (Fr.refl _ _).alloc _⟩

theorem swap_err (o : Option Addr) (n : Int) (k a b c d : Int) (w : World)
    (hat : ∀ w1 : World, Fr none_ w w1 → Calls Try.prog 51 #[.pointer o, .int .i64 n] w1 fun e w' => e = .returned (.tuple #[.pointer none, errV k]) ∧ w1 = w') :
    Calls Try.prog 35 #[.pointer o, .int .i64 n, .agg #[.int .i64 a, .int .i64 b], .agg #[.int .i64 c, .int .i64 d]] w fun e w' => e = .returned (.tuple #[.bool false, errV k]) ∧ Fr none_ w w' := by
  have H := hid_ hat
  clear hat
  go_enter Try.func35, Try.ntmps35
  go_wp2_with (go_at_call 51; refine (H.out _ (((Fr.refl _ _).alloc _).alloc _)).mono ?_; rintro e w' ⟨rfl, rfl⟩)
  go_ret2
  exact ⟨rfl, ((Fr.refl _ _).alloc _).alloc _⟩

theorem swap_ok (T G : Nat) (ps : List Pg) (i : Nat) (s g a b c d : Int) (w : World) (h : Tbl w T G ps) (hi : ps[i]? = some (true, s, g)) :
    Calls Try.prog 35 #[.pointer (some ⟨T, 0, none⟩), .int .i64 i, .agg #[.int .i64 a, .int .i64 b], .agg #[.int .i64 c, .int .i64 d]] w fun e w' =>
      e = .returned (.tuple #[.bool (s == a && g == b), .nilIface]) ∧ Tbl w' T G (if s = a ∧ g = b then ps.set i (true, c, d) else ps) ∧ Fr (only G) w w' := by
  have h' := h
  obtain ⟨cap, cur, hT, hG, h1, h2, h3, h4, h5⟩ := h
  obtain ⟨d0, d1, d2⟩ := h5 i _ hi
  have c2 := hG.cell' d1
  have c3 := hG.cell' d2
  have f := hG.frozen
  have f1 := f (i * 3 + 1)
  have f2 := f (i * 3 + 1 + 1)
  have hlt := hG.lt
  have H := hid_ h'
  have Hi := hid_ hi
  clear hT hG h5 d0 d1 d2 h' hi f
  by_cases hc : s = a ∧ g = b
  · obtain ⟨rfl, rfl⟩ := hc
    go_enter Try.func35, Try.ntmps35
    go_wp2_with (go_at_call 51; refine (mapAt_ok T G ps i s g _ (H.out.fr (((Fr.refl none_ _).alloc _).alloc _) id id) Hi.out).mono ?_; rintro e w' ⟨rfl, rfl⟩)
    go_region
    all_goals go_wp2
    go_ret2
    exact ⟨rfl, (H.out.set_head Hi.out c d).fr ((((Fr.refl none_ _).alloc _).alloc _).drew) id id, (((((Fr.refl (only G) w).setCell (p := ⟨G, i * 3 + 1, none⟩) (.inl (Eq.refl G)) _).setCell (p := ⟨G, i * 3 + 1 + 1, none⟩) (.inl (Eq.refl G)) _).alloc _).alloc _).drew⟩
  · have hq : ∀ w, (binOp .neq 34 (.agg #[.int .i64 s, .int .i64 g]) (.agg #[.int .i64 a, .int .i64 b])).run Try.prog w = .ok (.bool true) w := fun w => by
      rw [neq_ref]
      have : (s == a && g == b) = false := by simpa using hc
      rw [this]; rfl
    have Hc := hid_ hc
    clear hc
    go_enter Try.func35, Try.ntmps35
    go_wp2_with (go_at_call 51; refine (mapAt_ok T G ps i s g _ (H.out.fr (((Fr.refl none_ _).alloc _).alloc _) id id) Hi.out).mono ?_; rintro e w' ⟨rfl, rfl⟩)
    go_region
    all_goals go_wp2
    go_ret2
    refine ⟨?_, ?_, ?_⟩
    · have : (s == a && g == b) = false := by simpa using Hc.out
      rw [this]; rfl
    · exact H.out.fr ((((Fr.refl none_ _).alloc _).alloc _).drew) id id
    · exact (((Fr.refl _ _).alloc _).alloc _).drew

end Go.Proofs.Ythcpccddcgbanaa

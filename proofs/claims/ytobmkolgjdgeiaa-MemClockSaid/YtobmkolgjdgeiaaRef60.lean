/- Contracts of package rowlockref06: the document's clock: a number, a last one, slots. -/
import Derived.Test.YtobmkolgjdgeiaaCk60
import Derived.Deep.RegionHeld3
import Derived.Deep.RegionLaw
import Derived.Deep.RegionWith
import Derived.Laws.MakeOwn
namespace Go.Proofs.Ytobmkolgjdgeiaa
open Go.RowKit
set_option maxRecDepth 100000
set_option linter.unusedVariables false

theorem num_info : (Try.prog.info? 3).map (fun i => (i.zero, i.size, i.bytes)) = some (some (.int .i64 0), 1, 8) := by kernel_rfl
abbrev SOwn (w : World) (v : Value) (S : List Int) : Prop := w.ownsRow 0 3 1 v S.length (numFlat S)
abbrev rclk (now last : Int) (v : Value) : Value := .agg #[.int .i64 now, .int .i64 last, v]
abbrev rclkB (now last : Int) (v : Value) : Obj := .cells #[.int .i64 now, .int .i64 last, v] 35
theorem numFlat_one (S : List Int) : ∀ u ∈ numFlat S, u.oneCell' = true := by
  intro u hu
  simp only [numFlat, List.mem_map] at hu
  obtain ⟨x, _, rfl⟩ := hu
  rfl
theorem sown_cell {w : World} {A : Option Addr} {c : Nat} {S : List Int} (h : SOwn w (.slice A S.length c) S) {i : Nat} {x : Int} (hi : S[i]? = some x) : ∃ g, A = some ⟨g, 0, none⟩ ∧ g < w.heap.size ∧ w.cell? ⟨g, i, none⟩ = some (.int .i64 x) := by
  have hn : 0 < S.length := by have := (List.getElem?_eq_some_iff.1 hi).1; omega
  obtain ⟨A', c', hv, _, _, hp⟩ := own_parts h
  obtain ⟨g, hA, hg, hc⟩ := hp hn
  have hA' : A = some ⟨g, 0, none⟩ := by injection hv with h1; rw [h1, hA]
  exact ⟨g, hA', hg, hc _ _ (numFlat_get hi)⟩

theorem box3 {w1 : World} {b : Nat} {t : TypeId} {c0 c1 c2 : Value} (h : Blk w1 b t #[c0, c1, c2]) (x y z : Value) :
    Blk (((w1.setCell ⟨b, 0, none⟩ x).setCell ⟨b, 1, none⟩ y).setCell ⟨b, 2, none⟩ z) b t #[x, y, z] ∧ Fr (only b) w1 (((w1.setCell ⟨b, 0, none⟩ x).setCell ⟨b, 1, none⟩ y).setCell ⟨b, 2, none⟩ z) :=
  ⟨((h.set_ 0 x).set_ 1 y).set_ 2 z, (((Fr.refl (only b) w1).setCell (p := ⟨b, 0, none⟩) (.inl (Eq.refl _)) _).setCell (p := ⟨b, 1, none⟩) (.inl (Eq.refl _)) _).setCell (p := ⟨b, 2, none⟩) (.inl (Eq.refl _)) _⟩
theorem made_zero (n : Nat) : (madeCells (Value.int IntKind.i64 0).cells (n * 1)).toList = numFlat (List.replicate n 0) := by
  rw [Nat.mul_one]
  exact (toList_madeCells_one (.int .i64 0) n).trans (by simp [numFlat])

/-! ### New -/
theorem rnew_no (n last : Int) (w : World) (h : n < 1 ∨ 64 < n ∨ last < 1 ∨ 1099511627776 < last) : Calls Try.prog 9 #[.int .i64 n, .int .i64 last] w fun e w' => e = .returned (.tuple #[rclk 0 0 (.slice none 0 0), .bool false]) ∧ Fr none_ w w' := by
  have fin : Fr none_ w (w.alloc (rclkB 0 0 (.slice none 0 0))) := (Fr.refl none_ w).alloc _
  have Fin := hid_ fin
  clear fin
  by_cases h1 : n < 1
  · clear h
    go_enter Try.func9, Try.ntmps9
    go_wp2
    exact bodyPost_ret (v := .tuple #[rclk 0 0 (.slice none 0 0), .bool false]) (by simp [results, Try.results9, go_sem]) rfl ⟨rfl, Fin.out⟩
  by_cases h2 : 64 < n
  · clear h
    go_enter Try.func9, Try.ntmps9
    go_wp2
    exact bodyPost_ret (v := .tuple #[rclk 0 0 (.slice none 0 0), .bool false]) (by simp [results, Try.results9, go_sem]) rfl ⟨rfl, Fin.out⟩
  by_cases h3 : last < 1
  · clear h
    go_enter Try.func9, Try.ntmps9
    go_wp2
    exact bodyPost_ret (v := .tuple #[rclk 0 0 (.slice none 0 0), .bool false]) (by simp [results, Try.results9, go_sem]) rfl ⟨rfl, Fin.out⟩
  have h4 : 1099511627776 < last := by omega
  clear h
  go_enter Try.func9, Try.ntmps9
  go_wp2
  exact bodyPost_ret (v := .tuple #[rclk 0 0 (.slice none 0 0), .bool false]) (by simp [results, Try.results9, go_sem]) rfl ⟨rfl, Fin.out⟩
theorem rnew_ok (n : Nat) (last : Int) (w : World) (h1 : 1 ≤ n) (h2 : n ≤ 64) (h3 : 1 ≤ last) (h4 : last ≤ 1099511627776) : Calls Try.prog 9 #[.int .i64 n, .int .i64 last] w fun e w' => ∃ A c, e = .returned (.tuple #[rclk 1 last (.slice A (List.replicate n (0 : Int)).length c), .bool true]) ∧ SOwn w' (.slice A (List.replicate n (0 : Int)).length c) (List.replicate n 0) ∧ Fr none_ w w' := by
  obtain ⟨i0, hi0, hz0, hs0, hb0⟩ := info_parts num_info
  have Hi := hid_ (And.intro hi0 (And.intro hz0 (And.intro hs0 hb0)))
  have hb8 : i0.bytes * n ≤ 281474976710656 := by rw [hb0]; omega
  clear hi0 hz0 hs0 hb0
  go_enter Try.func9, Try.ntmps9
  go_wp2_with (at_make; refine wpList_make_full _ rfl (.tmp 22) (.tmp 22) 33 rfl 0 3 i0 (.int .i64 0) 1 Try.underlying33 Hi.out.1 Hi.out.2.1 Hi.out.2.2.1 .i64 .i64 n n n rfl rfl rfl rfl hb8 (by simp only [maxLen]; omega) (Nat.zero_le _) ?_; intro w1 hown1 hgr1; have F1 := hid_ (((Fr.refl none_ w).alloc (rclkB 0 0 (.slice none 0 0))).grown hgr1 (fun k hk => by cases hk)); have O1 := hid_ hown1; have B1 := hid_ ((Blk.new w 35 #[.int .i64 0, .int .i64 0, .slice none 0 0]).grown hgr1 (by simp)); clear hown1 hgr1; have c0 : w1.cell? ⟨w.heap.size, 0, none⟩ = some (.int .i64 0) := B1.out.cell' rfl; have c1 : w1.cell? ⟨w.heap.size, 1, none⟩ = some (.int .i64 0) := B1.out.cell' rfl; have c2 : w1.cell? ⟨w.heap.size, 2, none⟩ = some (.slice none 0 0) := B1.out.cell' rfl; have f0 := B1.out.frozen 0; have f1 := B1.out.frozen 1; have f2 := B1.out.frozen 2)
  obtain ⟨qb, qf⟩ := box3 B1.out (.int .i64 1) (.int .i64 last) (.slice (some ⟨w.heap.size + 1, 0, none⟩) n n)
  have q0 := qb.cell' (i := 0) rfl
  have q1 := qb.cell' (i := 1) rfl
  have q2 := qb.cell' (i := 2) rfl
  have O2 := own_fr O1.out qf (fun k hk e => own_blk_ne O1.out B1.out (by decide) (by rw [hk, show k = w.heap.size from e]))
  have F2 := F1.out.then_only qf (.inr (Nat.le_refl _))
  have hl : (List.replicate n (0 : Int)).length = n := by simp
  rw [made_zero] at O2
  rw [World.size_alloc] at O2
  clear c0 c1 c2 f0 f1 f2
  refine bodyPost_ret (v := .tuple #[rclk 1 last (.slice (some ⟨w.heap.size + 1, 0, none⟩) n n), .bool true]) (by simp [results, Try.results9, go_sem, q0, q1, q2]) rfl ⟨some ⟨w.heap.size + 1, 0, none⟩, n, by rw [hl], ?_, F2⟩
  unfold SOwn
  rw [hl]
  exact O2

/-! ### Bump -/
section
variable (now last : Int) (A : Option Addr) (c : Nat) (S : List Int) (w : World)
theorem rbump_end (he : now = last) : Calls Try.prog 11 #[rclk now last (.slice A S.length c)] w fun e w' => e = .returned (.tuple #[rclk now last (.slice A S.length c), .int .i64 now, .int .i64 5]) ∧ Fr none_ w w' := by
  subst he
  go_enter Try.func11, Try.ntmps11
  go_wp2_with fail
  go_region_held3 (fun w' => w'.cell? ⟨w.heap.size, 0, none⟩ = some (.int .i64 now) ∧ w'.cell? ⟨w.heap.size, 1, none⟩ = some (.int .i64 now) ∧ w'.cell? ⟨w.heap.size, 2, none⟩ = some (.slice A S.length c)) (go_keep) (fail)
  all_goals go_wp2
  all_goals exact bodyPost_ret (v := .tuple #[rclk now now (.slice A S.length c), .int .i64 now, .int .i64 5]) (by simp [results, Try.results11, go_sem]) rfl ⟨rfl, by repeat (first | exact Fr.refl _ _ | apply Fr.drew | apply Fr.alloc)⟩
theorem rbump_ok (he : now < last) (h1 : 1 ≤ now) (hl : last ≤ 1099511627776) : Calls Try.prog 11 #[rclk now last (.slice A S.length c)] w fun e w' => e = .returned (.tuple #[rclk (now + 1) last (.slice A S.length c), .int .i64 (now + 1), .int .i64 0]) ∧ Fr none_ w w' := by
  have hne : (now == last) = false := by simp; omega
  have hw : IntKind.i64.wrap (now + 1) = now + 1 := IntWalk.i64_in _ (by omega)
  go_enter Try.func11, Try.ntmps11
  go_wp2_with fail
  go_region_held3 (fun w' => w'.cell? ⟨w.heap.size, 0, none⟩ = some (.int .i64 (now + 1)) ∧ w'.cell? ⟨w.heap.size, 1, none⟩ = some (.int .i64 last) ∧ w'.cell? ⟨w.heap.size, 2, none⟩ = some (.slice A S.length c)) (go_keep) (fail)
  all_goals go_wp2
  all_goals exact bodyPost_ret (v := .tuple #[rclk (now + 1) last (.slice A S.length c), .int .i64 (now + 1), .int .i64 0]) (by simp [results, Try.results11, go_sem]) rfl ⟨rfl, by repeat (first | exact Fr.refl _ _ | apply Fr.drew | apply Fr.alloc)⟩
end

/-! ### set -/
def SetPost (now last : Int) (S' : List Int) (w : World) (e : Ending) (w' : World) : Prop := ∃ A c, e = .returned (rclk now last (.slice A S'.length c)) ∧ SOwn w' (.slice A S'.length c) S' ∧ Fr none_ w w'
theorem numFlat_set (S : List Int) (i : Nat) (x : Int) : numFlat (S.set i x) = (numFlat S).set i (.int .i64 x) := by unfold numFlat; rw [List.map_set]
/-- What holds behind set's append. -/
structure SetAt (w w3 : World) (now last : Int) (v : Value) (S : List Int) (i : Nat) (g c1 : Nat) (x : Int) : Prop where
  f3 : Fr none_ w w3
  own : w3.ownsRow (w.heap.size + 1 + 1) 3 1 (.slice (some ⟨g, 0, none⟩) S.length c1) S.length (numFlat S)
  hg : w.heap.size + 1 + 1 ≤ g
  k0 : Blk w3 w.heap.size 35 #[.int .i64 now, .int .i64 last, v]
  k1 : Blk w3 (w.heap.size + 1) 35 #[.int .i64 0, .int .i64 0, .slice none 0 0]
  d6 : w3.cell? ⟨g, i, none⟩ = some (.int .i64 x)
theorem SetAt.ne {w w3 : World} {now last : Int} {v : Value} {S : List Int} {i g c1 : Nat} {x : Int} (h : SetAt w w3 now last v S i g c1 x) : g ≠ w.heap.size ∧ g ≠ w.heap.size + 1 ∧ w.heap.size ≠ g ∧ w.heap.size + 1 ≠ g := by
  have := h.hg
  refine ⟨?_, ?_, ?_, ?_⟩ <;> omega
theorem set_pack {w w3 : World} {now last : Int} {v : Value} {S : List Int} {i c1 : Nat} {x : Int} {A1 : Option Addr} (hi : i < S.length) (hx : S[i]? = some x) (hown3 : w3.ownsRow (w.heap.size + 1 + 1) 3 1 (.slice A1 (0 + S.length) c1) (0 + S.length) ([] ++ numFlat S))
    (hgr3 : (((w.alloc (rclkB now last v)).alloc (rclkB 0 0 (.slice none 0 0))).alloc (.cells #[] 3)).grownBy w3 (Value.slice (some ⟨w.heap.size + 1 + 1, 0, none⟩) 0 0).ownBlock) : ∃ g, A1 = some ⟨g, 0, none⟩ ∧ SetAt w w3 now last v S i g c1 x := by
  simp only [Nat.zero_add, List.nil_append] at hown3
  obtain ⟨g, cap', hge, hgb, hgl⟩ := hown3.form (by omega)
  obtain ⟨rfl, rfl⟩ : A1 = some ⟨g, 0, none⟩ ∧ c1 = cap' := by simpa using hge
  have F3 : Fr none_ ((w.alloc (rclkB now last v)).alloc (rclkB 0 0 (.slice none 0 0))) w3 := ((Fr.refl none_ _).alloc (.cells #[] 3)).grown hgr3 (fun k hk => .inr (by
    have : w.heap.size + 1 + 1 = k := by simpa [Value.ownBlock] using hk
    simp only [World.size_alloc]
    omega))
  have k1 := (Blk.new (w.alloc (rclkB now last v)) 35 #[.int .i64 0, .int .i64 0, .slice none 0 0]).fr F3 id
  rw [World.size_alloc] at k1
  exact ⟨g, rfl, (((Fr.refl none_ w).alloc _).alloc _).then_none F3, hown3, hgb, ((Blk.new w _ _).alloc _).fr F3 id, k1, (hown3.cellAt i (by omega)).trans (numFlat_get hx)⟩
theorem rset_ok (now last : Int) (A : Option Addr) (c : Nat) (S : List Int) (i : Nat) (a : Int) (w : World) (h : SOwn w (.slice A S.length c) S) (hl : S.length ≤ 64) (hi : i < S.length) :
    Calls Try.prog 43 #[rclk now last (.slice A S.length c), .int .i64 i, .int .i64 a] w (SetPost now last (S.set i a) w) := by
  obtain ⟨i0, hi0, hz0, hs0, hb0⟩ := info_parts num_info
  have Hi := hid_ (And.intro hi0 (And.intro hz0 (And.intro hs0 hb0)))
  have H := hid_ h
  have hsrc : Hid (Reads (((w.alloc (rclkB now last (.slice A S.length c))).alloc (rclkB 0 0 (.slice none 0 0))).alloc (.cells #[] 3)) 1 A S.length (numFlat S)) := hid_ (((((Reads.of_own h).alloc _).alloc _).alloc _))
  have hx : ∃ x, S[i]? = some x := ⟨_, List.getElem?_eq_getElem hi⟩
  obtain ⟨x, hx⟩ := hx
  have Hx := hid_ hx
  have hi0' : (0 : Int) ≤ (i : Int) := Int.natCast_nonneg _
  have hi1' : (i : Int) < (S.length : Int) := by omega
  clear hi0 hz0 hs0 hb0 h hx
  go_enter Try.func43, Try.ntmps43
  go_wp2_with (at_builtin; refine wpList_append_any _ rfl (.tmp 8) (.tmp 10) 33 rfl (w.heap.size + 1 + 1) 3 i0 _ 1 8 Try.underlying33 Hi.out.1 Hi.out.2.1 Hi.out.2.2.1 Hi.out.2.2.2 rfl (by omega) (.slice (some ⟨w.heap.size + 1 + 1, 0, none⟩) 0 0) 0 [] rfl (own_empty_at _ _ _ _ _ (by simp) (by simp)) A S.length c (numFlat S) rfl hsrc.out (numFlat_one S) (by simp only [maxLen]; omega) (by omega) (by simp) ?_; intro A1 c1 w3 hown3 hgr3; obtain ⟨g, rfl, hst⟩ := set_pack (now := now) (last := last) (v := .slice A S.length c) hi Hx.out hown3 hgr3; have ST := hid_ hst; have d0 : w3.cell? ⟨w.heap.size, 0, none⟩ = some (.int .i64 now) := hst.k0.cell' rfl; have d1 : w3.cell? ⟨w.heap.size, 1, none⟩ = some (.int .i64 last) := hst.k0.cell' rfl; have d2 : w3.cell? ⟨w.heap.size, 2, none⟩ = some (.slice A S.length c) := hst.k0.cell' rfl; have d3 : w3.cell? ⟨w.heap.size + 1, 0, none⟩ = some (.int .i64 0) := hst.k1.cell' rfl; have d4 : w3.cell? ⟨w.heap.size + 1, 1, none⟩ = some (.int .i64 0) := hst.k1.cell' rfl; have d5 : w3.cell? ⟨w.heap.size + 1, 2, none⟩ = some (.slice none 0 0) := hst.k1.cell' rfl; have f0 := hst.k0.frozen 2; have f1 := hst.k1.frozen 0; have f2 := hst.k1.frozen 1; have f3 := hst.k1.frozen 2; have f4 := hst.own.frozenAt i; have d6 := hst.d6; obtain ⟨n0, n1, n2, n3⟩ := hst.ne; clear hown3 hgr3 hst)
  clear d0 d1 d2 d3 d4 d5 d6 f0 f1 f2 f3 f4
  have O4 := (ST.out.own.stored i (.int .i64 a)).1
  have F4 := Fr.only1 w3 ⟨g, i, none⟩ (.int .i64 a)
  have k0 := (ST.out.k0.fr F4 (only_ne n2)).set_ 2 (.slice (some ⟨g, 0, none⟩) S.length c1)
  have F5 := Fr.only1 (w3.setCell ⟨g, i, none⟩ (.int .i64 a)) ⟨w.heap.size, 2, none⟩ (.slice (some ⟨g, 0, none⟩) S.length c1)
  have k1 := (ST.out.k1.fr F4 (only_ne n3)).fr F5 (only_ne (by simp))
  obtain ⟨qb, qf⟩ := box3 k1 (.int .i64 now) (.int .i64 last) (.slice (some ⟨g, 0, none⟩) S.length c1)
  have q0 := qb.cell' (i := 0) rfl
  have q1 := qb.cell' (i := 1) rfl
  have q2 := qb.cell' (i := 2) rfl
  have O5 := own_fr (own_fr O4 F5 (fun k hk e => n0 (by simp [Value.ownBlock] at hk; rw [hk]; exact e))) qf (fun k hk e => n1 (by simp [Value.ownBlock] at hk; rw [hk]; exact e))
  rw [← numFlat_set] at O5
  have G3 := ST.out.f3
  have hgg := ST.out.hg
  have G5 := ((G3.then_only F4 (.inr (by show w.heap.size ≤ g; omega))).then_only F5 (.inr (Nat.le_refl _))).then_only qf (.inr (by omega))
  have hl' : (S.set i a).length = S.length := by simp
  refine bodyPost_ret (v := rclk now last (.slice (some ⟨g, 0, none⟩) S.length c1)) ?_ rfl ⟨some ⟨g, 0, none⟩, c1, by rw [hl'], ?_, G5⟩
  · simp [results, Try.results43, go_sem, q0, q1, q2]
  · unfold SOwn
    rw [hl']
    exact own_base O5 (Nat.zero_le _)

/-! ### Enter, Leave -/
def TellPost (now last : Int) (S' : List Int) (code : Int) (w : World) (e : Ending) (w' : World) : Prop := ∃ A c, e = .returned (.tuple #[rclk now last (.slice A S'.length c), .int .i64 code]) ∧ SOwn w' (.slice A S'.length c) S' ∧ Fr none_ w w'
section
variable (now last : Int) (A : Option Addr) (c : Nat) (S : List Int) (t a : Int) (w : World)
set_option maxHeartbeats 1000000 in
theorem renter_any (h : SOwn w (.slice A S.length c) S) (hl : S.length ≤ 64) : Calls Try.prog 13 #[rclk now last (.slice A S.length c), .int .i64 t, .int .i64 a] w (TellPost now last (enterS now S t a) (enterC now S t a) w) := by
  have fin : ∀ w', Fr none_ w w' → SOwn w' (.slice A S.length c) S := fun w' hf => own_none h hf
  have Fin := hid_ fin
  have H := hid_ h
  clear fin h
  by_cases e : t < 0 ∨ (S.length : Int) ≤ t
  · have e2 : enterC now S t a = 1 := by unfold enterC; rw [if_pos e]
    have e1 : enterS now S t a = S := by unfold enterS; rw [e2]; rfl
    rw [e1, e2]
    clear e1 e2
    have E := hid_ e
    by_cases e0 : t < 0
    · clear e
      go_enter Try.func13, Try.ntmps13
      go_wp2
      exact bodyPost_ret (v := .tuple #[rclk now last (.slice A S.length c), .int .i64 1]) (by simp [results, Try.results13, go_sem]) rfl ⟨A, c, rfl, Fin.out _ (by repeat (first | exact Fr.refl _ _ | apply Fr.drew | apply Fr.alloc)), by repeat (first | exact Fr.refl _ _ | apply Fr.drew | apply Fr.alloc)⟩
    · have e3 : (S.length : Int) ≤ t := by omega
      clear e
      go_enter Try.func13, Try.ntmps13
      go_wp2
      exact bodyPost_ret (v := .tuple #[rclk now last (.slice A S.length c), .int .i64 1]) (by simp [results, Try.results13, go_sem]) rfl ⟨A, c, rfl, Fin.out _ (by repeat (first | exact Fr.refl _ _ | apply Fr.drew | apply Fr.alloc)), by repeat (first | exact Fr.refl _ _ | apply Fr.drew | apply Fr.alloc)⟩
  · obtain ⟨i, rfl⟩ : ∃ i : Nat, t = i := ⟨t.toNat, by omega⟩
    have hil : i < S.length := by omega
    have hi : S[i]? = some S[i] := List.getElem?_eq_getElem hil
    have hg : S.getD (i : Int).toNat 0 = S[i] := by simp [List.getD, hi]
    obtain ⟨x, hx⟩ : ∃ x, x = S[i] := ⟨_, rfl⟩
    rw [← hx] at hi hg
    obtain ⟨g, rfl, hgl, d0⟩ := sown_cell H.out hi
    have hgl1 : g < w.heap.size + 1 := by omega
    have hi0' : (0 : Int) ≤ (i : Int) := Int.natCast_nonneg _
    have hi1' : (i : Int) < (S.length : Int) := by omega
    have Hx := hid_ hx
    have Hg := hid_ hg
    have E := hid_ e
    clear hi hx e hg
    by_cases h0 : 0 < x
    · have e2 : enterC now S i a = 13 := by unfold enterC; rw [if_neg E.out, Hg.out, if_pos h0]
      have e1 : enterS now S i a = S := by unfold enterS; rw [e2]; rfl
      rw [e1, e2]
      clear e1 e2
      go_enter Try.func13, Try.ntmps13
      go_wp2
      exact bodyPost_ret (v := .tuple #[rclk now last (.slice (some ⟨g, 0, none⟩) S.length c), .int .i64 13]) (by simp [results, Try.results13, go_sem]) rfl ⟨_, c, rfl, Fin.out _ (by repeat (first | exact Fr.refl _ _ | apply Fr.drew | apply Fr.alloc)), by repeat (first | exact Fr.refl _ _ | apply Fr.drew | apply Fr.alloc)⟩
    · by_cases ha : a < 1 ∨ now < a
      · have e2 : enterC now S i a = 2 := by unfold enterC; rw [if_neg E.out, Hg.out, if_neg h0, if_pos ha]
        have e1 : enterS now S i a = S := by unfold enterS; rw [e2]; rfl
        rw [e1, e2]
        clear e1 e2
        by_cases ha1 : a < 1
        · clear ha
          go_enter Try.func13, Try.ntmps13
          go_wp2
          exact bodyPost_ret (v := .tuple #[rclk now last (.slice (some ⟨g, 0, none⟩) S.length c), .int .i64 2]) (by simp [results, Try.results13, go_sem]) rfl ⟨_, c, rfl, Fin.out _ (by repeat (first | exact Fr.refl _ _ | apply Fr.drew | apply Fr.alloc)), by repeat (first | exact Fr.refl _ _ | apply Fr.drew | apply Fr.alloc)⟩
        · have ha2 : now < a := by omega
          clear ha
          go_enter Try.func13, Try.ntmps13
          go_wp2
          exact bodyPost_ret (v := .tuple #[rclk now last (.slice (some ⟨g, 0, none⟩) S.length c), .int .i64 2]) (by simp [results, Try.results13, go_sem]) rfl ⟨_, c, rfl, Fin.out _ (by repeat (first | exact Fr.refl _ _ | apply Fr.drew | apply Fr.alloc)), by repeat (first | exact Fr.refl _ _ | apply Fr.drew | apply Fr.alloc)⟩
      · have e2 : enterC now S i a = 0 := by unfold enterC; rw [if_neg E.out, Hg.out, if_neg h0, if_neg ha]
        have e1 : enterS now S i a = S.set i a := by unfold enterS; rw [e2, if_pos rfl]; simp
        rw [e1, e2]
        have ha1 : 1 ≤ a := by omega
        have ha2 : a ≤ now := by omega
        clear e1 e2 ha
        go_enter Try.func13, Try.ntmps13
        go_wp2_with fail
        refine (rset_ok now last (some ⟨g, 0, none⟩) c S i a _ (own_none H.out (by repeat (first | exact Fr.refl _ _ | apply Fr.drew | apply Fr.alloc))) hl hil).mono ?_
        rintro e w1 ⟨A1, c1, rfl, ho1, hf1⟩
        have k1 := (Blk.new (w.alloc (rclkB now last (.slice (some ⟨g, 0, none⟩) S.length c))) 35 #[.int .i64 0, .int .i64 0, .slice none 0 0]).fr hf1 id
        rw [World.size_alloc] at k1
        have K1 := hid_ k1
        have G1 := hid_ ((((Fr.refl none_ w).alloc _).alloc _).then_none hf1)
        have ho2 : w1.ownsRow 0 3 1 (.slice A1 S.length c1) S.length (numFlat (S.set i a)) := by
          have := ho1
          unfold SOwn at this
          rw [List.length_set] at this
          exact this
        have O1 := hid_ ho2
        clear ho2
        have r0 : w1.cell? ⟨w.heap.size + 1, 0, none⟩ = some (.int .i64 0) := k1.cell' rfl
        have r1 : w1.cell? ⟨w.heap.size + 1, 1, none⟩ = some (.int .i64 0) := k1.cell' rfl
        have r2 : w1.cell? ⟨w.heap.size + 1, 2, none⟩ = some (.slice none 0 0) := k1.cell' rfl
        have f0 := k1.frozen 0
        have f1 := k1.frozen 1
        have f2 := k1.frozen 2
        clear ho1 hf1 k1
        go_wp2
        clear r0 r1 r2 f0 f1 f2
        obtain ⟨qb, qf⟩ := box3 K1.out (.int .i64 now) (.int .i64 last) (.slice A1 S.length c1)
        have q0 := qb.cell' (i := 0) rfl
        have q1 := qb.cell' (i := 1) rfl
        have q2 := qb.cell' (i := 2) rfl
        have O5 := own_fr O1.out qf (fun k hk e => own_blk_ne O1.out K1.out (by decide) (by rw [hk, show k = w.heap.size + 1 from e]))
        have G5 := G1.out.then_only qf (.inr (by omega))
        have hls : (S.set i a).length = S.length := by simp
        refine bodyPost_ret (v := .tuple #[rclk now last (.slice A1 S.length c1), .int .i64 0]) ?_ rfl ⟨A1, c1, by rw [hls], ?_, ?_⟩
        · simp [results, Try.results13, go_sem, q0, q1, q2]
        · unfold SOwn; rw [hls]; exact O5
        · exact G5
theorem rleave_any (h : SOwn w (.slice A S.length c) S) (hl : S.length ≤ 64) (hnn : ∀ x ∈ S, 0 ≤ x) : Calls Try.prog 15 #[rclk now last (.slice A S.length c), .int .i64 t] w (TellPost now last (leaveS S t) (leaveC S t) w) := by
  have fin : ∀ w', Fr none_ w w' → SOwn w' (.slice A S.length c) S := fun w' hf => own_none h hf
  have Fin := hid_ fin
  have H := hid_ h
  have Hn := hid_ hnn
  clear fin h hnn
  by_cases e : t < 0 ∨ (S.length : Int) ≤ t
  · have e2 : leaveC S t = 1 := by unfold leaveC; rw [if_pos e]
    have e1 : leaveS S t = S := by unfold leaveS; rw [e2]; rfl
    rw [e1, e2]
    clear e1 e2
    have E := hid_ e
    by_cases e0 : t < 0
    · clear e
      go_enter Try.func15, Try.ntmps15
      go_wp2
      exact bodyPost_ret (v := .tuple #[rclk now last (.slice A S.length c), .int .i64 1]) (by simp [results, Try.results15, go_sem]) rfl ⟨A, c, rfl, Fin.out _ (by repeat (first | exact Fr.refl _ _ | apply Fr.drew | apply Fr.alloc)), by repeat (first | exact Fr.refl _ _ | apply Fr.drew | apply Fr.alloc)⟩
    · have e3 : (S.length : Int) ≤ t := by omega
      clear e
      go_enter Try.func15, Try.ntmps15
      go_wp2
      exact bodyPost_ret (v := .tuple #[rclk now last (.slice A S.length c), .int .i64 1]) (by simp [results, Try.results15, go_sem]) rfl ⟨A, c, rfl, Fin.out _ (by repeat (first | exact Fr.refl _ _ | apply Fr.drew | apply Fr.alloc)), by repeat (first | exact Fr.refl _ _ | apply Fr.drew | apply Fr.alloc)⟩
  · obtain ⟨i, rfl⟩ : ∃ i : Nat, t = i := ⟨t.toNat, by omega⟩
    have hil : i < S.length := by omega
    have hi : S[i]? = some S[i] := List.getElem?_eq_getElem hil
    have hg : S.getD (i : Int).toNat 0 = S[i] := by simp [List.getD, hi]
    obtain ⟨x, hx⟩ : ∃ x, x = S[i] := ⟨_, rfl⟩
    rw [← hx] at hi hg
    obtain ⟨g, rfl, hgl, d0⟩ := sown_cell H.out hi
    have hgl1 : g < w.heap.size + 1 := by omega
    have hi0' : (0 : Int) ≤ (i : Int) := Int.natCast_nonneg _
    have hi1' : (i : Int) < (S.length : Int) := by omega
    have Hx := hid_ hx
    have Hg := hid_ hg
    have E := hid_ e
    clear hi hx e hg
    by_cases h0 : x = 0
    · subst h0
      have e2 : leaveC S i = 13 := by unfold leaveC; rw [if_neg E.out, Hg.out, if_pos rfl]
      have e1 : leaveS S i = S := by unfold leaveS; rw [e2]; rfl
      rw [e1, e2]
      clear e1 e2
      go_enter Try.func15, Try.ntmps15
      go_wp2
      exact bodyPost_ret (v := .tuple #[rclk now last (.slice (some ⟨g, 0, none⟩) S.length c), .int .i64 13]) (by simp [results, Try.results15, go_sem]) rfl ⟨_, c, rfl, Fin.out _ (by repeat (first | exact Fr.refl _ _ | apply Fr.drew | apply Fr.alloc)), by repeat (first | exact Fr.refl _ _ | apply Fr.drew | apply Fr.alloc)⟩
    · have e2 : leaveC S i = 0 := by unfold leaveC; rw [if_neg E.out, Hg.out, if_neg h0]
      have e1 : leaveS S i = S.set i 0 := by unfold leaveS; rw [e2, if_pos rfl]; simp
      rw [e1, e2]
      have hx0 : (x == 0) = false := by simpa using h0
      clear e1 e2 h0
      go_enter Try.func15, Try.ntmps15
      go_wp2_with fail
      refine (rset_ok now last (some ⟨g, 0, none⟩) c S i 0 _ (own_none H.out (by repeat (first | exact Fr.refl _ _ | apply Fr.drew | apply Fr.alloc))) hl hil).mono ?_
      rintro e w1 ⟨A1, c1, rfl, ho1, hf1⟩
      have k1 := (Blk.new (w.alloc (rclkB now last (.slice (some ⟨g, 0, none⟩) S.length c))) 35 #[.int .i64 0, .int .i64 0, .slice none 0 0]).fr hf1 id
      rw [World.size_alloc] at k1
      have K1 := hid_ k1
      have G1 := hid_ ((((Fr.refl none_ w).alloc _).alloc _).then_none hf1)
      have ho2 : w1.ownsRow 0 3 1 (.slice A1 S.length c1) S.length (numFlat (S.set i 0)) := by
        have := ho1
        unfold SOwn at this
        rw [List.length_set] at this
        exact this
      have O1 := hid_ ho2
      clear ho2
      have r0 : w1.cell? ⟨w.heap.size + 1, 0, none⟩ = some (.int .i64 0) := k1.cell' rfl
      have r1 : w1.cell? ⟨w.heap.size + 1, 1, none⟩ = some (.int .i64 0) := k1.cell' rfl
      have r2 : w1.cell? ⟨w.heap.size + 1, 2, none⟩ = some (.slice none 0 0) := k1.cell' rfl
      have f0 := k1.frozen 0
      have f1 := k1.frozen 1
      have f2 := k1.frozen 2
      clear ho1 hf1 k1
      go_wp2
      clear r0 r1 r2 f0 f1 f2
      obtain ⟨qb, qf⟩ := box3 K1.out (.int .i64 now) (.int .i64 last) (.slice A1 S.length c1)
      have q0 := qb.cell' (i := 0) rfl
      have q1 := qb.cell' (i := 1) rfl
      have q2 := qb.cell' (i := 2) rfl
      have O5 := own_fr O1.out qf (fun k hk e => own_blk_ne O1.out K1.out (by decide) (by rw [hk, show k = w.heap.size + 1 from e]))
      have G5 := G1.out.then_only qf (.inr (by omega))
      have hls : (S.set i 0).length = S.length := by simp
      refine bodyPost_ret (v := .tuple #[rclk now last (.slice A1 S.length c1), .int .i64 0]) ?_ rfl ⟨A1, c1, by rw [hls], ?_, ?_⟩
      · simp [results, Try.results15, go_sem, q0, q1, q2]
      · unfold SOwn; rw [hls]; exact O5
      · exact G5

end
end Go.Proofs.Ytobmkolgjdgeiaa

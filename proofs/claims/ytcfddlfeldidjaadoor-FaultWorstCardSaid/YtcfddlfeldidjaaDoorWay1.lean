/- Ways that came in: few, and the error of one, by contracts. -/
import Derived.Test.YtcfddlfeldidjaaDoorAw1
import Derived.Test.YtcfddlfeldidjaaDoorOpen
namespace Go.Proofs.YtcfddlfeldidjaaDoor
open Go.RowKit Go.ChangeShapes Go.WideShapes
set_option maxRecDepth 100000
set_option linter.unusedVariables false

def StrReads (w : World) (A : Option Addr) (n : Nat) (N : List ByteArray) : Prop :=
  N.length = n ∧ (0 < n → ∃ b off, A = some ⟨b, off, none⟩ ∧ b < w.heap.size ∧ ∀ k x, N[k]? = some x → x.size ≤ reachBytes ∧ w.cell? ⟨b, off + k, none⟩ = some (.string x))
theorem leaves_Str : leaves Tryd.prog 6 9 = [(0, .string)] := by kernel_rfl
theorem cells_Str : Tryd.prog.cellsOf 9 = 1 := by kernel_rfl
theorem Str_at {H : Type} {enc : TypeId × Value → H} {w : World} {A : Option Addr} {n : Nat} (h : Rd enc Tryd.prog w 6 9 A n) : ∃ N, StrReads w A n N := by
  rcases Nat.eq_zero_or_pos n with h0 | h0
  · subst h0; exact ⟨[], rfl, fun h => absurd h (by omega)⟩
  · obtain ⟨b, off, hA, hb, hc⟩ := h h0
    obtain ⟨L, hl, hL⟩ := choose_list (α := ByteArray) (P := fun k x => x.size ≤ reachBytes ∧ w.cell? ⟨b, off + k, none⟩ = some (.string x)) n (fun k hk => by
      have hk := hc k hk
      rw [leaves_Str, cells_Str] at hk
      obtain ⟨_, h0, x0, rfl, w0⟩ := hk 0 .string (by simp)
      exact ⟨x0, w0, by simpa using h0⟩)
    exact ⟨L, hl, fun _ => ⟨b, off, hA, hb, hL⟩⟩
theorem StrReads.fr {w w' : World} {A : Option Addr} {n : Nat} {L : List ByteArray} (h : StrReads w A n L) (hf : Fr none_ w w') : StrReads w' A n L :=
  ⟨h.1, fun hn => by
    obtain ⟨b, off, hA, hb, hc⟩ := h.2 hn
    exact ⟨b, off, hA, by have := hf.size; omega, fun k p hp => ⟨(hc k p hp).1, cellFr (hc k p hp).2 hf⟩⟩⟩
theorem StrReads.at {w : World} {A : Option Addr} {n : Nat} {L : List ByteArray} (h : StrReads w A n L) {k : Nat} {x : ByteArray} (hx : L[k]? = some x) : ∃ b off, A = some ⟨b, off, none⟩ ∧ b < w.heap.size ∧ x.size ≤ reachBytes ∧ w.cell? ⟨b, off + k, none⟩ = some (.string x) := by
  have hk := (List.getElem?_eq_some_iff.1 hx).1
  obtain ⟨b, off, hA, hb, hc⟩ := h.2 (by have := h.1; omega)
  exact ⟨b, off, hA, hb, hc k _ hx⟩
theorem strs_conf {H : Type} {enc : TypeId × Value → H} {w : World} {v : Value} (h : Conf enc Tryd.prog w (.slice 39) v) : ∃ A n c L, v = .slice A n c ∧ n ≤ c ∧ c ≤ maxLen ∧ StrReads w A n L := by
  obtain ⟨fuel, d, ps, ht, hlt, hwt⟩ := h
  obtain ⟨A, n, c, rfl, h1, h2, h3, h4, h5⟩ := open_list 6 Tryd.underlying39 ht hlt hwt (by rw [leaves_Str]; rfl) (by rw [leaves_Str, cells_Str]; rfl)
  obtain ⟨L, hL⟩ := Str_at h5
  exact ⟨A, n, c, L, rfl, h1, h2, hL⟩
def IntReads (w : World) (A : Option Addr) (n : Nat) (N : List Int) : Prop :=
  N.length = n ∧ (0 < n → ∃ b off, A = some ⟨b, off, none⟩ ∧ b < w.heap.size ∧ ∀ k x, N[k]? = some x → w.cell? ⟨b, off + k, none⟩ = some (.int .i64 x))
theorem leaves_Int : leaves Tryd.prog 6 3 = [(0, .int .i64)] := by kernel_rfl
theorem cells_Int : Tryd.prog.cellsOf 3 = 1 := by kernel_rfl
theorem Int_at {H : Type} {enc : TypeId × Value → H} {w : World} {A : Option Addr} {n : Nat} (h : Rd enc Tryd.prog w 6 3 A n) : ∃ N, IntReads w A n N := by
  rcases Nat.eq_zero_or_pos n with h0 | h0
  · subst h0; exact ⟨[], rfl, fun h => absurd h (by omega)⟩
  · obtain ⟨b, off, hA, hb, hc⟩ := h h0
    obtain ⟨L, hl, hL⟩ := choose_list (α := Int) (P := fun k x => w.cell? ⟨b, off + k, none⟩ = some (.int .i64 x)) n (fun k hk => by
      have hk := hc k hk
      rw [leaves_Int, cells_Int] at hk
      obtain ⟨_, h0, x0, rfl, w0⟩ := hk 0 (.int .i64) (by simp)
      exact ⟨x0, by simpa using h0⟩)
    exact ⟨L, hl, fun _ => ⟨b, off, hA, hb, hL⟩⟩
theorem IntReads.fr {w w' : World} {A : Option Addr} {n : Nat} {L : List Int} (h : IntReads w A n L) (hf : Fr none_ w w') : IntReads w' A n L :=
  ⟨h.1, fun hn => by
    obtain ⟨b, off, hA, hb, hc⟩ := h.2 hn
    exact ⟨b, off, hA, by have := hf.size; omega, fun k p hp => cellFr (hc k p hp) hf⟩⟩
theorem IntReads.at {w : World} {A : Option Addr} {n : Nat} {L : List Int} (h : IntReads w A n L) {k : Nat} {x : Int} (hx : L[k]? = some x) : ∃ b off, A = some ⟨b, off, none⟩ ∧ b < w.heap.size ∧ w.cell? ⟨b, off + k, none⟩ = some (.int .i64 x) := by
  have hk := (List.getElem?_eq_some_iff.1 hx).1
  obtain ⟨b, off, hA, hb, hc⟩ := h.2 (by have := h.1; omega)
  exact ⟨b, off, hA, hb, hc k _ hx⟩
theorem ints_conf {H : Type} {enc : TypeId × Value → H} {w : World} {v : Value} (h : Conf enc Tryd.prog w (.slice 40) v) : ∃ A n c L, v = .slice A n c ∧ n ≤ c ∧ c ≤ maxLen ∧ IntReads w A n L := by
  obtain ⟨fuel, d, ps, ht, hlt, hwt⟩ := h
  obtain ⟨A, n, c, rfl, h1, h2, h3, h4, h5⟩ := open_list 6 Tryd.underlying40 ht hlt hwt (by rw [leaves_Int]; rfl) (by rw [leaves_Int, cells_Int]; rfl)
  obtain ⟨L, hL⟩ := Int_at h5
  exact ⟨A, n, c, L, rfl, h1, h2, hL⟩

/-- A way: its slices. -/
structure Wy where
  A : Option Addr
  n : Nat
  c : Nat
  B : Option Addr
  m : Nat
  d : Nat
  k : Int
  ps : List ByteArray
  ss : List Int
abbrev wyA (y : Wy) : Array Value := #[.slice y.A y.n y.c, .slice y.B y.m y.d, .int .i64 y.k]
structure WyIn (w : World) (y : Wy) : Prop where
  p : StrReads w y.A y.n y.ps
  s : IntReads w y.B y.m y.ss
  nc : y.n ≤ y.c
  cm : y.c ≤ maxLen
  md : y.m ≤ y.d
  dm : y.d ≤ maxLen
theorem WyIn.keep {w w' : World} {y : Wy} (h : WyIn w y) (hf : Fr none_ w w') : WyIn w' y := ⟨h.p.fr hf, h.s.fr hf, h.nc, h.cm, h.md, h.dm⟩
/-- The places and slots of a way. -/
def Wy.list (y : Wy) : List (ByteArray × Int) := y.ps.mapIdx fun i p => (p, y.ss.getD i 0)
theorem Wy.list_len (y : Wy) : y.list.length = y.ps.length := by simp [Wy.list]
theorem Wy.list_get (y : Wy) {i : Nat} {p : ByteArray} (h : y.ps[i]? = some p) : y.list[i]? = some (p, y.ss.getD i 0) := by
  simp [Wy.list, List.getElem?_mapIdx, h]
def Wy.er (y : Wy) : Er := chE y.list y.k

theorem way_of {H : Type} {enc : TypeId × Value → H} {w : World} {v0 v1 : Value} (k : Int) (h0 : Conf enc Tryd.prog w (.slice 39) v0) (h1 : Conf enc Tryd.prog w (.slice 40) v1) :
    ∃ y : Wy, v0 = .slice y.A y.n y.c ∧ v1 = .slice y.B y.m y.d ∧ y.k = k ∧ WyIn w y := by
  obtain ⟨A, n, c, L, rfl, a1, a2, a3⟩ := strs_conf h0
  obtain ⟨B, m, d, M, rfl, b1, b2, b3⟩ := ints_conf h1
  exact ⟨⟨A, n, c, B, m, d, k, L, M⟩, rfl, rfl, rfl, a3, b3, a1, a2, b1, b2⟩
def FewPost1 (y : Wy) (w : World) (e : Ending) (w' : World) : Prop := ∃ b : Bool, e = .returned (.bool b) ∧ (b = true → y.n ≤ 100) ∧ Fr none_ w w'
theorem min2 (x : Int) (h : 0 ≤ x) : ∃ y : Int, (if 2000 < x then (2000 : Int) else x) = y ∧ 0 ≤ y ∧ y ≤ 2000 := ⟨_, rfl, by split <;> omega, by split <;> omega⟩
set_option maxHeartbeats 4000000 in
theorem few1_ok (y : Wy) (w : World) (h : WyIn w y) : Calls Tryd.prog 17 #[.agg (wyA y)] w (FewPost1 y w) := by
  obtain ⟨A, n, c, B, m, d, k, ps, ss⟩ := y
  obtain ⟨w0, hw0⟩ : ∃ w0, w0 = w.alloc (.cells #[.slice A n c, .slice B m d, .int .i64 k] 42) := ⟨_, rfl⟩
  have f0 : Fr none_ w w0 := by rw [hw0]; exact (Fr.refl none_ w).alloc _
  have B0 : Hid (Blk w0 w.heap.size 42 #[.slice A n c, .slice B m d, .int .i64 k]) := hid_ (by rw [hw0]; exact Blk.new w _ _)
  have H := hid_ (h.keep f0)
  have F0 := hid_ f0
  have hcm := h.cm
  have hnc := h.nc
  unfold maxLen at hcm
  simp only at hcm hnc
  have hln := h.p.1
  simp only at hln
  clear h f0
  go_enter Tryd.func17, Tryd.ntmps17
  go_wp2_with fail
  change Code.wp _ _ _ _ (w.alloc (.cells #[.slice A n c, .slice B m d, .int .i64 k] 42))
  rw [← hw0]
  clear hw0
  have g0 : w0.cell? ⟨w.heap.size, 0, none⟩ = some (.slice A n c) := B0.out.cell' rfl
  go_loop [3, 4] (fun s i => ∃ (j : Nat) (x : Int), j ≤ n ∧ j ≤ 101 ∧ i = .int .i64 j ∧ s = .int .i64 x ∧ 0 ≤ x ∧ x ≤ (j : Int) * 2000) (fun _ i => n - (intOf i).toNat)
  case atStart => exact ⟨0, 0, Nat.zero_le _, by omega, rfl, rfl, by omega, by omega⟩
  case round =>
    obtain ⟨j, x, hj, hj1, rfl, rfl, hx0, hx1⟩ := hrel
    have hi0 : (0 : Int) ≤ (j : Int) := Int.natCast_nonneg _
    by_cases hlt : j < n
    · by_cases h100 : (j : Int) ≤ 100
      · obtain ⟨p, hp⟩ : ∃ p, ps[j]? = some p := ⟨_, List.getElem?_eq_getElem (by omega)⟩
        obtain ⟨b, off, rfl, hb, hz, q0⟩ := H.out.p.at hp
        unfold reachBytes at hz
        have hi1 : (j : Int) < (n : Int) := by omega
        obtain ⟨m5, e5, m5a, m5b⟩ := min2 (p.size : Int) (by omega)
        clear hp
        go_wp2_with fail
        go_round
        case rel => exact ⟨j + 1, _, by omega, by omega, by go_num, rfl, by omega, by omega⟩
        case measure => simp [intOf]; omega
      · obtain rfl : j = 101 := by omega
        go_wp2
        go_ret
        exact ⟨false, rfl, (fun h => by cases h), F0.out⟩
    · obtain rfl : j = n := by omega
      by_cases g1 : (j : Int) ≤ 100
      · by_cases g2 : x ≤ 2000
        · go_wp2
          go_ret
          exact ⟨true, rfl, fun _ => by show j ≤ 100; omega, F0.out⟩
        · go_wp2
          go_ret
          exact ⟨false, rfl, (fun h => by cases h), F0.out⟩
      · go_wp2
        go_ret
        exact ⟨false, rfl, (fun h => by cases h), F0.out⟩
def MadePost (y : Wy) (w : World) (e : Ending) (w' : World) : Prop := ∃ v, e = .returned v ∧ ErAt w' y.er v ∧ Fr none_ w w'
theorem drop_cons {α : Type} {L : List α} {j : Nat} {x : α} (h : L[j]? = some x) : L.drop j = x :: L.drop (j + 1) := by
  obtain ⟨hl, rfl⟩ := List.getElem?_eq_some_iff.1 h
  exact List.drop_eq_getElem_cons hl
set_option maxHeartbeats 4000000 in
theorem made_ok (y : Wy) (w : World) (h : WyIn w y) : Calls Tryd.prog 18 #[.agg (wyA y)] w (MadePost y w) := by
  obtain ⟨A, n, c, B, m, d, k, ps, ss⟩ := y
  obtain ⟨w0, hw0⟩ : ∃ w0, w0 = w.alloc (.cells #[.slice A n c, .slice B m d, .int .i64 k] 42) := ⟨_, rfl⟩
  have f0 : Fr none_ w w0 := by rw [hw0]; exact (Fr.refl none_ w).alloc _
  have B0 : Hid (Blk w0 w.heap.size 42 #[.slice A n c, .slice B m d, .int .i64 k]) := hid_ (by rw [hw0]; exact Blk.new w _ _)
  have H := hid_ (h.keep f0)
  have F0 := hid_ f0
  have hcm := h.cm
  have hnc := h.nc
  have hdm := h.dm
  have hmd := h.md
  unfold maxLen at hcm hdm
  simp only at hcm hnc hdm hmd
  have hln := h.p.1
  have hlm := h.s.1
  simp only at hln hlm
  obtain ⟨zl, hzl⟩ : ∃ zl, zl = (⟨A, n, c, B, m, d, k, ps, ss⟩ : Wy).list := ⟨_, rfl⟩
  have HZ := hid_ hzl
  have hzn : zl.length = n := by rw [hzl, Wy.list_len]; exact hln
  clear h f0 hzl
  go_enter Tryd.func18, Tryd.ntmps18
  have g0 : w0.cell? ⟨w.heap.size, 0, none⟩ = some (.slice A n c) := B0.out.cell' rfl
  have g2 : w0.cell? ⟨w.heap.size, 2, none⟩ = some (.int .i64 k) := B0.out.cell' rfl
  rw [hw0] at g0 g2
  go_wp2_with fail
  change Code.wp _ _ _ _ (w.alloc (.cells #[.slice A n c, .slice B m d, .int .i64 k] 42))
  rw [← hw0]
  clear g0 g2 hw0
  go_loopw [3, 4] (fun v i wr => ∃ j : Nat, j ≤ n ∧ i = .int .i64 ((j : Int) - 1) ∧ ErAt wr (chE (zl.drop j) k) v ∧ Fr none_ w0 wr) (fun _ i _ => (intOf i + 1).toNat)
  case atStart => exact ⟨n, Nat.le_refl _, rfl, by rw [List.drop_eq_nil_of_le (by omega)]; rfl, Fr.refl _ _⟩
  case round =>
    obtain ⟨j, hj, rfl, hE, hF⟩ := hrel
    obtain ⟨et, ex, rfl⟩ := hE.iface
    have HE := hid_ hE
    have F := hid_ hF
    have g0 : wr.cell? ⟨w.heap.size, 0, none⟩ = some (.slice A n c) := (B0.out.fr hF id).cell' rfl
    have g1 : wr.cell? ⟨w.heap.size, 1, none⟩ = some (.slice B m d) := (B0.out.fr hF id).cell' rfl
    clear hE hF
    match j, hj, HE with
    | 0, hj, HE =>
      go_wp2_with fail
      go_ret
      exact ⟨_, rfl, by rw [Wy.er, ← HZ.out]; exact HE.out, F0.out.then_none F.out⟩
    | j + 1, hj, HE =>
      obtain ⟨p, hp⟩ : ∃ p, ps[j]? = some p := ⟨_, List.getElem?_eq_getElem (by omega)⟩
      obtain ⟨b, off, rfl, hb, hz, q0⟩ := (H.out.keep F.out).p.at hp
      have hzj : zl[j]? = some (p, ss.getD j 0) := by rw [HZ.out]; exact Wy.list_get (⟨_, n, c, B, m, d, k, ps, ss⟩ : Wy) hp
      have HZJ := hid_ hzj
      have ej : ((j + 1 : Nat) : Int) - 1 = (j : Int) := by omega
      rw [ej]
      have hi0 : (0 : Int) ≤ (j : Int) := Int.natCast_nonneg _
      have hi1 : (j : Int) < (n : Int) := by omega
      unfold reachBytes at hz
      clear hp hzj ej
      by_cases hjm : (j : Int) < (m : Int)
      · obtain ⟨s, hs⟩ : ∃ s, ss[j]? = some s := ⟨_, List.getElem?_eq_getElem (by omega)⟩
        obtain ⟨b2, off2, rfl, hb2, q1⟩ := (H.out.keep F.out).s.at hs
        have hsd : ss.getD j 0 = s := by simp [List.getD, hs]
        have HSD := hid_ hsd
        clear hs hsd
        go_wp2_with fail
        refine (at_any p s _ _ _).mono ?_
        rintro e w1 ha
        have HA := hid_ ha
        obtain ⟨rfl, -, -⟩ := ha
        go_wp2_with fail
        go_roundw
        case rel => exact ⟨j, by omega, rfl, by rw [drop_cons HZJ.out, HSD.out]; exact HA.out.er HE.out, F.out.then_none HA.out.2.2⟩
        case measure => simp [intOf]
      · have hsd : ss.getD j 0 = 0 := by simp [List.getD, List.getElem?_eq_none (show ss.length ≤ j by omega)]
        have HSD := hid_ hsd
        clear hsd
        go_wp2_with fail
        refine (at_any p 0 _ _ _).mono ?_
        rintro e w1 ha
        have HA := hid_ ha
        obtain ⟨rfl, -, -⟩ := ha
        go_wp2_with fail
        go_roundw
        case rel => exact ⟨j, by omega, rfl, by rw [drop_cons HZJ.out, HSD.out]; exact HA.out.er HE.out, F.out.then_none HA.out.2.2⟩
        case measure => simp [intOf]
end Go.Proofs.YtcfddlfeldidjaaDoor

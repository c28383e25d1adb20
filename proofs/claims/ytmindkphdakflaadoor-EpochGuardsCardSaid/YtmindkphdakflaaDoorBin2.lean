/- Contracts of package epoch's Bin: Len, Items, Ripe. -/
import Derived.Test.YtmindkphdakflaaDoorBin
namespace Go.Proofs.YtmindkphdakflaaDoor
open Go.RowKit
set_option maxRecDepth 100000
set_option linter.unusedVariables false

theorem itFlat_get : ∀ (L : List It) (i : Nat) (p : It), L[i]? = some p → (itFlat L)[i * 4]? = some (.int .i64 p.1) ∧ (itFlat L)[i * 4 + 1]? = some (.int .i64 p.2.1) ∧ (itFlat L)[i * 4 + 1 + 1]? = some (.int .i64 p.2.2.1) ∧ (itFlat L)[i * 4 + 1 + 1 + 1]? = some (.int .i64 p.2.2.2)
  | [], i, p, h => by simp at h
  | q :: L, 0, p, h => by
    obtain rfl : q = p := by simpa using h
    simp [itFlat, itCells]
  | q :: L, i + 1, p, h => by
    have := itFlat_get L i p (by simpa using h)
    rw [show (i + 1) * 4 = i * 4 + 1 + 1 + 1 + 1 by omega]
    simpa [itFlat, itCells] using this
theorem itFlat_one (L : List It) : ∀ u ∈ itFlat L, u.oneCell' = true := by
  intro u hu
  simp only [itFlat, List.mem_flatten, List.mem_map] at hu
  obtain ⟨l, ⟨p, _, rfl⟩, hu⟩ := hu
  simp only [itCells, List.mem_cons, List.not_mem_nil, or_false] at hu
  rcases hu with rfl | rfl | rfl | rfl <;> rfl
theorem it_cell {w : World} {base : Nat} {A : Option Addr} {c : Nat} {L : List It} (h : w.ownsRow base 47 4 (.slice A L.length c) L.length (itFlat L)) {i : Nat} {p : It} (hi : L[i]? = some p) : ∃ g, A = some ⟨g, 0, none⟩ ∧ g < w.heap.size ∧
    w.cell? ⟨g, i * 4, none⟩ = some (.int .i64 p.1) ∧ w.cell? ⟨g, i * 4 + 1, none⟩ = some (.int .i64 p.2.1) ∧ w.cell? ⟨g, i * 4 + 1 + 1, none⟩ = some (.int .i64 p.2.2.1) ∧ w.cell? ⟨g, i * 4 + 1 + 1 + 1, none⟩ = some (.int .i64 p.2.2.2) := by
  have hn : 0 < L.length := by have := (List.getElem?_eq_some_iff.1 hi).1; omega
  obtain ⟨A', c', hv, _, _, hp⟩ := own_parts h
  obtain ⟨g, hA, hg, hc⟩ := hp hn
  have hA' : A = some ⟨g, 0, none⟩ := by injection hv with h1; rw [h1, hA]
  obtain ⟨d0, d1, d2, d3⟩ := itFlat_get L i p hi
  exact ⟨g, hA', hg, hc _ _ d0, hc _ _ d1, hc _ _ d2, hc _ _ d3⟩

theorem binLen_ok (B : Nat) (A : Option Addr) (c : Nat) (L : List It) (w : World) (h : Bn w B (.slice A L.length c) L) :
    Calls Tryd.prog 18 #[.pointer (some ⟨B, 0, none⟩)] w fun e w' => e = .returned (.int .i64 L.length) ∧ w = w' := by
  have c0 : w.cell? ⟨B, 0, none⟩ = some (.slice A L.length c) := h.hB.cell' rfl
  go_enter Tryd.func18, Tryd.ntmps18
  go_wp2
  go_ret
  exact ⟨rfl, rfl⟩

def ItemsPost (L : List It) (w : World) (e : Ending) (w' : World) : Prop :=
  ∃ A c, e = .returned (.slice A L.length c) ∧ w'.ownsRow w.heap.size 47 4 (.slice A L.length c) L.length (itFlat L) ∧ Fr none_ w w'
set_option maxHeartbeats 1000000 in
theorem binItems_ok (B : Nat) (A : Option Addr) (c : Nat) (L : List It) (w : World) (h : Bn w B (.slice A L.length c) L) (hL : L.length ≤ 1000) :
    Calls Tryd.prog 20 #[.pointer (some ⟨B, 0, none⟩)] w (ItemsPost L w) := by
  obtain ⟨i0, hi0, hz0, hs0, hb0⟩ := info_parts item_info
  have Hi := hid_ (And.intro hi0 (And.intro hz0 (And.intro hs0 hb0)))
  have H := hid_ h
  have c0 : w.cell? ⟨B, 0, none⟩ = some (.slice A L.length c) := h.hB.cell' rfl
  have lB := h.hB.lt
  have hsrc : Hid (Reads (w.alloc (.cells #[] 47)) 4 A L.length (itFlat L)) := hid_ ((Reads.of_own h.own).alloc _)
  clear hi0 hz0 hs0 hb0 h
  go_enter Tryd.func20, Tryd.ntmps20
  go_wp2_with (at_builtin; refine wpList_append_any _ rfl (.tmp 5) (.tmp 9) 40 rfl w.heap.size 47 i0 _ 4 32 Tryd.underlying40 Hi.out.1 Hi.out.2.1 Hi.out.2.2.1 Hi.out.2.2.2 rfl (by omega) (.slice (some ⟨w.heap.size, 0, none⟩) 0 0) 0 [] rfl (own_empty_at _ _ _ _ _ (Nat.le_refl _) rfl) A L.length c (itFlat L) rfl hsrc.out (itFlat_one L) (by simp only [maxLen]; omega) (by omega) (by simp) ?_; intro A1 c1 w3 hown3 hgr3; simp only [Nat.zero_add, List.nil_append] at hown3; have F3 := hid_ (((Fr.refl none_ w).alloc (.cells #[] 47)).grown hgr3 (fun k hk => .inr (by simp [Value.ownBlock] at hk; omega))); have O3 := hid_ hown3; clear hown3 hgr3)
  go_ret
  exact ⟨A1, c1, by simp, O3.out, F3.out⟩

/-! ### Ripe -/
theorem sort_ok (p : It) (o : Int) (bo g1 g2 : Nat) (w : World) (hb : Blk w bo 3 #[.int .i64 o]) :
    Calls Tryd.prog 30 #[.agg #[.int .i64 p.1, .int .i64 p.2.1, .int .i64 p.2.2.1, .int .i64 p.2.2.2], .pointer (some ⟨bo, 0, none⟩), .pointer (some ⟨g1, 0, none⟩), .pointer (some ⟨g2, 0, none⟩)] w
      fun e w' => e = .returned (.pointer (some ⟨if p.1 < o then g1 else g2, 0, none⟩)) ∧ Fr none_ w w' := by
  have c0 : w.cell? ⟨bo, 0, none⟩ = some (.int .i64 o) := hb.cell' rfl
  have l0 := hb.lt
  by_cases h : p.1 < o
  · rw [if_pos h]
    go_enter Tryd.func30, Tryd.ntmps30
    go_wp2
    go_ret
    exact ⟨rfl, (Fr.refl none_ w).alloc _⟩
  · rw [if_neg h]
    go_enter Tryd.func30, Tryd.ntmps30
    go_wp2
    go_ret
    exact ⟨rfl, (Fr.refl none_ w).alloc _⟩
end Go.Proofs.YtmindkphdakflaaDoor

/- The table's Copy. -/
import Derived.Test.YtnlpnbllnddaaaaDoorPl5
import Derived.Test.YtnlpnbllnddaaaaDoorReads
namespace Go.Proofs.YtnlpnbllnddaaaaDoor
open Go.RowKit
set_option linter.unusedVariables false

/-- The table's cells are plain ones. -/
theorem tbl_one {cur : Array Value} {ps : List Pg} (h5 : ∀ i p, ps[i]? = some p → cur[i * 3]? = some (.bool p.1) ∧ cur[i * 3 + 1]? = some (.int .i64 p.2.1) ∧ cur[i * 3 + 1 + 1]? = some (.int .i64 p.2.2)) :
    ∀ u ∈ cur.toList.take (ps.length * 3), u.oneCell' = true := by
  intro u hu
  obtain ⟨j, hj⟩ := List.mem_iff_getElem?.1 hu
  rw [List.getElem?_take] at hj
  split at hj
  · rename_i hlt
    have hi : j / 3 < ps.length := by omega
    obtain ⟨d0, d1, d2⟩ := h5 (j / 3) _ (List.getElem?_eq_getElem hi)
    rw [Array.getElem?_toList] at hj
    have hm : j = j / 3 * 3 ∨ j = j / 3 * 3 + 1 ∨ j = j / 3 * 3 + 1 + 1 := by omega
    rcases hm with hm | hm | hm
    · rw [hm, d0] at hj
      obtain rfl := Option.some.inj hj
      rfl
    · rw [hm, d1] at hj
      obtain rfl := Option.some.inj hj
      rfl
    · rw [hm, d2] at hj
      obtain rfl := Option.some.inj hj
      rfl
  · cases hj

/-- The new table, from the row that the append laid. -/
theorem tbl_of_own {w : World} {ps : List Pg} {A : Option Addr} {c base : Nat} {cur : Array Value} (hn : 1 ≤ ps.length) (h1 : ps.length ≤ 256) (hs : ps.length * 3 ≤ cur.size)
    (h5 : ∀ i p, ps[i]? = some p → cur[i * 3]? = some (.bool p.1) ∧ cur[i * 3 + 1]? = some (.int .i64 p.2.1) ∧ cur[i * 3 + 1 + 1]? = some (.int .i64 p.2.2))
    (ho : w.ownsRow base 67 3 (.slice A ps.length c) ps.length (cur.toList.take (ps.length * 3))) :
    ∃ G2, base ≤ G2 ∧ G2 < w.heap.size ∧ A = some ⟨G2, 0, none⟩ ∧ Tbl (w.alloc (.cells #[.slice A ps.length c] 57)) w.heap.size G2 ps := by
  rcases ho.2 with ⟨_, h0⟩ | ⟨g, cap, cur2, e, hb, hh, hc, hm, hsz, ht⟩
  · omega
  · obtain ⟨rfl, rfl⟩ : A = some ⟨g, 0, none⟩ ∧ c = cap := by injection e with a b c; exact ⟨a, c⟩
    have hG : Blk w g 67 cur2 := hh
    have get : ∀ j, j < ps.length * 3 → cur2[j]? = cur[j]? := fun j hj => by
      have h := congrArg (fun l => l[j]?) ht
      simp only [List.getElem?_take, if_pos hj, Array.getElem?_toList] at h
      exact h
    refine ⟨g, hb, hG.lt, rfl, c, cur2, Blk.new w _ _, hG.alloc _, h1, hc, hm, by omega, fun i p hp => ?_⟩
    have hi := (List.getElem?_eq_some_iff.1 hp).1
    obtain ⟨d0, d1, d2⟩ := h5 i p hp
    exact ⟨by rw [get _ (by omega)]; exact d0, by rw [get _ (by omega)]; exact d1, by rw [get _ (by omega)]; exact d2⟩

def CopyPost (w : World) (ps : List Pg) (e : Ending) (w' : World) : Prop :=
  ∃ T2 G2, e = .returned (.pointer (some ⟨T2, 0, none⟩)) ∧ Tbl w' T2 G2 ps ∧ Fr none_ w w' ∧ w.heap.size ≤ T2 ∧ w.heap.size ≤ G2

set_option maxHeartbeats 1000000 in
theorem copy_ok (T G : Nat) (ps : List Pg) (w : World) (hn : 1 ≤ ps.length) (h : Tbl w T G ps) : Calls Tryd.prog 18 #[.pointer (some ⟨T, 0, none⟩)] w (CopyPost w ps) := by
  obtain ⟨i0, hi0, hz0, hs0, hb0⟩ := info_parts page_info
  have Hi := hid_ (And.intro hi0 (And.intro hz0 (And.intro hs0 hb0)))
  obtain ⟨cap, cur, hT, hG, h1, h2, h3, h4, h5⟩ := h
  have c0 : w.cell? ⟨T, 0, none⟩ = some (.slice (some ⟨G, 0, none⟩) ps.length cap) := hT.cell' (i := 0) rfl
  have lT := hT.lt
  have H5 := hid_ h5
  have hsrc : Hid (Reads (w.alloc (.cells #[] 67)) 3 (some ⟨G, 0, none⟩) ps.length (cur.toList.take (ps.length * 3))) := hid_ (Reads.alloc ⟨by rw [List.length_take]; simp; omega, fun _ => ⟨_, rfl, fun j u hu => by
    rw [add_lit, Nat.zero_add]
    rw [List.getElem?_take] at hu
    split at hu
    · rw [Array.getElem?_toList] at hu
      exact hG.cell' hu
    · cases hu⟩⟩ _)
  clear hi0 hz0 hs0 hb0 hT hG h5
  go_enter Tryd.func18, Tryd.ntmps18
  go_wp2_with (at_builtin; refine wpList_append_any _ rfl (.tmp 5) (.tmp 9) 55 rfl w.heap.size 67 i0 _ 3 24 Tryd.underlying55 Hi.out.1 Hi.out.2.1 Hi.out.2.2.1 Hi.out.2.2.2 rfl (by omega) (.slice (some ⟨w.heap.size, 0, none⟩) 0 0) 0 [] rfl (own_empty_at _ _ _ _ _ (Nat.le_refl _) rfl) (some ⟨G, 0, none⟩) ps.length cap (cur.toList.take (ps.length * 3)) rfl hsrc.out (tbl_one H5.out) (by simp only [maxLen]; omega) (by omega) (by simp) ?_; intro A1 c1 w3 hown3 hgr3; simp only [Nat.zero_add, List.nil_append] at hown3; have F3 := hid_ (((Fr.refl none_ w).alloc (.cells #[] 67)).grown hgr3 (fun k hk => .inr (by simp [Value.ownBlock] at hk; omega))); have O3 := hid_ hown3; clear hown3 hgr3)
  obtain ⟨G2, hb2, _, rfl, ht2⟩ := tbl_of_own hn h1 h4 H5.out O3.out
  have T2 := hid_ ht2
  clear ht2
  go_ret
  exact ⟨w3.heap.size, G2, rfl, T2.out, F3.out.alloc _, F3.out.size, hb2⟩
end Go.Proofs.YtnlpnbllnddaaaaDoor

/- inner.joined by contract; blocks of nine cells. -/
import Derived.Test.YtpjbncbmdfmlpaaVw
import Derived.Test.YtpjbncbmdfmlpaaHeldT
namespace Go.Proofs.Ytpjbncbmdfmlpaa
open Go.RowKit Go.BigFrame
set_option maxRecDepth 100000
set_option linter.unusedVariables false

theorem box9 {w1 : World} {b : Nat} {t : TypeId} {c0 c1 c2 c3 c4 c5 c6 c7 c8 : Value} (h : Blk w1 b t #[c0, c1, c2, c3, c4, c5, c6, c7, c8]) (x0 x1 x2 x3 x4 x5 x6 x7 x8 : Value) :
    Blk (((((((((w1.setCell ⟨b, 0, none⟩ x0).setCell ⟨b, 1, none⟩ x1).setCell ⟨b, 2, none⟩ x2).setCell ⟨b, 3, none⟩ x3).setCell ⟨b, 4, none⟩ x4).setCell ⟨b, 5, none⟩ x5).setCell ⟨b, 6, none⟩ x6).setCell ⟨b, 7, none⟩ x7).setCell ⟨b, 8, none⟩ x8) b t #[x0, x1, x2, x3, x4, x5, x6, x7, x8] ∧ Fr (only b) w1 (((((((((w1.setCell ⟨b, 0, none⟩ x0).setCell ⟨b, 1, none⟩ x1).setCell ⟨b, 2, none⟩ x2).setCell ⟨b, 3, none⟩ x3).setCell ⟨b, 4, none⟩ x4).setCell ⟨b, 5, none⟩ x5).setCell ⟨b, 6, none⟩ x6).setCell ⟨b, 7, none⟩ x7).setCell ⟨b, 8, none⟩ x8) := by
  refine ⟨?_, (((((((((Fr.refl (only b) w1).setCell (p := ⟨b, 0, none⟩) (.inl (Eq.refl _)) x0).setCell (p := ⟨b, 1, none⟩) (.inl (Eq.refl _)) x1).setCell (p := ⟨b, 2, none⟩) (.inl (Eq.refl _)) x2).setCell (p := ⟨b, 3, none⟩) (.inl (Eq.refl _)) x3).setCell (p := ⟨b, 4, none⟩) (.inl (Eq.refl _)) x4).setCell (p := ⟨b, 5, none⟩) (.inl (Eq.refl _)) x5).setCell (p := ⟨b, 6, none⟩) (.inl (Eq.refl _)) x6).setCell (p := ⟨b, 7, none⟩) (.inl (Eq.refl _)) x7).setCell (p := ⟨b, 8, none⟩) (.inl (Eq.refl _)) x8⟩
  have e := (((((((((h.set_ 0 x0).set_ 1 x1).set_ 2 x2).set_ 3 x3).set_ 4 x4).set_ 5 x5).set_ 6 x6).set_ 7 x7).set_ 8 x8)
  simp only [List.setIfInBounds_toArray, List.set_cons_zero, List.set_cons_succ] at e
  exact e

abbrev Pt := Option Addr × Nat × List Et
abbrev ptV (x : Pt) : Value := .slice x.1 x.2.2.length x.2.1
def ptL (ps : List Pt) : List Et := (ps.map (·.2.2)).flatten
theorem etFlat_app (L M : List Et) : etFlat (L ++ M) = etFlat L ++ etFlat M := by simp [etFlat]
theorem etFlat_take : ∀ (L : List Et) (n : Nat), etFlat (L.take n) = (etFlat L).take (n * 2)
  | [], n => by simp [etFlat]
  | p :: t, 0 => by simp [etFlat]
  | p :: t, n + 1 => by
    have := etFlat_take t n
    rw [show (n + 1) * 2 = n * 2 + 1 + 1 by omega]
    show etCells p ++ etFlat (t.take n) = (etCells p ++ etFlat t).take (n * 2 + 1 + 1)
    rw [this]
    rfl
theorem etFlat_drop (L : List Et) (n : Nat) : etFlat (L.drop n) = (etFlat L).drop (n * 2) := by
  have h : etFlat L = etFlat (L.take n) ++ etFlat (L.drop n) := by rw [← etFlat_app, List.take_append_drop]
  rcases Nat.lt_or_ge L.length n with hl | hl
  · rw [List.drop_eq_nil_of_le (by omega), List.drop_eq_nil_of_le (by rw [etFlat_len]; omega)]
    rfl
  · rw [h, List.drop_left' (by rw [etFlat_len]; simp; omega)]
theorem ptL_take {ps : List Pt} {k : Nat} {x : Pt} (h : ps[k]? = some x) : ptL (ps.take (k + 1)) = ptL (ps.take k) ++ x.2.2 := by
  simp [ptL, List.take_add_one, h]
theorem ptL_le (ps : List Pt) : ∀ k, (ptL (ps.take k)).length ≤ (ptL ps).length := fun k => by
  have : ptL ps = ptL (ps.take k) ++ ptL (ps.drop k) := by
    unfold ptL
    rw [← List.flatten_append, ← List.map_append, List.take_append_drop]
  rw [this, List.length_append]
  omega
def JoinPost (w : World) (L : List Et) (e : Ending) (w' : World) : Prop :=
  ∃ A c, e = .returned (.slice A L.length c) ∧ w'.ownsRow w.heap.size 64 2 (.slice A L.length c) L.length (etFlat L) ∧ Fr none_ w w'
set_option maxHeartbeats 2000000 in
theorem joined_ok (b : Nat) (ps : List Pt) (w : World) (hb : ∀ (i : Nat) x, ps[i]? = some x → w.cell? ⟨b, i, none⟩ = some (ptV x)) (hr : ∀ x ∈ ps, Reads w 2 x.1 x.2.2.length (etFlat x.2.2)) (hl : (ptL ps).length ≤ 2000) (hn : ps.length ≤ 10) :
    Calls Try.prog 88 #[.slice (some ⟨b, 0, none⟩) ps.length ps.length] w (JoinPost w (ptL ps)) := by
  obtain ⟨i0, hi0, hz0, hs0, hb0⟩ := info_parts entry_info
  have Hi := hid_ (And.intro hi0 (And.intro hz0 (And.intro hs0 hb0)))
  have HB := hid_ hb
  have HR := hid_ hr
  clear hi0 hz0 hs0 hb0 hb hr
  go_enter Try.func88, Try.ntmps88
  go_wp2_with fail
  go_loopw [3, 8] (fun v i wr => ∃ k : Nat, k ≤ ps.length ∧ i = .int .i64 k ∧ wr.ownsRow w.heap.size 64 2 v (ptL (ps.take k)).length (etFlat (ptL (ps.take k))) ∧ Fr none_ w wr) (fun _ i _ => ps.length - (intOf i).toNat)
  case atStart => exact ⟨0, Nat.zero_le _, rfl, World.ownsRow_nil _ _ _ _, Fr.refl _ _⟩
  case round =>
    obtain ⟨k, hk, rfl, hown, hF⟩ := hrel
    obtain ⟨A, c, rfl⟩ := hown.shape
    have O := hid_ hown
    have F := hid_ hF
    clear hown hF
    have hi0 : (0 : Int) ≤ (k : Int) := Int.natCast_nonneg _
    by_cases hlt : k < ps.length
    · have hi1 : (k : Int) < (ps.length : Int) := by omega
      obtain ⟨x, hx⟩ : ∃ x, ps[k]? = some x := ⟨_, List.getElem?_eq_getElem hlt⟩
      obtain ⟨A2, c2, L2⟩ := x
      have hc : wr.cell? ⟨b, k, none⟩ = some (.slice A2 L2.length c2) := cellFr (HB.out k _ hx) F.out
      have R := hid_ ((HR.out _ (List.mem_of_getElem? hx)).none_fr F.out)
      have HT := hid_ (ptL_take hx)
      have hle : (ptL (ps.take k)).length + L2.length ≤ (ptL ps).length := by
        have := ptL_le ps (k + 1)
        rw [HT.out, List.length_append] at this
        exact this
      have hfs := F.out.size
      clear hx
      go_wp2_with (at_builtin; refine wpList_append_any _ rfl (.tmp 12) (.tmp 13) 39 rfl w.heap.size 64 i0 _ 2 24 Try.underlying39 Hi.out.1 Hi.out.2.1 Hi.out.2.2.1 Hi.out.2.2.2 rfl (by omega) (.slice A (ptL (ps.take k)).length c) (ptL (ps.take k)).length (etFlat (ptL (ps.take k))) rfl O.out A2 L2.length c2 (etFlat L2) rfl R.out (etFlat_one _) (by simp only [maxLen]; omega) (by omega) hfs ?_; intro A3 c3 w3 hown3 hgr3)
      have R3 : w3.ownsRow w.heap.size 64 2 (.slice A3 ((ptL (ps.take k)).length + L2.length) c3) (ptL (ps.take (k + 1))).length (etFlat (ptL (ps.take (k + 1)))) ∧ Fr none_ w w3 := by
        refine ⟨?_, F.out.grown hgr3 (fun b hb => .inr (O.out.lt b hb).1)⟩
        rw [HT.out, List.length_append, etFlat_app]
        exact hown3
      have HR3 := hid_ R3
      clear R3 hown3 hgr3
      go_wp2
      go_roundw
      case rel => exact ⟨k + 1, by omega, by go_num, HR3.out.1, HR3.out.2⟩
      case measure => simp [intOf]; omega
    · obtain rfl : k = ps.length := by omega
      have o := O.out
      have f := F.out
      rw [List.take_length] at o
      go_wp2
      go_ret
      rw [List.take_length]
      exact ⟨A, c, rfl, o, f⟩
end Go.Proofs.Ytpjbncbmdfmlpaa

/- Contracts of mapping's Pages and Copy. -/
import Derived.Test.YthcpccddcgbanaaMap2
namespace Go.Proofs.Ythcpccddcgbanaa
open Go.RowKit

theorem int_info : (Try.prog.info? 3).map (fun i => (i.zero, i.size, i.bytes)) = some (some (.int .i64 0), 1, 8) := by kernel_rfl

/-- The used pages' numbers below k. -/
def usedTo (ps : List Pg) (k : Nat) : List Nat := (List.range k).filter fun i => (ps[i]?.map (·.1)).getD false
theorem usedTo_hit (ps : List Pg) (k : Nat) (h : (ps[k]?.map (·.1)).getD false = true) : usedTo ps (k + 1) = usedTo ps k ++ [k] := by
  simp [usedTo, List.range_succ, List.filter_append, h]
theorem usedTo_miss (ps : List Pg) (k : Nat) (h : (ps[k]?.map (·.1)).getD false = false) : usedTo ps (k + 1) = usedTo ps k := by
  simp [usedTo, List.range_succ, List.filter_append, h]
theorem usedTo_le (ps : List Pg) (k : Nat) : (usedTo ps k).length ≤ k := by
  have := List.length_filter_le (fun i => (ps[i]?.map (·.1)).getD false) (List.range k)
  simpa [usedTo] using this
def ints (l : List Nat) : List Value := l.map fun (i : Nat) => .int .i64 (i : Int)

theorem pages_nil (w : World) : Calls Try.prog 47 #[.pointer none] w fun e w' => e = .returned (.slice none 0 0) ∧ w = w' := by
  go_enter Try.func47, Try.ntmps47
  go_wp2
  go_ret
  exact ⟨rfl, rfl⟩

def PagesPost (ps : List Pg) (w : World) (e : Ending) (w' : World) : Prop :=
  ∃ A c, e = .returned (.slice A (usedTo ps ps.length).length c) ∧ w'.ownsRow w.heap.size 3 1 (.slice A (usedTo ps ps.length).length c) (usedTo ps ps.length).length (ints (usedTo ps ps.length)) ∧ Fr none_ w w'

theorem pages_ok (T G : Nat) (ps : List Pg) (w : World) (h : Tbl w T G ps) :
    Calls Try.prog 47 #[.pointer (some ⟨T, 0, none⟩)] w (PagesPost ps w) := by
  obtain ⟨i0, hi0, hz0, hs0, hb0⟩ := info_parts int_info
  obtain ⟨cap, cur, hT, hG, h1, h2, h3, h4, h5⟩ := h
  have c0 : w.cell? ⟨T, 0, none⟩ = some (.slice (some ⟨G, 0, none⟩) ps.length cap) := hT.cell' (i := 0) rfl
  have hgl := hG.lt
  have hc : ∀ k, k < ps.length → w.cell? ⟨G, k * 3, none⟩ = some (.bool ((ps[k]?.map (·.1)).getD false)) ∧ (∃ u, w.cell? ⟨G, k * 3 + 1, none⟩ = some (.int .i64 u)) ∧ (∃ u, w.cell? ⟨G, k * 3 + 1 + 1, none⟩ = some (.int .i64 u)) := fun k hk => by
    have hi : ps[k]? = some ps[k] := List.getElem?_eq_getElem hk
    obtain ⟨d0, d1, d2⟩ := h5 k _ hi
    exact ⟨by simpa [hi] using hG.cell' d0, ⟨_, hG.cell' d1⟩, ⟨_, hG.cell' d2⟩⟩
  have Hc := hid_ hc
  have Hi := hid_ (And.intro hi0 (And.intro hz0 (And.intro hs0 hb0)))
  clear hT hG h5 hc hi0 hz0 hs0 hb0
  go_enter Try.func47, Try.ntmps47
  go_wp2
  go_loopw [3, 13] (fun v i wr => ∃ k : Nat, k ≤ ps.length ∧ i = .int .i64 k ∧ wr.ownsRow w.heap.size 3 1 v (usedTo ps k).length (ints (usedTo ps k)) ∧ Fr none_ w wr) (fun _ i _ => ps.length - (intOf i).toNat)
  case atStart => exact ⟨0, Nat.zero_le _, rfl, World.ownsRow_nil w w.heap.size 3 1, Fr.refl _ _⟩
  case round =>
    obtain ⟨k, hk, rfl, hown, hfr⟩ := hrel
    have hsz := hfr.size
    have hul := usedTo_le ps k
    by_cases hlt : k < ps.length
    · obtain ⟨g0, ⟨u1, g1⟩, ⟨u2, g2⟩⟩ := Hc.out k hlt
      have b1 := hfr.below0
      have c1 : wr.cell? ⟨G, k * 3, none⟩ = _ := (b1.cell (p := ⟨G, k * 3, none⟩) hgl).trans g0
      have c2 : wr.cell? ⟨G, k * 3 + 1, none⟩ = _ := (b1.cell (p := ⟨G, k * 3 + 1, none⟩) hgl).trans g1
      have c3 : wr.cell? ⟨G, k * 3 + 1 + 1, none⟩ = _ := (b1.cell (p := ⟨G, k * 3 + 1 + 1, none⟩) hgl).trans g2
      have Ho := hid_ hown
      have Hf := hid_ hfr
      clear g0 g1 g2 b1 hown hfr
      generalize hub : (ps[k]?.map (·.1)).getD false = b at c1
      cases b with
      | false =>
        have Hm := hid_ (usedTo_miss ps k hub)
        clear hub
        go_wp2
        go_roundw
        case rel => exact ⟨k + 1, by omega, by go_num, by rw [Hm.out]; exact (Ho.out.alloc _), Hf.out.alloc _⟩
        case measure => simp [intOf]; omega
      | true =>
        have Hm := hid_ (usedTo_hit ps k hub)
        clear hub
        go_wp2_with (at_builtin; refine wpList_append_own _ rfl _ _ 62 rfl w.heap.size 3 i0 (.int .i64 0) 1 8 Try.underlying62 Hi.out.1 Hi.out.2.1 Hi.out.2.2.1 Hi.out.2.2.2 rfl (by decide) _ _ _ rfl ((Ho.out.alloc _).alloc _) ⟨wr.heap.size + 1, 0, none⟩ 1 1 [.int .i64 k] rfl rfl ?c1 ?c2 ?c3 ?c4 ?c5 ?_)
        case c1 => exact one_new_at _ _ _ _ (by simp)
        case c2 => intro u hu; simp at hu; subst hu; rfl
        case c3 => unfold maxLen; omega
        case c4 => omega
        case c5 => simp; omega
        intro v' w1 hown1 hgr _
        have R : w1.ownsRow w.heap.size 3 1 v' (usedTo ps (k + 1)).length (ints (usedTo ps (k + 1))) ∧ Fr none_ w w1 := by
          refine ⟨?_, ((Hf.out.alloc _).alloc _).grown hgr (fun b hb => .inr (Ho.out.lt b hb).1)⟩
          rw [Hm.out]
          simpa [ints] using hown1
        have HR := hid_ R
        clear R hown1 hgr
        go_wp2
        go_roundw
        case rel => exact ⟨k + 1, by omega, by go_num, HR.out.1, HR.out.2⟩
        case measure => simp [intOf]; omega
    · obtain rfl : k = ps.length := by omega
      have Ho := hid_ hown
      have Hf := hid_ hfr
      clear hown hfr
      go_wp2
      go_ret
      obtain ⟨A, c, hv⟩ := Ho.out.shape
      have hx := Ho.out
      rw [hv] at hx
      exact ⟨A, c, by rw [← hv]; rfl, hx, Hf.out⟩
end Go.Proofs.Ythcpccddcgbanaa

/- Live, by contract. (XLive without Left.) -/
import Derived.Test.YthcpccddcgbanaaAlloc
namespace Go.Proofs.Ythcpccddcgbanaa
open Go.RowKit
set_option maxRecDepth 100000
set_option linter.unusedVariables false

abbrev Rf := Int × Int
def rfCells (p : Rf) : List Value := [.int .i64 p.1, .int .i64 p.2]
def rfFlat (L : List Rf) : List Value := (L.map rfCells).flatten
theorem ref_info : (Try.prog.info? 34).map (fun i => (i.zero, i.size, i.bytes)) = some (some (.agg #[.int .i64 0, .int .i64 0]), 2, 16) := by kernel_rfl
/-- The live refs of the slots below k. -/
def liveTo (ss : List Sl) : Nat → List Rf
  | 0 => []
  | k + 1 => liveTo ss k ++ match ss[k]? with
    | some s => if s.used then [((k : Int) + 1, s.gen)] else []
    | none => []
theorem live_hit {ss : List Sl} {k : Nat} {s : Sl} (hs : ss[k]? = some s) (hu : s.used = true) : liveTo ss (k + 1) = liveTo ss k ++ [((k : Int) + 1, s.gen)] := by simp [liveTo, hs, hu]
theorem live_miss {ss : List Sl} {k : Nat} {s : Sl} (hs : ss[k]? = some s) (hu : s.used = false) : liveTo ss (k + 1) = liveTo ss k := by simp [liveTo, hs, hu]
theorem live_le (ss : List Sl) : ∀ k, (liveTo ss k).length ≤ k
  | 0 => Nat.le_refl _
  | k + 1 => by
    have := live_le ss k
    rw [liveTo, List.length_append]
    split
    · split <;> simp <;> omega
    · simp; omega
theorem live_nil (w : World) : Calls Try.prog 46 #[.pointer none] w fun e w' => e = .returned (.slice none 0 0) ∧ w = w' := by
  go_enter Try.func46, Try.ntmps46
  go_wp2
  go_ret
  exact ⟨rfl, rfl⟩
/-- A slot as it lies, and a copy of it. -/
theorem Ar.range {w : World} {a G : Nat} {last : Int} {ss : List Sl} (h : Ar w a G last ss) {i : Nat} {s : Sl} (hs : ss[i]? = some s) : w.rangeAt G (i * 17) (slL s) := fun j v hv => h.cell hs j hv
def LivePost (ss : List Sl) (w : World) (e : Ending) (w' : World) : Prop :=
  ∃ A c, e = .returned (.slice A (liveTo ss ss.length).length c) ∧ w'.ownsRow w.heap.size 34 2 (.slice A (liveTo ss ss.length).length c) (liveTo ss ss.length).length (rfFlat (liveTo ss ss.length)) ∧ Fr none_ w w'

set_option maxHeartbeats 4000000 in
theorem live_ok {a G : Nat} {last : Int} {ss : List Sl} (w : World) (h : Ar w a G last ss) : Calls Try.prog 46 #[.pointer (some ⟨a, 0, none⟩)] w (LivePost ss w) := by
  obtain ⟨i0, hi0, hz0, hs0, hb0⟩ := info_parts ref_info
  have Hi := hid_ (And.intro hi0 (And.intro hz0 (And.intro hs0 hb0)))
  have H := hid_ h
  have hlen := h.len
  have hl40 := h.l40
  have c0 : w.cell? ⟨a, 0, none⟩ = some (.slice (some ⟨G, 0, none⟩) ss.length ss.length) := h.hA.cell' rfl
  clear h hi0 hz0 hs0 hb0
  go_enter Try.func46, Try.ntmps46
  go_wp2_with fail
  clear c0
  go_loopw [3, 13] (fun v i wr => ∃ k : Nat, k ≤ ss.length ∧ i = .int .i64 k ∧ wr.ownsRow w.heap.size 34 2 v (liveTo ss k).length (rfFlat (liveTo ss k)) ∧ Fr none_ w wr) (fun _ i _ => ss.length - (intOf i).toNat)
  case atStart => exact ⟨0, Nat.zero_le _, rfl, World.ownsRow_nil w w.heap.size 34 2, Fr.refl _ _⟩
  case round =>
    obtain ⟨k, hk, rfl, hown, hfr⟩ := hrel
    have hsz := hfr.size
    have hul := live_le ss k
    have X := hid_ (H.out.keep hfr)
    have Ho := hid_ hown
    have Hf := hid_ hfr
    clear hown hfr
    by_cases hlt : k < ss.length
    · obtain ⟨s, hs⟩ : ∃ s, ss[k]? = some s := ⟨_, List.getElem?_eq_getElem hlt⟩
      have hi0 : (0 : Int) ≤ (k : Int) := Int.natCast_nonneg _
      have hi1 : (k : Int) < (ss.length : Int) := by omega
      have Hs := hid_ hs
      clear hs
      cases hu : s.used with
      | false =>
        have Hm := hid_ (live_miss Hs.out hu)
        obtain ⟨A, c, B, d, hvr, hve⟩ := (X.out.own k s Hs.out).shape
        have HR : Hid (wr.rangeAt G (k * 17) [.int .i64 s.gen, .bool false, .int .i64 s.R.kind, .string s.R.low, .string s.R.high, .bool s.R.unb, .int .i64 s.R.right, .slice A s.R.rows.length c, .slice B s.R.ents.length d, .string s.R.key, .string s.R.val, .int .i64 s.R.page, .int .i64 s.R.hpage, .int .i64 s.R.hleft, .string s.R.hkey, .int .i64 s.R.nslot, .int .i64 s.R.ngen]) := hid_ (by have := X.out.range Hs.out; unfold slL at this; rw [hu, hvr, hve] at this; exact this)
        clear hvr hve hu
        go_wp2_with (refine wpList_load_mid rfl 113 (.tmp 16) rfl G (k * 17) rfl [.int .i64 s.gen, .bool false, .int .i64 s.R.kind, .string s.R.low, .string s.R.high, .bool s.R.unb, .int .i64 s.R.right, .slice A s.R.rows.length c, .slice B s.R.ents.length d, .string s.R.key, .string s.R.val, .int .i64 s.R.page, .int .i64 s.R.hpage, .int .i64 s.R.hleft, .string s.R.hkey, .int .i64 s.R.nslot, .int .i64 s.R.ngen] _ HR.out Try.underlying113 rfl slot_size ?_)
        go_roundw
        case rel => exact ⟨k + 1, by omega, by go_num, by rw [Hm.out]; exact (Ho.out.alloc _), Hf.out.alloc _⟩
        case measure => simp [intOf]; omega
      | true =>
        have Hm := hid_ (live_hit Hs.out hu)
        have hwk : IntKind.i64.wrap ((k : Int) + 1) = (k : Int) + 1 := IntWalk.i64_in _ (by omega)
        obtain ⟨A, c, B, d, hvr, hve⟩ := (X.out.own k s Hs.out).shape
        have HR : Hid (wr.rangeAt G (k * 17) [.int .i64 s.gen, .bool true, .int .i64 s.R.kind, .string s.R.low, .string s.R.high, .bool s.R.unb, .int .i64 s.R.right, .slice A s.R.rows.length c, .slice B s.R.ents.length d, .string s.R.key, .string s.R.val, .int .i64 s.R.page, .int .i64 s.R.hpage, .int .i64 s.R.hleft, .string s.R.hkey, .int .i64 s.R.nslot, .int .i64 s.R.ngen]) := hid_ (by have := X.out.range Hs.out; unfold slL at this; rw [hu, hvr, hve] at this; exact this)
        clear hvr hve hu
        go_wp2_with (first
          | (refine wpList_load_mid rfl 113 (.tmp 16) rfl G (k * 17) rfl [.int .i64 s.gen, .bool true, .int .i64 s.R.kind, .string s.R.low, .string s.R.high, .bool s.R.unb, .int .i64 s.R.right, .slice A s.R.rows.length c, .slice B s.R.ents.length d, .string s.R.key, .string s.R.val, .int .i64 s.R.page, .int .i64 s.R.hpage, .int .i64 s.R.hleft, .string s.R.hkey, .int .i64 s.R.nslot, .int .i64 s.R.ngen] _ HR.out Try.underlying113 rfl slot_size ?_)
          | (at_builtin; refine wpList_append_own _ rfl _ _ 66 rfl w.heap.size 34 i0 _ 2 16 Try.underlying66 Hi.out.1 Hi.out.2.1 Hi.out.2.2.1 Hi.out.2.2.2 rfl (by decide) _ _ _ rfl ((Ho.out.alloc _).alloc _) ⟨wr.heap.size + 1, 0, none⟩ 1 1 [.int .i64 ((k : Int) + 1), .int .i64 s.gen] rfl rfl ?c1 ?c2 ?c3 ?c4 ?c5 ?_))
        case c1 =>
          intro j u hu
          have hb := Blk.new (wr.alloc (.cells [.int .i64 s.gen, .bool true, .int .i64 s.R.kind, .string s.R.low, .string s.R.high, .bool s.R.unb, .int .i64 s.R.right, .slice A s.R.rows.length c, .slice B s.R.ents.length d, .string s.R.key, .string s.R.val, .int .i64 s.R.page, .int .i64 s.R.hpage, .int .i64 s.R.hleft, .string s.R.hkey, .int .i64 s.R.nslot, .int .i64 s.R.ngen].toArray 113)) 34 #[.int .i64 ((k : Int) + 1), .int .i64 s.gen]
          rw [World.size_alloc] at hb
          rw [add_lit, Nat.zero_add]
          exact hb.cell' (by simpa using hu)
        case c2 => intro u hu; simp at hu; rcases hu with rfl | rfl <;> rfl
        case c3 => unfold maxLen; omega
        case c4 => omega
        case c5 => simp; omega
        intro v' w1 hown1 hgr _
        have R : w1.ownsRow w.heap.size 34 2 v' (liveTo ss (k + 1)).length (rfFlat (liveTo ss (k + 1))) ∧ Fr none_ w w1 := by
          refine ⟨?_, ((Hf.out.alloc _).alloc _).grown hgr (fun b hb => .inr (Ho.out.lt b hb).1)⟩
          rw [Hm.out]
          simpa [rfFlat, rfCells] using hown1
        have HR := hid_ R
        clear R hown1 hgr
        go_wp2
        go_roundw
        case rel => exact ⟨k + 1, by omega, by go_num, HR.out.1, HR.out.2⟩
        case measure => simp [intOf]; omega
    · obtain rfl : k = ss.length := by omega
      go_wp2
      go_ret
      obtain ⟨A, c, hv⟩ := Ho.out.shape
      have hx := Ho.out
      rw [hv] at hx
      exact ⟨A, c, by rw [← hv]; rfl, hx, Hf.out⟩
end Go.Proofs.Ythcpccddcgbanaa

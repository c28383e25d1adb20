/- Live and Left, by contracts. Written by gen_live4.py. -/
import Derived.Test.YtfoljojacakkeaaDoorAlloc
namespace Go.Proofs.YtfoljojacakkeaaDoor
open Go.RowKit
set_option maxRecDepth 100000
set_option linter.unusedVariables false

abbrev Rf := Int × Int
def rfCells (p : Rf) : List Value := [.int .i64 p.1, .int .i64 p.2]
def rfFlat (L : List Rf) : List Value := (L.map rfCells).flatten
theorem ref_info : (Tryd.prog.info? 38).map (fun i => (i.zero, i.size, i.bytes)) = some (some (.agg #[.int .i64 0, .int .i64 0]), 2, 16) := by kernel_rfl
/-- The live refs of the slots below k. -/
def liveTo (ss : List Sl) : Nat → List Rf
  | 0 => []
  | k + 1 => liveTo ss k ++ match ss[k]? with
    | some s => if s.used then [((k : Int) + 1, s.gen)] else []
    | none => []
theorem live_hit {ss : List Sl} {k : Nat} {s : Sl} (hs : ss[k]? = some s) (hu : s.used = true) : liveTo ss (k + 1) = liveTo ss k ++ [((k : Int) + 1, s.gen)] := by simp [liveTo, hs, hu]
theorem live_miss {ss : List Sl} {k : Nat} {s : Sl} (hs : ss[k]? = some s) (hu : s.used = false) : liveTo ss (k + 1) = liveTo ss k := by simp [liveTo, hs, hu]
theorem live_le (ss : List Sl) : ∀ k, (liveTo ss k).length ≤ k
  | 0 => Nat.le_refl _
  | k + 1 => by
    have := live_le ss k
    rw [liveTo, List.length_append]
    split
    · split <;> simp <;> omega
    · simp; omega
/-- How many of the slots below k are left. -/
def leftTo (ss : List Sl) (last : Int) : Nat → Nat
  | 0 => 0
  | k + 1 => leftTo ss last k + match ss[k]? with
    | some s => if s.used = false ∧ s.gen < last then 1 else 0
    | none => 0
theorem left_hit {ss : List Sl} {last : Int} {k : Nat} {s : Sl} (hs : ss[k]? = some s) (hu : s.used = false) (hg : s.gen < last) : leftTo ss last (k + 1) = leftTo ss last k + 1 := by simp [leftTo, hs, hu, hg]
theorem left_miss {ss : List Sl} {last : Int} {k : Nat} {s : Sl} (hs : ss[k]? = some s) (h : ¬ (s.used = false ∧ s.gen < last)) : leftTo ss last (k + 1) = leftTo ss last k := by simp [leftTo, hs, h]
theorem left_le (ss : List Sl) (last : Int) : ∀ k, leftTo ss last k ≤ k
  | 0 => Nat.le_refl _
  | k + 1 => by
    have := left_le ss last k
    rw [leftTo]
    split
    · split <;> omega
    · omega

theorem live_nil (w : World) : Calls Tryd.prog 15 #[.pointer none] w fun e w' => e = .returned (.slice none 0 0) ∧ w = w' := by
  go_enter Tryd.func15, Tryd.ntmps15
  go_wp2
  go_ret
  exact ⟨rfl, rfl⟩
theorem left_nil (w : World) : Calls Tryd.prog 17 #[.pointer none] w fun e w' => e = .returned (.int .i64 0) ∧ w = w' := by
  go_enter Tryd.func17, Tryd.ntmps17
  go_wp2
  go_ret
  exact ⟨rfl, rfl⟩
theorem copy_nil (w : World) : Calls Tryd.prog 19 #[.pointer none] w fun e w' => e = .returned (.pointer none) ∧ w = w' := by
  go_enter Tryd.func19, Tryd.ntmps19
  go_wp2
  go_ret
  exact ⟨rfl, rfl⟩
/-- A slot as it lies, and a copy of it. -/
theorem Ar.range {w : World} {a G : Nat} {last : Int} {ss : List Sl} (h : Ar w a G last ss) {i : Nat} {s : Sl} (hs : ss[i]? = some s) : w.rangeAt G (i * 17) (slL s) := fun j v hv => h.cell hs j hv
def LivePost (ss : List Sl) (w : World) (e : Ending) (w' : World) : Prop :=
  ∃ A c, e = .returned (.slice A (liveTo ss ss.length).length c) ∧ w'.ownsRow w.heap.size 38 2 (.slice A (liveTo ss ss.length).length c) (liveTo ss ss.length).length (rfFlat (liveTo ss ss.length)) ∧ Fr none_ w w'

set_option maxHeartbeats 4000000 in
theorem live_ok {a G : Nat} {last : Int} {ss : List Sl} (w : World) (h : Ar w a G last ss) : Calls Tryd.prog 15 #[.pointer (some ⟨a, 0, none⟩)] w (LivePost ss w) := by
  obtain ⟨i0, hi0, hz0, hs0, hb0⟩ := info_parts ref_info
  have Hi := hid_ (And.intro hi0 (And.intro hz0 (And.intro hs0 hb0)))
  have H := hid_ h
  have hlen := h.len
  have hl40 := h.l40
  have c0 : w.cell? ⟨a, 0, none⟩ = some (.slice (some ⟨G, 0, none⟩) ss.length ss.length) := h.hA.cell' rfl
  clear h hi0 hz0 hs0 hb0
  go_enter Tryd.func15, Tryd.ntmps15
  go_wp2_with fail
  clear c0
  go_loopw [3, 13] (fun v i wr => ∃ k : Nat, k ≤ ss.length ∧ i = .int .i64 k ∧ wr.ownsRow w.heap.size 38 2 v (liveTo ss k).length (rfFlat (liveTo ss k)) ∧ Fr none_ w wr) (fun _ i _ => ss.length - (intOf i).toNat)
  case atStart => exact ⟨0, Nat.zero_le _, rfl, World.ownsRow_nil w w.heap.size 38 2, Fr.refl _ _⟩
  case round =>
    obtain ⟨k, hk, rfl, hown, hfr⟩ := hrel
    have hsz := hfr.size
    have hul := live_le ss k
    have X := hid_ (H.out.keep hfr)
    have Ho := hid_ hown
    have Hf := hid_ hfr
    clear hown hfr
    by_cases hlt : k < ss.length
    · obtain ⟨s, hs⟩ : ∃ s, ss[k]? = some s := ⟨_, List.getElem?_eq_getElem hlt⟩
      have hi0 : (0 : Int) ≤ (k : Int) := Int.natCast_nonneg _
      have hi1 : (k : Int) < (ss.length : Int) := by omega
      have Hs := hid_ hs
      clear hs
      cases hu : s.used with
      | false =>
        have Hm := hid_ (live_miss Hs.out hu)
        obtain ⟨A, c, B, d, hvr, hve⟩ := (X.out.own k s Hs.out).shape
        have HR : Hid (wr.rangeAt G (k * 17) [.int .i64 s.gen, .bool false, .int .i64 s.R.kind, .string s.R.low, .string s.R.high, .bool s.R.unb, .int .i64 s.R.right, .slice A s.R.rows.length c, .slice B s.R.ents.length d, .string s.R.key, .string s.R.val, .int .i64 s.R.page, .int .i64 s.R.hpage, .int .i64 s.R.hleft, .string s.R.hkey, .int .i64 s.R.nslot, .int .i64 s.R.ngen]) := hid_ (by have := X.out.range Hs.out; unfold slL at this; rw [hu, hvr, hve] at this; exact this)
        clear hvr hve hu
        go_wp2_with (refine wpList_load_mid rfl 147 (.tmp 16) rfl G (k * 17) rfl [.int .i64 s.gen, .bool false, .int .i64 s.R.kind, .string s.R.low, .string s.R.high, .bool s.R.unb, .int .i64 s.R.right, .slice A s.R.rows.length c, .slice B s.R.ents.length d, .string s.R.key, .string s.R.val, .int .i64 s.R.page, .int .i64 s.R.hpage, .int .i64 s.R.hleft, .string s.R.hkey, .int .i64 s.R.nslot, .int .i64 s.R.ngen] _ HR.out Tryd.underlying147 rfl slot_size ?_)
        go_roundw
        case rel => exact ⟨k + 1, by omega, by go_num, by rw [Hm.out]; exact (Ho.out.alloc _), Hf.out.alloc _⟩
        case measure => simp [intOf]; omega
      | true =>
        have Hm := hid_ (live_hit Hs.out hu)
        have hwk : IntKind.i64.wrap ((k : Int) + 1) = (k : Int) + 1 := IntWalk.i64_in _ (by omega)
        obtain ⟨A, c, B, d, hvr, hve⟩ := (X.out.own k s Hs.out).shape
        have HR : Hid (wr.rangeAt G (k * 17) [.int .i64 s.gen, .bool true, .int .i64 s.R.kind, .string s.R.low, .string s.R.high, .bool s.R.unb, .int .i64 s.R.right, .slice A s.R.rows.length c, .slice B s.R.ents.length d, .string s.R.key, .string s.R.val, .int .i64 s.R.page, .int .i64 s.R.hpage, .int .i64 s.R.hleft, .string s.R.hkey, .int .i64 s.R.nslot, .int .i64 s.R.ngen]) := hid_ (by have := X.out.range Hs.out; unfold slL at this; rw [hu, hvr, hve] at this; exact this)
        clear hvr hve hu
        go_wp2_with (first
          | (refine wpList_load_mid rfl 147 (.tmp 16) rfl G (k * 17) rfl [.int .i64 s.gen, .bool true, .int .i64 s.R.kind, .string s.R.low, .string s.R.high, .bool s.R.unb, .int .i64 s.R.right, .slice A s.R.rows.length c, .slice B s.R.ents.length d, .string s.R.key, .string s.R.val, .int .i64 s.R.page, .int .i64 s.R.hpage, .int .i64 s.R.hleft, .string s.R.hkey, .int .i64 s.R.nslot, .int .i64 s.R.ngen] _ HR.out Tryd.underlying147 rfl slot_size ?_)
          | (at_builtin; refine wpList_append_own _ rfl _ _ 32 rfl w.heap.size 38 i0 _ 2 16 Tryd.underlying32 Hi.out.1 Hi.out.2.1 Hi.out.2.2.1 Hi.out.2.2.2 rfl (by decide) _ _ _ rfl ((Ho.out.alloc _).alloc _) ⟨wr.heap.size + 1, 0, none⟩ 1 1 [.int .i64 ((k : Int) + 1), .int .i64 s.gen] rfl rfl ?c1 ?c2 ?c3 ?c4 ?c5 ?_))
        case c1 =>
          intro j u hu
          have hb := Blk.new (wr.alloc (.cells [.int .i64 s.gen, .bool true, .int .i64 s.R.kind, .string s.R.low, .string s.R.high, .bool s.R.unb, .int .i64 s.R.right, .slice A s.R.rows.length c, .slice B s.R.ents.length d, .string s.R.key, .string s.R.val, .int .i64 s.R.page, .int .i64 s.R.hpage, .int .i64 s.R.hleft, .string s.R.hkey, .int .i64 s.R.nslot, .int .i64 s.R.ngen].toArray 147)) 38 #[.int .i64 ((k : Int) + 1), .int .i64 s.gen]
          rw [World.size_alloc] at hb
          rw [add_lit, Nat.zero_add]
          exact hb.cell' (by simpa using hu)
        case c2 => intro u hu; simp at hu; rcases hu with rfl | rfl <;> rfl
        case c3 => unfold maxLen; omega
        case c4 => omega
        case c5 => simp; omega
        intro v' w1 hown1 hgr _
        have R : w1.ownsRow w.heap.size 38 2 v' (liveTo ss (k + 1)).length (rfFlat (liveTo ss (k + 1))) ∧ Fr none_ w w1 := by
          refine ⟨?_, ((Hf.out.alloc _).alloc _).grown hgr (fun b hb => .inr (Ho.out.lt b hb).1)⟩
          rw [Hm.out]
          simpa [rfFlat, rfCells] using hown1
        have HR := hid_ R
        clear R hown1 hgr
        go_wp2
        go_roundw
        case rel => exact ⟨k + 1, by omega, by go_num, HR.out.1, HR.out.2⟩
        case measure => simp [intOf]; omega
    · obtain rfl : k = ss.length := by omega
      go_wp2
      go_ret
      obtain ⟨A, c, hv⟩ := Ho.out.shape
      have hx := Ho.out
      rw [hv] at hx
      exact ⟨A, c, by rw [← hv]; rfl, hx, Hf.out⟩
set_option maxHeartbeats 4000000 in
theorem left_ok {a G : Nat} {last : Int} {ss : List Sl} (w : World) (h : Ar w a G last ss) : Calls Tryd.prog 17 #[.pointer (some ⟨a, 0, none⟩)] w fun e w' => e = .returned (.int .i64 (leftTo ss last ss.length : Nat)) ∧ Fr none_ w w' := by
  have H := hid_ h
  have hlen := h.len
  have hl40 := h.l40
  have hlA := h.ltA
  have c0 : w.cell? ⟨a, 0, none⟩ = some (.slice (some ⟨G, 0, none⟩) ss.length ss.length) := h.hA.cell' rfl
  clear h
  go_enter Tryd.func17, Tryd.ntmps17
  go_wp2_with fail
  clear c0
  go_loopw [3, 13] (fun v i wr => ∃ k n : Nat, k ≤ ss.length ∧ i = .int .i64 k ∧ v = .int .i64 n ∧ n = leftTo ss last k ∧ Fr none_ w wr) (fun _ i _ => ss.length - (intOf i).toNat)
  case atStart => exact ⟨0, 0, Nat.zero_le _, rfl, rfl, rfl, Fr.refl _ _⟩
  case round =>
    obtain ⟨k, n, hk, rfl, rfl, hn, hfr⟩ := hrel
    have hul := left_le ss last k
    have hnl : n ≤ 4096 := by omega
    have hwn : IntKind.i64.wrap ((n : Int) + 1) = (n : Int) + 1 := IntWalk.i64_in _ (by omega)
    have X := hid_ (H.out.keep hfr)
    have lA := X.out.ltA
    have Hn := hid_ hn
    have Hf := hid_ hfr
    clear hn hfr
    by_cases hlt : k < ss.length
    · obtain ⟨s, hs⟩ : ∃ s, ss[k]? = some s := ⟨_, List.getElem?_eq_getElem hlt⟩
      have hi0 : (0 : Int) ≤ (k : Int) := Int.natCast_nonneg _
      have hi1 : (k : Int) < (ss.length : Int) := by omega
      have a1 : wr.cell? ⟨a, 1, none⟩ = some (.int .i64 last) := X.out.hA.cell' rfl
      have Hs := hid_ hs
      clear hs
      cases hu : s.used with
      | true =>
        have Hm := hid_ (left_miss (last := last) Hs.out (fun h => by rw [hu] at h; cases h.1))
        obtain ⟨A, c, B, d, hvr, hve⟩ := (X.out.own k s Hs.out).shape
        have HR : Hid (wr.rangeAt G (k * 17) [.int .i64 s.gen, .bool true, .int .i64 s.R.kind, .string s.R.low, .string s.R.high, .bool s.R.unb, .int .i64 s.R.right, .slice A s.R.rows.length c, .slice B s.R.ents.length d, .string s.R.key, .string s.R.val, .int .i64 s.R.page, .int .i64 s.R.hpage, .int .i64 s.R.hleft, .string s.R.hkey, .int .i64 s.R.nslot, .int .i64 s.R.ngen]) := hid_ (by have := X.out.range Hs.out; unfold slL at this; rw [hu, hvr, hve] at this; exact this)
        clear hvr hve hu
        have b0 : (wr.alloc (.cells [.int .i64 s.gen, .bool true, .int .i64 s.R.kind, .string s.R.low, .string s.R.high, .bool s.R.unb, .int .i64 s.R.right, .slice A s.R.rows.length c, .slice B s.R.ents.length d, .string s.R.key, .string s.R.val, .int .i64 s.R.page, .int .i64 s.R.hpage, .int .i64 s.R.hleft, .string s.R.hkey, .int .i64 s.R.nslot, .int .i64 s.R.ngen].toArray 147)).cell? ⟨wr.heap.size, 0, none⟩ = some (.int .i64 s.gen) := (Blk.new wr _ _).cell' rfl
        have HF1 := hid_ (Hf.out.alloc (.cells [.int .i64 s.gen, .bool true, .int .i64 s.R.kind, .string s.R.low, .string s.R.high, .bool s.R.unb, .int .i64 s.R.right, .slice A s.R.rows.length c, .slice B s.R.ents.length d, .string s.R.key, .string s.R.val, .int .i64 s.R.page, .int .i64 s.R.hpage, .int .i64 s.R.hleft, .string s.R.hkey, .int .i64 s.R.nslot, .int .i64 s.R.ngen].toArray 147))
        clear b0
        go_wp2_with (refine wpList_load_mid rfl 147 (.tmp 15) rfl G (k * 17) rfl [.int .i64 s.gen, .bool true, .int .i64 s.R.kind, .string s.R.low, .string s.R.high, .bool s.R.unb, .int .i64 s.R.right, .slice A s.R.rows.length c, .slice B s.R.ents.length d, .string s.R.key, .string s.R.val, .int .i64 s.R.page, .int .i64 s.R.hpage, .int .i64 s.R.hleft, .string s.R.hkey, .int .i64 s.R.nslot, .int .i64 s.R.ngen] _ HR.out Tryd.underlying147 rfl slot_size ?_)
        go_quiet (fail)
        have FQ := hid_ (HF1.out.drewN nq)
        go_wp2
        go_roundw
        case rel => exact ⟨k + 1, n, by omega, by go_num, rfl, by rw [Hm.out, ← Hn.out], FQ.out⟩
        case measure => simp [intOf]; omega
      | false =>
        by_cases hg : s.gen < last
        · have hgd : decide (s.gen < last) = true := by simpa using hg
          have Hm := hid_ (left_hit Hs.out hu hg)
          obtain ⟨A, c, B, d, hvr, hve⟩ := (X.out.own k s Hs.out).shape
          have HR : Hid (wr.rangeAt G (k * 17) [.int .i64 s.gen, .bool false, .int .i64 s.R.kind, .string s.R.low, .string s.R.high, .bool s.R.unb, .int .i64 s.R.right, .slice A s.R.rows.length c, .slice B s.R.ents.length d, .string s.R.key, .string s.R.val, .int .i64 s.R.page, .int .i64 s.R.hpage, .int .i64 s.R.hleft, .string s.R.hkey, .int .i64 s.R.nslot, .int .i64 s.R.ngen]) := hid_ (by have := X.out.range Hs.out; unfold slL at this; rw [hu, hvr, hve] at this; exact this)
          clear hvr hve hu
          have b0 : (wr.alloc (.cells [.int .i64 s.gen, .bool false, .int .i64 s.R.kind, .string s.R.low, .string s.R.high, .bool s.R.unb, .int .i64 s.R.right, .slice A s.R.rows.length c, .slice B s.R.ents.length d, .string s.R.key, .string s.R.val, .int .i64 s.R.page, .int .i64 s.R.hpage, .int .i64 s.R.hleft, .string s.R.hkey, .int .i64 s.R.nslot, .int .i64 s.R.ngen].toArray 147)).cell? ⟨wr.heap.size, 0, none⟩ = some (.int .i64 s.gen) := (Blk.new wr _ _).cell' rfl
          have HF1 := hid_ (Hf.out.alloc (.cells [.int .i64 s.gen, .bool false, .int .i64 s.R.kind, .string s.R.low, .string s.R.high, .bool s.R.unb, .int .i64 s.R.right, .slice A s.R.rows.length c, .slice B s.R.ents.length d, .string s.R.key, .string s.R.val, .int .i64 s.R.page, .int .i64 s.R.hpage, .int .i64 s.R.hleft, .string s.R.hkey, .int .i64 s.R.nslot, .int .i64 s.R.ngen].toArray 147))
          clear b0
          go_wp2_with (refine wpList_load_mid rfl 147 (.tmp 15) rfl G (k * 17) rfl [.int .i64 s.gen, .bool false, .int .i64 s.R.kind, .string s.R.low, .string s.R.high, .bool s.R.unb, .int .i64 s.R.right, .slice A s.R.rows.length c, .slice B s.R.ents.length d, .string s.R.key, .string s.R.val, .int .i64 s.R.page, .int .i64 s.R.hpage, .int .i64 s.R.hleft, .string s.R.hkey, .int .i64 s.R.nslot, .int .i64 s.R.ngen] _ HR.out Tryd.underlying147 rfl slot_size ?_)
          go_quiet (fail)
          have FQ := hid_ (HF1.out.drewN nq)
          go_wp2
          go_roundw
          case rel => exact ⟨k + 1, n + 1, by omega, by go_num, by go_num, by rw [Hm.out, ← Hn.out], FQ.out⟩
          case measure => simp [intOf]; omega
        · have hgd : decide (s.gen < last) = false := by simpa using hg
          have Hm := hid_ (left_miss (last := last) Hs.out (fun h => hg h.2))
          obtain ⟨A, c, B, d, hvr, hve⟩ := (X.out.own k s Hs.out).shape
          have HR : Hid (wr.rangeAt G (k * 17) [.int .i64 s.gen, .bool false, .int .i64 s.R.kind, .string s.R.low, .string s.R.high, .bool s.R.unb, .int .i64 s.R.right, .slice A s.R.rows.length c, .slice B s.R.ents.length d, .string s.R.key, .string s.R.val, .int .i64 s.R.page, .int .i64 s.R.hpage, .int .i64 s.R.hleft, .string s.R.hkey, .int .i64 s.R.nslot, .int .i64 s.R.ngen]) := hid_ (by have := X.out.range Hs.out; unfold slL at this; rw [hu, hvr, hve] at this; exact this)
          clear hvr hve hu
          have b0 : (wr.alloc (.cells [.int .i64 s.gen, .bool false, .int .i64 s.R.kind, .string s.R.low, .string s.R.high, .bool s.R.unb, .int .i64 s.R.right, .slice A s.R.rows.length c, .slice B s.R.ents.length d, .string s.R.key, .string s.R.val, .int .i64 s.R.page, .int .i64 s.R.hpage, .int .i64 s.R.hleft, .string s.R.hkey, .int .i64 s.R.nslot, .int .i64 s.R.ngen].toArray 147)).cell? ⟨wr.heap.size, 0, none⟩ = some (.int .i64 s.gen) := (Blk.new wr _ _).cell' rfl
          have HF1 := hid_ (Hf.out.alloc (.cells [.int .i64 s.gen, .bool false, .int .i64 s.R.kind, .string s.R.low, .string s.R.high, .bool s.R.unb, .int .i64 s.R.right, .slice A s.R.rows.length c, .slice B s.R.ents.length d, .string s.R.key, .string s.R.val, .int .i64 s.R.page, .int .i64 s.R.hpage, .int .i64 s.R.hleft, .string s.R.hkey, .int .i64 s.R.nslot, .int .i64 s.R.ngen].toArray 147))
          clear b0
          go_wp2_with (refine wpList_load_mid rfl 147 (.tmp 15) rfl G (k * 17) rfl [.int .i64 s.gen, .bool false, .int .i64 s.R.kind, .string s.R.low, .string s.R.high, .bool s.R.unb, .int .i64 s.R.right, .slice A s.R.rows.length c, .slice B s.R.ents.length d, .string s.R.key, .string s.R.val, .int .i64 s.R.page, .int .i64 s.R.hpage, .int .i64 s.R.hleft, .string s.R.hkey, .int .i64 s.R.nslot, .int .i64 s.R.ngen] _ HR.out Tryd.underlying147 rfl slot_size ?_)
          go_quiet (fail)
          have FQ := hid_ (HF1.out.drewN nq)
          go_wp2
          go_roundw
          case rel => exact ⟨k + 1, n, by omega, by go_num, rfl, by rw [Hm.out, ← Hn.out], FQ.out⟩
          case measure => simp [intOf]; omega
    · obtain rfl : k = ss.length := by omega
      have hn := Hn.out
      go_wp2
      go_ret
      exact ⟨by rw [hn]; rfl, Hf.out⟩
end Go.Proofs.YtfoljojacakkeaaDoor

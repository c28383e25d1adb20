/- The document's arena: all that was ever put, in order; a slot's generation, and where a live ref was put. -/
import Derived.Test.YtfoljojacakkeaaDoorAr
import Derived.Deep.QuietTactic
import Derived.BigQuiet
import Derived.Deep.Cut
import Derived.Test.YtfoljojacakkeaaDoorMap
namespace Go.Proofs.YtfoljojacakkeaaDoor
open Go.RowKit
set_option maxRecDepth 100000
set_option linter.unusedVariables false

/-- What was put. -/
structure RaP where
  xs : Int
  xg : Int
  R : Rc
  A : Option Addr
  c : Nat
  B : Option Addr
  d : Nat
  live : Bool
abbrev ptR (p : RaP) : List Value := (recA p.R (.slice p.A p.R.rows.length p.c) (.slice p.B p.R.ents.length p.d)).toList
abbrev ptL (p : RaP) : List Value := [.int .i64 p.xs, .int .i64 p.xg, .int .i64 p.R.kind, .string p.R.low, .string p.R.high, .bool p.R.unb, .int .i64 p.R.right, .slice p.A p.R.rows.length p.c, .slice p.B p.R.ents.length p.d, .string p.R.key, .string p.R.val, .int .i64 p.R.page, .int .i64 p.R.hpage, .int .i64 p.R.hleft, .string p.R.hkey, .int .i64 p.R.nslot, .int .i64 p.R.ngen, .bool p.live]
def ptFlat (L : List RaP) : List Value := (L.map ptL).flatten
theorem ptFlat_snoc (L : List RaP) (p : RaP) : ptFlat (L ++ [p]) = ptFlat L ++ ptL p := by simp [ptFlat]
theorem ptFlat_len (L : List RaP) : (ptFlat L).length = L.length * 18 := by
  unfold ptFlat
  induction L with
  | nil => rfl
  | cons p t ih =>
    simp only [List.map_cons, List.flatten_cons, List.length_append, List.length_cons, List.length_nil] at ih ⊢
    omega
theorem ptFlat_one (L : List RaP) : ∀ u ∈ ptFlat L, u.oneCell' = true := by
  intro u hu
  simp only [ptFlat, List.mem_flatten, List.mem_map] at hu
  obtain ⟨l, ⟨p, _, rfl⟩, hu⟩ := hu
  simp only [List.mem_cons, List.not_mem_nil, or_false] at hu
  rcases hu with rfl | rfl | rfl | rfl | rfl | rfl | rfl | rfl | rfl | rfl | rfl | rfl | rfl | rfl | rfl | rfl | rfl | rfl <;> rfl
theorem ptFlat_get : ∀ (L : List RaP) (k : Nat) (p : RaP), L[k]? = some p → ∀ (j : Nat) (v : Value), (ptL p)[j]? = some v → (ptFlat L)[k * 18 + j]? = some v
  | [], k, p, h, _, _, _ => by simp at h
  | q :: L, 0, p, h, j, v, hv => by
    obtain rfl : q = p := by simpa using h
    have hj : j < (ptL q).length := (List.getElem?_eq_some_iff.1 hv).1
    rw [Nat.zero_mul, Nat.zero_add]
    show (((q :: L).map ptL).flatten)[j]? = some v
    rw [List.map_cons, List.flatten_cons, List.getElem?_append_left hj]
    exact hv
  | q :: L, k + 1, p, h, j, v, hv => by
    have := ptFlat_get L k p (by simpa using h) j v hv
    show (((q :: L).map ptL).flatten)[(k + 1) * 18 + j]? = some v
    rw [List.map_cons, List.flatten_cons, List.getElem?_append_right (by simp; omega), show (k + 1) * 18 + j - (ptL q).length = k * 18 + j by simp; omega]
    exact this
/-- What was put, where the slice says. -/
structure RaIn (w : World) (L : List RaP) (A : Option Addr) (c : Nat) : Prop where
  rd : Reads w 18 A L.length (ptFlat L)
  cap : L.length ≤ c
  capm : c ≤ maxLen
  len : L.length ≤ 5000
  recs : ∀ p ∈ L, RecReads w p.R p.A p.B
  sz : ∀ p ∈ L, p.R.rows.length ≤ 1000 ∧ p.R.ents.length ≤ 1000
theorem RaIn.keep {w w' : World} {L : List RaP} {A : Option Addr} {c : Nat} (h : RaIn w L A c) (hf : Fr none_ w w') : RaIn w' L A c := ⟨h.rd.none_fr hf, h.cap, h.capm, h.len, fun p hp => (h.recs p hp).keep hf, h.sz⟩
theorem RaIn.nil (w : World) : RaIn w [] none 0 := ⟨Reads.nil_, Nat.le_refl _, Nat.zero_le _, Nat.zero_le _, (fun p hp => by cases hp), (fun p hp => by cases hp)⟩
theorem RaIn.at_ {w : World} {L : List RaP} {A : Option Addr} {c : Nat} (h : RaIn w L A c) {k : Nat} {p : RaP} (hp : L[k]? = some p) : ∃ b off, A = some ⟨b, off, none⟩ ∧ b < w.heap.size ∧ ∀ (j : Nat) (v : Value), (ptL p)[j]? = some v → w.cell? ⟨b, off + k * 18 + j, none⟩ = some v := by
  obtain ⟨b, off, e, hb, hc⟩ := reads_lit h.rd (by omega) (by have := (List.getElem?_eq_some_iff.1 hp).1; omega)
  refine ⟨b, off, e, hb, fun j v hv => ?_⟩
  have := hc _ _ (ptFlat_get L k p hp j v hv)
  rwa [← Nat.add_assoc] at this
abbrev raA (slots last : Int) (L : List RaP) (A : Option Addr) (c : Nat) : Array Value := #[.int .i64 slots, .int .i64 last, .slice A L.length c]
abbrev raV (slots last : Int) (L : List RaP) (A : Option Addr) (c : Nat) : Value := .agg (raA slots last L A c)
/-- A slot's generation, and is it used? -/
def slotTo (L : List RaP) (n : Int) : Nat → Int × Bool
  | 0 => (0, false)
  | k + 1 => match L[k]? with
    | some p => if p.xs = n then (p.xg, p.live) else slotTo L n k
    | none => slotTo L n k
abbrev slotP (L : List RaP) (n : Int) : Int × Bool := slotTo L n L.length
theorem slot_hit {L : List RaP} {n : Int} {k : Nat} {p : RaP} (hp : L[k]? = some p) (h : p.xs = n) : slotTo L n (k + 1) = (p.xg, p.live) := by simp [slotTo, hp, h]
theorem slot_miss {L : List RaP} {n : Int} {k : Nat} {p : RaP} (hp : L[k]? = some p) (h : ¬ p.xs = n) : slotTo L n (k + 1) = slotTo L n k := by simp [slotTo, hp, h]
set_option maxHeartbeats 4000000 in
theorem rslot_ok (slots last : Int) (L : List RaP) (A : Option Addr) (c : Nat) (n : Int) (w : World) (h : RaIn w L A c) : Calls Tryd.prog 66 #[raV slots last L A c, .int .i64 n] w fun e w' => e = .returned (.tuple #[.int .i64 (slotP L n).1, .bool (slotP L n).2]) ∧ Fr none_ w w' := by
  obtain ⟨w0, hw0⟩ : ∃ z, z = w.alloc (.cells (raA slots last L A c) 29) := ⟨_, rfl⟩
  have f0 : Fr none_ w w0 := by rw [hw0]; exact (Fr.refl none_ w).alloc _
  have BV : Hid (Blk w0 w.heap.size 29 (raA slots last L A c)) := hid_ (by rw [hw0]; exact Blk.new w _ _)
  have F0 := hid_ f0
  have H := hid_ (h.keep f0)
  have hl := h.len
  clear h f0
  go_enter Tryd.func66, Tryd.ntmps66
  go_upto_region 1 with fail
  change Code.wp _ _ _ _ (w.alloc (.cells (raA slots last L A c) 29))
  rw [← hw0]
  clear hw0
  go_wp2_with fail
  go_loopw [6, 7, 8] (fun g u i wr => ∃ k : Nat, k ≤ L.length ∧ i = .int .i64 k ∧ g = .int .i64 (slotTo L n k).1 ∧ u = .bool (slotTo L n k).2 ∧ w0 = wr) (fun _ _ i _ => L.length - (intOf i).toNat)
  case atStart => exact ⟨0, Nat.zero_le _, rfl, rfl, rfl, rfl⟩
  case round =>
    obtain ⟨k, hk, rfl, rfl, rfl, rfl⟩ := hrel
    have hi0 : (0 : Int) ≤ (k : Int) := Int.natCast_nonneg _
    have v2 : w0.cell? ⟨w.heap.size, 2, none⟩ = some (.slice A L.length c) := BV.out.cell' rfl
    by_cases hlt : k < L.length
    · obtain ⟨p, hp⟩ : ∃ p, L[k]? = some p := ⟨_, List.getElem?_eq_getElem hlt⟩
      obtain ⟨b, off, rfl, hb, hc⟩ := H.out.at_ hp
      have d0 : w0.cell? ⟨b, off + k * 18, none⟩ = some (.int .i64 p.xs) := hc 0 _ rfl
      have d1 : w0.cell? ⟨b, off + k * 18 + 1, none⟩ = some (.int .i64 p.xg) := hc 1 _ rfl
      have d17 : w0.cell? ⟨b, off + k * 18 + 17, none⟩ = some (.bool p.live) := hc 17 _ rfl
      have HP := hid_ hp
      have hi1 : (k : Int) < (L.length : Int) := by omega
      clear hp hc
      by_cases hx : p.xs = n
      · have hd : (p.xs == n) = true := by simpa using hx
        have HX := hid_ hx
        clear hx
        go_wp2_with fail
        go_roundw
        case rel => exact ⟨k + 1, by omega, by go_num, by rw [slot_hit HP.out HX.out], by rw [slot_hit HP.out HX.out], by first | rfl | trivial⟩
        case measure => simp [intOf]; omega
      · have hd : (p.xs == n) = false := by simpa using hx
        have HX := hid_ hx
        clear hx
        go_wp2_with fail
        go_roundw
        case rel => exact ⟨k + 1, by omega, by go_num, by rw [slot_miss HP.out HX.out], by rw [slot_miss HP.out HX.out], by first | rfl | trivial⟩
        case measure => simp [intOf]; omega
    · obtain rfl : k = L.length := by omega
      go_wp2_with fail
      go_ret2
      exact ⟨rfl, F0.out⟩
/-- Where a live ref was put. -/
def FindIs (L : List RaP) (s g : Int) (k : Int) : Prop :=
  (∃ (i : Nat) (p : RaP), k = (i : Int) ∧ L[i]? = some p ∧ p.xs = s ∧ p.xg = g ∧ p.live = true ∧ ∀ (j : Nat) (q : RaP), j < i → L[j]? = some q → ¬ (q.xs = s ∧ q.xg = g ∧ q.live = true)) ∨ (k = -1 ∧ ∀ (j : Nat) (q : RaP), L[j]? = some q → ¬ (q.xs = s ∧ q.xg = g ∧ q.live = true))
def FindPost (L : List RaP) (s g : Int) (w : World) (e : Ending) (w' : World) : Prop := ∃ k, FindIs L s g k ∧ e = .returned (.int .i64 k) ∧ Fr none_ w w'
set_option maxHeartbeats 8000000 in
theorem rfind_ok (slots last : Int) (L : List RaP) (A : Option Addr) (c : Nat) (s g : Int) (w : World) (h : RaIn w L A c) : Calls Tryd.prog 103 #[raV slots last L A c, .agg #[.int .i64 s, .int .i64 g]] w (FindPost L s g w) := by
  obtain ⟨w0, hw0⟩ : ∃ z, z = (w.alloc (.cells (raA slots last L A c) 29)).alloc (.cells #[.int .i64 s, .int .i64 g] 38) := ⟨_, rfl⟩
  have f0 : Fr none_ w w0 := by rw [hw0]; exact ((Fr.refl none_ w).alloc _).alloc _
  have BV : Hid (Blk w0 w.heap.size 29 (raA slots last L A c)) := hid_ (by rw [hw0]; exact (Blk.new w _ _).alloc _)
  have BX : Hid (Blk w0 (w.heap.size + 1) 38 #[.int .i64 s, .int .i64 g]) := hid_ (by
    have := Blk.new (w.alloc (.cells (raA slots last L A c) 29)) 38 #[.int .i64 s, .int .i64 g]
    rw [World.size_alloc] at this
    rw [hw0]; exact this)
  have F0 := hid_ f0
  have H := hid_ (h.keep f0)
  have hl := h.len
  clear h f0
  go_enter Tryd.func103, Tryd.ntmps103
  go_upto_region 1 with fail
  change Code.wp _ _ _ _ ((w.alloc (.cells (raA slots last L A c) 29)).alloc (.cells #[.int .i64 s, .int .i64 g] 38))
  rw [← hw0]
  clear hw0
  go_wp2_with fail
  go_loopw [5] (fun i wr => ∃ k : Nat, k ≤ L.length ∧ i = .int .i64 k ∧ (∀ (j : Nat) (q : RaP), j < k → L[j]? = some q → ¬ (q.xs = s ∧ q.xg = g ∧ q.live = true)) ∧ Fr none_ w0 wr) (fun i _ => L.length - (intOf i).toNat)
  case atStart => exact ⟨0, Nat.zero_le _, rfl, fun j q hj => by omega, Fr.refl _ _⟩
  case round =>
    obtain ⟨k, hk, rfl, hall, hfr⟩ := hrel
    have HA := hid_ hall
    have FR := hid_ hfr
    have hi0 : (0 : Int) ≤ (k : Int) := Int.natCast_nonneg _
    have v2 : wr.cell? ⟨w.heap.size, 2, none⟩ = some (.slice A L.length c) := (BV.out.fr hfr id).cell' rfl
    have x0 : wr.cell? ⟨w.heap.size + 1, 0, none⟩ = some (.int .i64 s) := (BX.out.fr hfr id).cell' rfl
    have x1 : wr.cell? ⟨w.heap.size + 1, 1, none⟩ = some (.int .i64 g) := (BX.out.fr hfr id).cell' rfl
    clear hall hfr
    by_cases hlt : k < L.length
    · obtain ⟨p, hp⟩ : ∃ p, L[k]? = some p := ⟨_, List.getElem?_eq_getElem hlt⟩
      obtain ⟨b, off, rfl, hb, hc⟩ := (H.out.keep FR.out).at_ hp
      have d0 : wr.cell? ⟨b, off + k * 18, none⟩ = some (.int .i64 p.xs) := hc 0 _ rfl
      have d1 : wr.cell? ⟨b, off + k * 18 + 1, none⟩ = some (.int .i64 p.xg) := hc 1 _ rfl
      have d17 : wr.cell? ⟨b, off + k * 18 + 17, none⟩ = some (.bool p.live) := hc 17 _ rfl
      have HP := hid_ hp
      have hi1 : (k : Int) < (L.length : Int) := by omega
      clear hp hc
      by_cases hx : p.xs = s ∧ p.xg = g
      · have hq : ∀ w', (binOp .eql 38 (.agg #[.int .i64 p.xs, .int .i64 p.xg]) (.agg #[.int .i64 s, .int .i64 g])).run Tryd.prog w' = .ok (.bool true) w' := fun w' => by rw [eql_ref]; simp [hx.1, hx.2]
        have HX := hid_ hx
        clear hx
        cases hlv : p.live with
        | true =>
          have HV := hid_ hlv
          rw [hlv] at d17
          clear hlv
          go_wp2_with fail
          go_quiet (fail)
          go_wp2_with fail
          go_ret
          exact ⟨(k : Int), .inl ⟨k, p, rfl, HP.out, HX.out.1, HX.out.2, HV.out, HA.out⟩, rfl, F0.out.then_none (by repeat (first | exact FR.out | apply Fr.drewN | apply Fr.drew))⟩
        | false =>
          have HV := hid_ hlv
          rw [hlv] at d17
          clear hlv
          go_wp2_with fail
          go_quiet (fail)
          go_wp2_with fail
          go_roundw
          case rel =>
            refine ⟨k + 1, by omega, by go_num, fun j q hj hq => ?_, by repeat (first | exact FR.out | apply Fr.drewN | apply Fr.drew)⟩
            rcases Nat.lt_succ_iff_lt_or_eq.1 hj with h | rfl
            · exact HA.out j q h hq
            · obtain rfl := Option.some.inj (HP.out.symm.trans hq)
              rintro ⟨_, _, e⟩
              rw [HV.out] at e; cases e
          case measure => simp [intOf]; omega
      · have hq : ∀ w', (binOp .eql 38 (.agg #[.int .i64 p.xs, .int .i64 p.xg]) (.agg #[.int .i64 s, .int .i64 g])).run Tryd.prog w' = .ok (.bool false) w' := fun w' => by
          have hd : (p.xs == s && p.xg == g) = false := by
            cases h1 : (p.xs == s) with
            | false => rfl
            | true =>
              cases h2 : (p.xg == g) with
              | false => rfl
              | true => exact absurd ⟨by simpa using h1, by simpa using h2⟩ hx
          rw [eql_ref, hd]
        have HX := hid_ hx
        clear hx d17
        go_wp2_with fail
        go_quiet (fail)
        go_wp2_with fail
        go_roundw
        case rel =>
          refine ⟨k + 1, by omega, by go_num, fun j q hj hq => ?_, by repeat (first | exact FR.out | apply Fr.drewN | apply Fr.drew)⟩
          rcases Nat.lt_succ_iff_lt_or_eq.1 hj with h | rfl
          · exact HA.out j q h hq
          · obtain rfl := Option.some.inj (HP.out.symm.trans hq)
            rintro ⟨e1, e2, _⟩
            exact HX.out ⟨e1, e2⟩
        case measure => simp [intOf]; omega
    · have hi1 : ¬ (k : Int) < (L.length : Int) := by omega
      go_wp2_with fail
      go_ret
      exact ⟨-1, .inr ⟨rfl, fun j q hq => HA.out j q (by have := (List.getElem?_eq_some_iff.1 hq).1; omega) hq⟩, rfl, F0.out.then_none FR.out⟩
end Go.Proofs.YtfoljojacakkeaaDoor

/- Texts of one proof, merged: Rw7, U7, Rs7, Tk7. -/
import Derived.Test.YtfihfjbakfadkaaGreatDoorMnA
import Derived.Test.YtfihfjbakfadkaaGreatDoorMnD
namespace Go.Proofs.YtfihfjbakfadkaaGreatDoor
open Go.RowKit Go.BigFrame
set_option maxRecDepth 100000
set_option linter.unusedVariables false

/-- How many rows stand ahead of a key. -/
def plR : List Rw → ByteArray → Nat
  | [], _ => 0
  | p :: t, key => if ltS p.1 key = true then plR t key + 1 else 0
theorem plR_le : ∀ (L : List Rw) (key : ByteArray), plR L key ≤ L.length
  | [], _ => Nat.le_refl _
  | p :: t, key => by
    have := plR_le t key
    rw [plR]
    split <;> simp <;> omega
theorem plR_in : ∀ {L : List Rw} {key : ByteArray} {i : Nat} {p : Rw}, i < plR L key → L[i]? = some p → ltS p.1 key = true
  | [], _, i, p, h, _ => by simp [plR] at h
  | q :: t, key, i, p, h, hp => by
    rw [plR] at h
    split at h
    · cases i with
      | zero =>
        obtain rfl : q = p := by simpa using hp
        assumption
      | succ i => exact plR_in (L := t) (i := i) (by omega) (by simpa using hp)
    · omega
theorem plR_at : ∀ {L : List Rw} {key : ByteArray} {p : Rw}, L[plR L key]? = some p → ltS p.1 key = false
  | [], _, p, h => by simp at h
  | q :: t, key, p, h => by
    rw [plR] at h
    split at h
    · exact plR_at (L := t) (by simpa using h)
    · obtain rfl : q = p := by simpa using h
      rename_i h1
      simpa using h1
def atR (L : List Rw) (key : ByteArray) : Bool :=
  match L[plR L key]? with
  | some p => sEq p.1 key
  | none => false
theorem atR_some {L : List Rw} {key : ByteArray} {p : Rw} (h : L[plR L key]? = some p) : atR L key = sEq p.1 key := by simp [atR, h]
theorem atR_none {L : List Rw} {key : ByteArray} (h : plR L key = L.length) : atR L key = false := by simp [atR, h]
theorem atR_lt {L : List Rw} {key : ByteArray} (h : atR L key = true) : plR L key < L.length := by
  have h1 := plR_le L key
  rcases Nat.lt_or_ge (plR L key) L.length with h2 | h2
  · exact h2
  · rw [atR_none (by omega)] at h; cases h
/-- May a row be? -/
def fitsR (p : Rw) : Bool := (decide (1 ≤ p.1.size) && decide (p.1.size ≤ 16)) && decide (p.2.size ≤ 16)
structure RightR (L : List Rw) : Prop where
  fit : ∀ p ∈ L, fitsR p = true
  ris : ∀ (i : Nat) (p q : Rw), L[i]? = some p → L[i + 1]? = some q → ltS p.1 q.1 = true
def RightTo (L : List Rw) (k : Nat) : Prop := (∀ (j : Nat) (p : Rw), j < k → L[j]? = some p → fitsR p = true) ∧ ∀ (j : Nat) (p q : Rw), j + 1 < k → L[j]? = some p → L[j + 1]? = some q → ltS p.1 q.1 = true
def RwsOk (L : List Rw) : Prop := L.length ≤ 300000 ∧ ∀ p ∈ L, SzOk p.1 ∧ SzOk p.2
def putR (L : List Rw) (r : Rw) : List Rw := L.take (plR L r.1) ++ [r] ++ L.drop (plR L r.1 + if atR L r.1 then 1 else 0)
def dropR (L : List Rw) (key : ByteArray) : List Rw := if atR L key then L.take (plR L key) ++ L.drop (plR L key + 1) else L
theorem putR_len (L : List Rw) (r : Rw) : (putR L r).length ≤ L.length + 1 := by
  have := plR_le L r.1
  simp only [putR, List.length_append, List.length_take, List.length_drop, List.length_cons, List.length_nil]
  omega
theorem dropR_len (L : List Rw) (key : ByteArray) : (dropR L key).length ≤ L.length := by
  unfold dropR
  split
  · simp only [List.length_append, List.length_take, List.length_drop]; omega
  · exact Nat.le_refl _
/-- The rows that lie in a span. -/
def inR (low high : ByteArray) (unb : Bool) (L : List Rw) : List Rw := L.filter fun p => inS low high unb p.1
theorem inR_all {low high : ByteArray} {unb : Bool} {L : List Rw} : (inR low high unb L).length = L.length ↔ ∀ p ∈ L, inS low high unb p.1 = true := by
  unfold inR
  rw [List.length_filter_eq_length_iff]
structure SoundR (low high : ByteArray) (unb : Bool) (L : List Rw) : Prop where
  hi : unb = true → high = nilS
  right : RightR L
  inn : ∀ p ∈ L, inS low high unb p.1 = true
abbrev PtR := Option Addr × Nat × List Rw
abbrev ptRV (x : PtR) : Value := .slice x.1 x.2.2.length x.2.1
def ptRL (ps : List PtR) : List Rw := (ps.map (·.2.2)).flatten
theorem rwFlat_app (L M : List Rw) : rwFlat (L ++ M) = rwFlat L ++ rwFlat M := by simp [rwFlat]
theorem rwFlat_take : ∀ (L : List Rw) (n : Nat), rwFlat (L.take n) = (rwFlat L).take (n * 2)
  | [], n => by simp [rwFlat]
  | p :: t, 0 => by simp [rwFlat]
  | p :: t, n + 1 => by
    have := rwFlat_take t n
    rw [show (n + 1) * 2 = n * 2 + 1 + 1 by omega]
    show rwCells p ++ rwFlat (t.take n) = (rwCells p ++ rwFlat t).take (n * 2 + 1 + 1)
    rw [this]
    rfl
theorem rwFlat_drop (L : List Rw) (n : Nat) : rwFlat (L.drop n) = (rwFlat L).drop (n * 2) := by
  have h : rwFlat L = rwFlat (L.take n) ++ rwFlat (L.drop n) := by rw [← rwFlat_app, List.take_append_drop]
  rcases Nat.lt_or_ge L.length n with hl | hl
  · rw [List.drop_eq_nil_of_le (by omega), List.drop_eq_nil_of_le (by rw [rwFlat_len]; omega)]
    rfl
  · rw [h, List.drop_left' (by rw [rwFlat_len]; simp; omega)]
theorem ptRL_take {ps : List PtR} {k : Nat} {x : PtR} (h : ps[k]? = some x) : ptRL (ps.take (k + 1)) = ptRL (ps.take k) ++ x.2.2 := by
  simp [ptRL, List.take_add_one, h]
theorem ptRL_le (ps : List PtR) : ∀ k, (ptRL (ps.take k)).length ≤ (ptRL ps).length := fun k => by
  have : ptRL ps = ptRL (ps.take k) ++ ptRL (ps.drop k) := by
    unfold ptRL
    rw [← List.flatten_append, ← List.map_append, List.take_append_drop]
  rw [this, List.length_append]
  omega
def JoinPostR (w : World) (L : List Rw) (e : Ending) (w' : World) : Prop :=
  ∃ A c, e = .returned (.slice A L.length c) ∧ w'.ownsRow w.heap.size 143 2 (.slice A L.length c) L.length (rwFlat L) ∧ Fr none_ w w'
set_option maxHeartbeats 2000000 in
theorem list_ok (b : Nat) (ps : List PtR) (w : World) (hb : ∀ (i : Nat) x, ps[i]? = some x → w.cell? ⟨b, i, none⟩ = some (ptRV x)) (hr : ∀ x ∈ ps, Reads w 2 x.1 x.2.2.length (rwFlat x.2.2)) (hl : (ptRL ps).length ≤ 900000) (hn : ps.length ≤ 10) :
    Calls Tryz.prog 103 #[.slice (some ⟨b, 0, none⟩) ps.length ps.length] w (JoinPostR w (ptRL ps)) := by
  obtain ⟨i0, hi0, hz0, hs0, hb0⟩ := info_parts row_info
  have Hi := hid_ (And.intro hi0 (And.intro hz0 (And.intro hs0 hb0)))
  have HB := hid_ hb
  have HR := hid_ hr
  clear hi0 hz0 hs0 hb0 hb hr
  go_enter Tryz.func103, Tryz.ntmps103
  go_wp2_with fail
  go_loopw [3, 8] (fun v i wr => ∃ k : Nat, k ≤ ps.length ∧ i = .int .i64 k ∧ wr.ownsRow w.heap.size 143 2 v (ptRL (ps.take k)).length (rwFlat (ptRL (ps.take k))) ∧ Fr none_ w wr) (fun _ i _ => ps.length - (intOf i).toNat)
  case atStart => exact ⟨0, Nat.zero_le _, rfl, World.ownsRow_nil _ _ _ _, Fr.refl _ _⟩
  case round =>
    obtain ⟨k, hk, rfl, hown, hF⟩ := hrel
    obtain ⟨A, c, rfl⟩ := hown.shape
    have O := hid_ hown
    have F := hid_ hF
    clear hown hF
    have hi0 : (0 : Int) ≤ (k : Int) := Int.natCast_nonneg _
    by_cases hlt : k < ps.length
    · have hi1 : (k : Int) < (ps.length : Int) := by omega
      obtain ⟨x, hx⟩ : ∃ x, ps[k]? = some x := ⟨_, List.getElem?_eq_getElem hlt⟩
      obtain ⟨A2, c2, L2⟩ := x
      have hc : wr.cell? ⟨b, k, none⟩ = some (.slice A2 L2.length c2) := cellFr (HB.out k _ hx) F.out
      have R := hid_ ((HR.out _ (List.mem_of_getElem? hx)).none_fr F.out)
      have HT := hid_ (ptRL_take hx)
      have hle : (ptRL (ps.take k)).length + L2.length ≤ (ptRL ps).length := by
        have := ptRL_le ps (k + 1)
        rw [HT.out, List.length_append] at this
        exact this
      have hfs := F.out.size
      clear hx
      go_wp2_with (at_builtin; refine wpList_append_any _ rfl (.tmp 12) (.tmp 13) 28 rfl w.heap.size 143 i0 _ 2 32 Tryz.underlying28 Hi.out.1 Hi.out.2.1 Hi.out.2.2.1 Hi.out.2.2.2 rfl (by omega) (.slice A (ptRL (ps.take k)).length c) (ptRL (ps.take k)).length (rwFlat (ptRL (ps.take k))) rfl O.out A2 L2.length c2 (rwFlat L2) rfl R.out (rwFlat_one _) (by simp only [maxLen]; omega) (by omega) hfs ?_; intro A3 c3 w3 hown3 hgr3)
      have R3 : w3.ownsRow w.heap.size 143 2 (.slice A3 ((ptRL (ps.take k)).length + L2.length) c3) (ptRL (ps.take (k + 1))).length (rwFlat (ptRL (ps.take (k + 1)))) ∧ Fr none_ w w3 := by
        refine ⟨?_, F.out.grown hgr3 (fun b hb => .inr (O.out.lt b hb).1)⟩
        rw [HT.out, List.length_append, rwFlat_app]
        exact hown3
      have HR3 := hid_ R3
      clear R3 hown3 hgr3
      go_wp2
      go_roundw
      case rel => exact ⟨k + 1, by omega, by go_num, HR3.out.1, HR3.out.2⟩
      case measure => simp [intOf]; omega
    · obtain rfl : k = ps.length := by omega
      have o := O.out
      have f := F.out
      rw [List.take_length] at o
      go_wp2
      go_ret
      rw [List.take_length]
      exact ⟨A, c, rfl, o, f⟩
set_option maxHeartbeats 2000000 in
theorem bright_ok (k : ByteArray) (w : World) (h : SzOk k) : Calls Tryz.prog 125 #[.string k] w fun e w' => e = .returned (.bool (decide (1 ≤ k.size) && decide (k.size ≤ 16))) ∧ Fr none_ w w' := by
  have hl := h.le
  clear h
  go_enter Tryz.func125, Tryz.ntmps125
  by_cases h1 : 1 ≤ k.size
  · have e1 : decide ((1 : Int) ≤ (k.size : Int)) = true := by simp; omega
    have H1 := hid_ h1
    by_cases h2 : k.size ≤ 16
    · have e2 : decide ((k.size : Int) ≤ 16) = true := by simp; omega
      have H2 := hid_ h2
      clear h1 h2
      go_wp2
      go_ret
      exact ⟨by simp [H1.out, H2.out], Fr.refl _ _⟩
    · have e2 : decide ((k.size : Int) ≤ 16) = false := by simp; omega
      have H2 := hid_ h2
      clear h1 h2
      go_wp2
      go_ret
      exact ⟨by simp [H1.out, H2.out], Fr.refl _ _⟩
  · have e1 : decide ((1 : Int) ≤ (k.size : Int)) = false := by simp; omega
    have H1 := hid_ h1
    clear h1
    go_wp2
    go_ret
    exact ⟨by simp [H1.out], Fr.refl _ _⟩
abbrev rwV (p : Rw) : Value := .agg #[.string p.1, .string p.2]
set_option maxHeartbeats 2000000 in
theorem fits_ok (p : Rw) (w : World) (h1 : SzOk p.1) (h2 : SzOk p.2) : Calls Tryz.prog 121 #[rwV p] w fun e w' => e = .returned (.bool (fitsR p)) ∧ Fr none_ w w' := by
  have hl := h2.le
  have H1 := hid_ h1
  obtain ⟨w0, hw0⟩ : ∃ z, z = w.alloc (.cells #[.string p.1, .string p.2] 143) := ⟨_, rfl⟩
  have f0 : Fr none_ w w0 := by rw [hw0]; exact (Fr.refl none_ w).alloc _
  have B0 : Hid (Blk w0 w.heap.size 143 #[.string p.1, .string p.2]) := hid_ (by rw [hw0]; exact Blk.new w _ _)
  have F0 := hid_ f0
  clear h1 h2 f0
  go_enter Tryz.func121, Tryz.ntmps121
  go_upto_region 1 with fail
  change Code.wp _ _ _ _ (w.alloc (.cells #[.string p.1, .string p.2] 143))
  rw [← hw0]
  clear hw0
  have c0 : w0.cell? ⟨w.heap.size, 0, none⟩ = some (.string p.1) := B0.out.cell' rfl
  go_wp2_with fail
  refine (bright_ok p.1 _ H1.out).mono ?_
  rintro e w1 ⟨rfl, hf⟩
  have c1 : w1.cell? ⟨w.heap.size, 1, none⟩ = some (.string p.2) := (B0.out.fr hf id).cell' rfl
  replace F0 := hid_ (F0.out.then_none hf)
  clear c0 hf
  obtain ⟨b, hb⟩ : ∃ b, (decide (1 ≤ p.1.size) && decide (p.1.size ≤ 16)) = b := ⟨_, rfl⟩
  rw [hb]
  have HB := hid_ hb
  clear hb
  cases b with
  | false =>
    go_wp2
    go_ret
    exact ⟨by simp [fitsR, HB.out], F0.out⟩
  | true =>
    by_cases h2 : p.2.size ≤ 16
    · have e2 : decide ((p.2.size : Int) ≤ 16) = true := by simp; omega
      have H2 := hid_ h2
      clear h2
      go_wp2
      go_ret
      exact ⟨by simp [fitsR, HB.out, H2.out], F0.out⟩
    · have e2 : decide ((p.2.size : Int) ≤ 16) = false := by simp; omega
      have H2 := hid_ h2
      clear h2
      go_wp2
      go_ret
      exact ⟨by simp [fitsR, HB.out, H2.out], F0.out⟩
set_option maxHeartbeats 4000000 in
theorem placeR_ok (L : List Rw) (A : Option Addr) (c : Nat) (key : ByteArray) (w : World) (h : Reads w 2 A L.length (rwFlat L)) (ho : RwsOk L) (hk : SzOk key) :
    Calls Tryz.prog 124 #[.slice A L.length c, .string key] w fun e w' => e = .returned (.int .i64 (plR L key : Nat)) ∧ Fr none_ w w' := by
  have H0 := hid_ h
  have hle := plR_le L key
  have h1000 := ho.1
  have HSZ := hid_ (And.intro ho.2 hk)
  clear h ho hk
  go_enter Tryz.func124, Tryz.ntmps124
  go_wp2_with fail
  go_loopw [5] (fun i wr => ∃ k : Nat, k ≤ plR L key ∧ i = .int .i64 k ∧ Fr none_ w wr) (fun i _ => plR L key - (intOf i).toNat)
  case atStart => exact ⟨0, Nat.zero_le _, rfl, Fr.refl _ _⟩
  case round =>
    obtain ⟨k, hk, rfl, hF⟩ := hrel
    have H := hid_ (H0.out.none_fr hF)
    have F := hid_ hF
    clear hF
    have hi0 : (0 : Int) ≤ (k : Int) := Int.natCast_nonneg _
    by_cases hlt : k < plR L key
    · have hkl : k < L.length := by omega
      have hi1 : (k : Int) < (L.length : Int) := by omega
      have hd1 : decide ((k : Int) < (L.length : Int)) = true := by simp; omega
      obtain ⟨p, hp⟩ : ∃ p, L[k]? = some p := ⟨_, List.getElem?_eq_getElem hkl⟩
      obtain ⟨b, off, rfl, hb, c0, c1⟩ := rw_at H.out hp
      have hcmp : decide (cmpI p.1 key < 0) = true := by rw [cmp_neg]; exact plR_in hlt hp
      have hsz := (HSZ.out.1 p (List.mem_of_getElem? hp)).1
      have HCMP := hid_ hcmp
      clear hp hcmp c1
      go_wp2_with fail
      refine (compare_ok p.1 key _ hsz.le HSZ.out.2.le).mono ?_
      rintro e w1 ⟨rfl, q, rfl⟩
      have hcmp := HCMP.out
      have FQ := hid_ (F.out.drewN q)
      clear c0
      go_wp2_with fail
      go_roundw
      case rel => exact ⟨k + 1, by omega, by go_num, FQ.out⟩
      case measure => simp [intOf]; omega
    · obtain rfl : k = plR L key := by omega
      by_cases hl : plR L key < L.length
      · obtain ⟨p, hp⟩ : ∃ p, L[plR L key]? = some p := ⟨_, List.getElem?_eq_getElem hl⟩
        obtain ⟨b, off, rfl, hb, c0, c1⟩ := rw_at H.out hp
        have hcmp : decide (cmpI p.1 key < 0) = false := by rw [cmp_neg]; exact plR_at hp
        have hsz := (HSZ.out.1 p (List.mem_of_getElem? hp)).1
        obtain ⟨n, hn⟩ : ∃ n, n = plR L key := ⟨_, rfl⟩
        have hi1 : (n : Int) < (L.length : Int) := by omega
        have hd1 : decide ((n : Int) < (L.length : Int)) = true := by simp; omega
        rw [← hn] at c0 c1 hi0
        rw [← hn]
        have HCMP := hid_ hcmp
        have HN := hid_ hn
        clear hp hcmp c1 hl hlt hn hk hle
        go_wp2_with fail
        refine (compare_ok p.1 key _ hsz.le HSZ.out.2.le).mono ?_
        rintro e w1 ⟨rfl, q, rfl⟩
        have hcmp := HCMP.out
        have FQ := hid_ (F.out.drewN q)
        go_wp2_with fail
        go_ret
        exact ⟨by rw [← HN.out]; rfl, FQ.out⟩
      · have he : plR L key = L.length := by omega
        have HE := hid_ he
        have hd1 : decide ((L.length : Int) < (L.length : Int)) = false := by simp
        rw [he]
        clear he hl hlt hk hle
        go_wp2_with fail
        go_ret
        exact ⟨by rw [HE.out]; rfl, F.out⟩
set_option maxHeartbeats 4000000 in
theorem findR_ok (L : List Rw) (A : Option Addr) (c : Nat) (key : ByteArray) (w : World) (h : Reads w 2 A L.length (rwFlat L)) (ho : RwsOk L) (hk : SzOk key) :
    Calls Tryz.prog 123 #[.slice A L.length c, .string key] w fun e w' => e = .returned (.tuple #[.int .i64 (plR L key : Nat), .bool (atR L key)]) ∧ Fr none_ w w' := by
  have H0 := hid_ h
  have HO := hid_ ho
  have HK := hid_ hk
  have hle := plR_le L key
  have h1000 := ho.1
  clear h ho hk
  go_enter Tryz.func123, Tryz.ntmps123
  go_wp2_with fail
  refine (placeR_ok L A c key _ H0.out HO.out HK.out).mono ?_
  rintro e w1 ⟨rfl, hf⟩
  have H := hid_ (H0.out.none_fr hf)
  have F := hid_ hf
  clear hf
  obtain ⟨n, hn⟩ : ∃ n, n = plR L key := ⟨_, rfl⟩
  rw [← hn]
  rw [← hn] at hle
  have HN := hid_ hn
  have hi0 : (0 : Int) ≤ (n : Int) := Int.natCast_nonneg _
  by_cases hl : n < L.length
  · obtain ⟨p, hp⟩ : ∃ p, L[n]? = some p := ⟨_, List.getElem?_eq_getElem hl⟩
    obtain ⟨b, off, rfl, hb, c0, c1⟩ := rw_at H.out hp
    have hat : atR L key = sEq p.1 key := atR_some (by rw [← hn]; exact hp)
    have HAT := hid_ hat
    have hi1 : (n : Int) < (L.length : Int) := by omega
    have hd1 : decide ((n : Int) < (L.length : Int)) = true := by simp; omega
    have hd2 : decide (n < L.length) = true := by simp; omega
    clear hp c1 hat hn hl
    go_wp2_with fail
    go_quiet (fail)
    go_wp2_with fail
    go_ret2
    exact ⟨by rw [HAT.out, ← HN.out]; rfl, by repeat (first | exact F.out | apply Fr.drewN | apply Fr.drew)⟩
  · have he : n = L.length := by omega
    have hat : atR L key = false := atR_none (by rw [← hn]; exact he)
    have HAT := hid_ hat
    have hd1 : decide ((n : Int) < (L.length : Int)) = false := by simp; omega
    have hd2 : decide (n < L.length) = false := by simp; omega
    clear hat hn hl he
    go_wp2_with fail
    go_quiet (fail)
    go_wp2_with fail
    go_ret2
    exact ⟨by rw [HAT.out, ← HN.out]; rfl, by repeat (first | exact F.out | apply Fr.drewN | apply Fr.drew)⟩
theorem copyR_ok (L : List Rw) (A : Option Addr) (c : Nat) (w : World) (h : Reads w 2 A L.length (rwFlat L)) (hl : L.length ≤ 300000) :
    Calls Tryz.prog 64 #[.slice A L.length c] w (JoinPostR w L) := by
  have H := hid_ h
  clear h
  go_enter Tryz.func64, Tryz.ntmps64
  go_wp2_with fail
  have hB := Blk.new w 28 #[.slice A L.length c]
  refine (list_ok w.heap.size [(A, c, L)] _ ?_ ?_ ?_ ?_).mono ?_
  · intro i x hx
    match i, hx with
    | 0, hx => cases hx; rw [hB.cell]; rfl
    | k + 1, hx => simp at hx
  · intro x hx
    obtain rfl : x = (A, c, L) := by simpa using hx
    exact H.out.alloc _
  · simp [ptRL]; omega
  · simp
  rintro e w1 ⟨A', c', rfl, ho, hf⟩
  rw [show ptRL [(A, c, L)] = L by simp [ptRL]] at ho ⊢
  have O := hid_ ho
  have F := hid_ hf
  clear ho hf hB
  go_wp2
  go_ret
  exact ⟨A', c', rfl, own_base O.out (by simp), (((Fr.refl none_ w).alloc _).then_none F.out)⟩
end Go.Proofs.YtfihfjbakfadkaaGreatDoor
namespace Go.Proofs.YtfihfjbakfadkaaGreatDoor
open Go.RowKit
set_option linter.unusedVariables false
theorem Blk.there7 {w : World} {g n : Nat} {t : TypeId} {cs : Array Value} (h : Blk w g t cs) (hn : cs.size = n) : w.there g 0 n := by
  subst hn
  intro j hj
  refine ⟨?_, h.frozen _⟩
  rw [h.cell, Nat.zero_add, Array.getElem?_eq_getElem hj]
  rfl
theorem Blk.new7 {w : World} {b : Nat} (t : TypeId) (cs : Array Value) (h : b = w.heap.size) : Blk (w.alloc (.cells cs t)) b t cs := by
  subst h
  exact Blk.new w t cs
theorem Blk.over7 {w : World} {g : Nat} {t : TypeId} {zs : Array Value} (h : Blk w g t zs) (vs : List Value) (hz : zs.size = vs.length) : Blk (w.setCells g 0 vs) g t vs.toArray ∧ Fr (only g) w (w.setCells g 0 vs) := by
  refine ⟨?_, Fr.setCells _ _ _ (Fr.refl _ _) (.inl rfl)⟩
  have h := Blk.setCells vs 0 _ _ h
  have e : setA zs 0 vs = vs.toArray := by
    apply Array.ext_getElem?
    intro k
    rcases Nat.lt_or_ge k vs.length with h1 | h1
    · have := setA_in vs zs 0 k vs[k] (List.getElem?_eq_getElem h1) (by omega)
      rw [Nat.zero_add] at this
      rw [this, List.getElem?_toArray, List.getElem?_eq_getElem h1]
    · rw [Array.getElem?_eq_none (by rw [setA_size]; omega), Array.getElem?_eq_none (by simpa using h1)]
  rwa [e] at h
theorem Blk.range7 {w : World} {g : Nat} {t : TypeId} {l : List Value} (h : Blk w g t l.toArray) : w.rangeAt g 0 l := fun j v hv => by
  rw [Nat.zero_add]
  exact h.cell' (by simpa using hv)
section
variable {P : Program} {md : Region.Mode} {ops : Array Oper} {Q : Exit → Act → World → Prop} {S : World → Prop}
theorem wpAnyU_one7 {m i : Nat} {oi : Oper} {fuel : Nat} {listed : Array Bool} {a : Act} {w : World} (hi : ops[i]? = some oi) (hw : Region.wanted oi (yielded ops a.tmps) = true) (hr : Region.ready md ops listed = [i])
    (h : Oper.wp P oi a w (fun a' w' => (m ≤ i ∨ S w') ∧ wpAnyU P md ops Q S m fuel (listed.setIfInBounds i true) a' w') Q) : wpAnyU P md ops Q S m (fuel + 1) listed a w := by
  refine wpAnyU_all hr (by simp) (fun j hj => ?_)
  obtain rfl : j = i := by simpa using hj
  unfold wpOp
  simp only [hi, hw, if_true]
  exact .inl h
theorem wpAnyU_two7 {m i j : Nat} {oi oj : Oper} {fuel : Nat} {listed : Array Bool} {a : Act} {w : World} (hi : ops[i]? = some oi) (hj : ops[j]? = some oj) (wi : Region.wanted oi (yielded ops a.tmps) = true) (wj : Region.wanted oj (yielded ops a.tmps) = true) (hr : Region.ready md ops listed = [i, j])
    (h1 : Oper.wp P oi a w (fun a' w' => (m ≤ i ∨ S w') ∧ wpAnyU P md ops Q S m fuel (listed.setIfInBounds i true) a' w') Q)
    (h2 : Oper.wp P oj a w (fun a' w' => (m ≤ j ∨ S w') ∧ wpAnyU P md ops Q S m fuel (listed.setIfInBounds j true) a' w') Q) : wpAnyU P md ops Q S m (fuel + 1) listed a w := by
  refine wpAnyU_all hr (by simp) (fun k hk => ?_)
  have hk' : k = i ∨ k = j := by simpa using hk
  rcases hk' with rfl | rfl
  · unfold wpOp
    simp only [hi, wi, if_true]
    exact .inl h1
  · unfold wpOp
    simp only [hj, wj, if_true]
    exact .inl h2
end
end Go.Proofs.YtfihfjbakfadkaaGreatDoor
namespace Go.Proofs.YtfihfjbakfadkaaGreatDoor
open Go.RowKit Go.BigFrame
set_option maxRecDepth 100000
set_option linter.unusedVariables false

def RightPost (L : List Rw) (w : World) (e : Ending) (w' : World) : Prop := ∃ b : Bool, e = .returned (.bool b) ∧ (b = true ↔ RightR L) ∧ Fr none_ w w'
set_option maxHeartbeats 4000000 in
theorem rightR_ok (L : List Rw) (A : Option Addr) (c : Nat) (w : World) (h : Reads w 2 A L.length (rwFlat L)) (ho : RwsOk L) :
    Calls Tryz.prog 104 #[.slice A L.length c] w (RightPost L w) := by
  have H1 := hid_ h
  have OK := hid_ ho
  have h1000 := ho.1
  clear h ho
  go_enter Tryz.func104, Tryz.ntmps104
  go_wp2_with fail
  go_loopw [7] (fun i wr => ∃ k : Nat, k ≤ L.length ∧ i = .int .i64 k ∧ RightTo L k ∧ Fr none_ w wr) (fun i _ => L.length - (intOf i).toNat)
  case atStart => exact ⟨0, Nat.zero_le _, rfl, ⟨fun j p hj => by omega, fun j p q hj => by omega⟩, Fr.refl _ _⟩
  case round =>
    obtain ⟨k, hk, rfl, hst, hF⟩ := hrel
    have ST := hid_ hst
    have H := hid_ (H1.out.none_fr hF)
    have F := hid_ hF
    clear hst hF
    have hi0 : (0 : Int) ≤ (k : Int) := Int.natCast_nonneg _
    by_cases hlt : k < L.length
    · have hi1' : (k : Int) < (L.length : Int) := by omega
      obtain ⟨p, hp⟩ : ∃ p, L[k]? = some p := ⟨_, List.getElem?_eq_getElem hlt⟩
      obtain ⟨b, off, rfl, hb2, c0, c1⟩ := rw_at H.out hp
      have HP := hid_ hp
      clear hp
      go_upto_region 4 with fail
      obtain ⟨X, hX⟩ : ∃ X, X = wr.heap.size := ⟨_, rfl⟩
      obtain ⟨w2, hw2⟩ : ∃ w2, w2 = wr.alloc (.cells #[.string p.1, .string p.2] 143) := ⟨_, rfl⟩
      have f2 : Fr none_ wr w2 := by rw [hw2]; exact (Fr.refl none_ wr).alloc _
      have BX : Hid (Blk w2 X 143 #[.string p.1, .string p.2]) := hid_ (by rw [hw2, hX]; exact Blk.new wr _ _)
      have H2 := hid_ (H.out.none_fr f2)
      have F2 := hid_ (F.out.then_none f2)
      rw [← hX]
      change Code.wp _ _ _ _ (wr.alloc (.cells #[.string p.1, .string p.2] 143))
      rw [← hw2]
      clear hw2 hX f2 c0 c1
      have hpk := OK.out.2 p (List.mem_of_getElem? HP.out)
      have HPK := hid_ hpk
      clear hpk
      go_cut [30] (fun v wq => ∃ bb : Bool, v = .bool bb ∧ (bb = false ↔ (fitsR p = true ∧ ∀ q, 0 < k → L[k - 1]? = some q → ltS q.1 p.1 = true)) ∧ Fr none_ w2 wq)
      case first =>
        have x0 : w2.cell? ⟨X, 0, none⟩ = some (.string p.1) := BX.out.cell' rfl
        have x1 : w2.cell? ⟨X, 1, none⟩ = some (.string p.2) := BX.out.cell' rfl
        have z0 : ∀ x : Wx w2, x.to.cell? ⟨X, 0, none⟩ = some (.string p.1) := fun x => x.cell x0
        have z1 : ∀ x : Wx w2, x.to.cell? ⟨X, 1, none⟩ = some (.string p.2) := fun x => x.cell x1
        clear x0 x1
        cases hin : fitsR p with
        | false =>
          have HC : Hid (∀ x : Wx w2, Calls Tryz.prog 121 #[rwV p] x.to fun e w' => e = .returned (.bool false) ∧ Fr none_ x.to w') := hid_ (fun x => by
            have h := fits_ok p x.to HPK.out.1 HPK.out.2
            rwa [hin] at h)
          have HIN := hid_ hin
          clear hin
          refine wp_region_quiet_x (by kernel_rfl) (by kernel_rfl) ?_
          repeat (first | go_big_quiet_step ((go_at_call 121; exact Calls.quiet_x (HC.out _))) | quiet_step ((go_at_call 121; exact Calls.quiet_x (HC.out _))))
          refine wpQuiet_nil ?_
          intro _ hw'
          obtain ⟨xq, hw''⟩ := hw'
          subst hw''
          go_wp2
          go_meet
          case rel => exact ⟨true, rfl, ⟨(fun h => by cases h), fun h => by rw [HIN.out] at h; cases h.1⟩, xq.fr⟩
        | true =>
          have HC : Hid (∀ x : Wx w2, Calls Tryz.prog 121 #[rwV p] x.to fun e w' => e = .returned (.bool true) ∧ Fr none_ x.to w') := hid_ (fun x => by
            have h := fits_ok p x.to HPK.out.1 HPK.out.2
            rwa [hin] at h)
          have HIN := hid_ hin
          clear hin
          by_cases hk0 : 0 < k
          · obtain ⟨q, hq⟩ : ∃ q, L[k - 1]? = some q := ⟨_, List.getElem?_eq_getElem (by omega)⟩
            obtain ⟨b3, off3, hA, hb3, d0, d1⟩ := rw_at H2.out hq
            obtain ⟨rfl, rfl⟩ : b = b3 ∧ off = off3 := by injection hA with hA; injection hA with e1 e2; exact ⟨e1, e2⟩
            have e0 : ∀ x : Wx w2, x.to.cell? ⟨b, off + (k - 1) * 2, none⟩ = some (.string q.1) := fun x => x.cell d0
            have hqk := (OK.out.2 q (List.mem_of_getElem? hq)).1
            have HQK := hid_ hqk
            have HQ := hid_ hq
            have HQ' : Hid ((∀ q', 0 < k → L[k - 1]? = some q' → ltS q'.1 p.1 = true) ↔ ltS q.1 p.1 = true) := hid_ ⟨fun h => h q hk0 hq, fun h q' _ hq' => by rw [hq] at hq'; cases hq'; exact h⟩
            have HC2 : Hid (∀ x : Wx w2, Calls Tryz.prog 85 #[.string q.1, .string p.1] x.to fun e w' => e = .returned (.int .i64 (cmpI q.1 p.1)) ∧ Fr none_ x.to w') := hid_ (fun x => (compare_ok q.1 p.1 x.to HQK.out.le HPK.out.1.le).mono (by rintro e w' ⟨rfl, n, rfl⟩; exact ⟨rfl, (Fr.refl none_ _).drewN n⟩))
            have hw1 : IntKind.i64.wrap ((k : Int) - 1) = ((k - 1 : Nat) : Int) := by rw [show (k : Int) - 1 = ((k - 1 : Nat) : Int) by omega]; exact IntWalk.i64_in _ (by omega)
            have hdk : decide (0 < k) = true := decide_eq_true hk0
            have hj0 : (0 : Int) ≤ ((k - 1 : Nat) : Int) := Int.natCast_nonneg _
            have hj1 : ((k - 1 : Nat) : Int) < (L.length : Int) := by omega
            obtain ⟨j, hj⟩ : ∃ j, j = k - 1 := ⟨_, rfl⟩
            rw [← hj] at e0 hw1 hj0 hj1
            have HJ := hid_ hj
            have hge := cmp_ge q.1 p.1
            have HGE := hid_ hge
            clear hq hA d0 d1 hqk hj hge hk0
            refine wp_region_quiet_x (by kernel_rfl) (by kernel_rfl) ?_
            repeat (first | go_big_quiet_step ((first | (go_at_call 121; exact Calls.quiet_x (HC.out _)) | (go_at_call 85; exact Calls.quiet_x (HC2.out _)))) | quiet_step ((first | (go_at_call 121; exact Calls.quiet_x (HC.out _)) | (go_at_call 85; exact Calls.quiet_x (HC2.out _)))))
            refine wpQuiet_nil ?_
            intro _ hw'
            obtain ⟨xq, hw''⟩ := hw'
            subst hw''
            go_wp2
            go_meet
            case rel => exact ⟨_, rfl, by
              rw [HGE.out, HIN.out, HQ'.out]
              cases ltS q.1 p.1 <;> simp, xq.fr⟩
          · have hdk : decide (0 < k) = false := decide_eq_false hk0
            have hk0' : k = 0 := by omega
            have HK0 := hid_ hk0'
            clear hk0 hk0'
            refine wp_region_quiet_x (by kernel_rfl) (by kernel_rfl) ?_
            repeat (first | go_big_quiet_step ((go_at_call 121; exact Calls.quiet_x (HC.out _))) | quiet_step ((go_at_call 121; exact Calls.quiet_x (HC.out _))))
            refine wpQuiet_nil ?_
            intro _ hw'
            obtain ⟨xq, hw''⟩ := hw'
            subst hw''
            go_wp2
            go_meet
            case rel => exact ⟨false, rfl, ⟨fun _ => ⟨HIN.out, fun q h => by have := HK0.out; omega⟩, fun _ => rfl⟩, xq.fr⟩
      case rest =>
      obtain ⟨bb, rfl, hbb, hf⟩ := hcut
      have F3 := hid_ (F2.out.then_none hf)
      have HB := hid_ hbb
      clear hf hbb H2 BX F2
      cases bb with
      | true =>
        have hns : ¬ RightR L := fun hS => by
          have h := HB.out.2 ⟨hS.fit p (List.mem_of_getElem? HP.out), fun q h0 hq => hS.ris (k - 1) q p hq (by rw [show k - 1 + 1 = k by omega]; exact HP.out)⟩
          cases h
        have HNS := hid_ hns
        clear hns
        go_wp2_with fail
        go_ret
        exact ⟨false, rfl, ⟨(fun h => by cases h), fun h => absurd h HNS.out⟩, F3.out⟩
      | false =>
        have hst : RightTo L (k + 1) := by
          have h := HB.out.1 rfl
          refine ⟨fun j p' hj hp' => ?_, fun j p' q hj hp' hq => ?_⟩
          · rcases Nat.lt_succ_iff_lt_or_eq.1 hj with hj | rfl
            · exact ST.out.1 j p' hj hp'
            · rw [HP.out] at hp'; cases hp'; exact h.1
          · rcases Nat.lt_succ_iff_lt_or_eq.1 hj with hj | hj
            · exact ST.out.2 j p' q hj hp' hq
            · rw [hj, HP.out] at hq
              cases hq
              exact h.2 p' (by omega) (by rw [show k - 1 = j by omega]; exact hp')
        have HST := hid_ hst
        clear hst
        go_wp2_with fail
        go_roundw
        case rel => exact ⟨k + 1, by omega, by go_num, HST.out, F3.out⟩
        case measure => simp [intOf]; omega
    · obtain rfl : k = L.length := by omega
      have hS : RightR L := ⟨fun p hp => by obtain ⟨j, hj, e⟩ := List.mem_iff_getElem.1 hp; exact ST.out.1 j p hj (by rw [List.getElem?_eq_getElem hj, e]), fun j p q hp hq => ST.out.2 j p q (List.getElem?_eq_some_iff.1 hq).1 hp hq⟩
      have HS := hid_ hS
      clear hS
      go_wp2_with fail
      go_ret
      exact ⟨true, rfl, ⟨fun _ => HS.out, fun _ => rfl⟩, F.out⟩

def PutPost (L : List Rw) (p : Rw) (w : World) (e : Ending) (w' : World) : Prop :=
  (fitsR p = true ∧ ∃ A c, e = .returned (.tuple #[.slice A (putR L p).length c, .bool (atR L p.1), .nilIface]) ∧ w'.ownsRow w.heap.size 143 2 (.slice A (putR L p).length c) (putR L p).length (rwFlat (putR L p)) ∧ Fr none_ w w') ∨
  (fitsR p = false ∧ e = .returned (.tuple #[.slice none 0 0, .bool false, errV 1]) ∧ Fr none_ w w')
theorem ptR_three (a b c : PtR) : ptRL [a, b, c] = a.2.2 ++ b.2.2 ++ c.2.2 := by simp [ptRL]
theorem ptR_two (a b : PtR) : ptRL [a, b] = a.2.2 ++ b.2.2 := by simp [ptRL]
theorem ptR_one (a : PtR) : ptRL [a] = a.2.2 := by simp [ptRL]
theorem rwFlat_single (p : Rw) : rwFlat [p] = [.string p.1, .string p.2] := by simp [rwFlat, rwCells]
set_option maxHeartbeats 4000000 in
theorem putR_ok (L : List Rw) (A : Option Addr) (c : Nat) (p : Rw) (w : World) (h : Reads w 2 A L.length (rwFlat L)) (ho : RwsOk L) (hc : L.length ≤ c) (hm : c ≤ maxLen) (hp : SzOk p.1 ∧ SzOk p.2) :
    Calls Tryz.prog 106 #[.slice A L.length c, rwV p] w (PutPost L p w) := by
  have HK := hid_ hp
  have HO := hid_ ho
  have hpl := plR_le L p.1
  have h3 := ho.1
  unfold maxLen at hm
  obtain ⟨w0, hw0⟩ : ∃ z, z = w.alloc (.cells #[.string p.1, .string p.2] 143) := ⟨_, rfl⟩
  have f0 : Fr none_ w w0 := by rw [hw0]; exact (Fr.refl none_ w).alloc _
  have B0 : Hid (Blk w0 w.heap.size 143 #[.string p.1, .string p.2]) := hid_ (by rw [hw0]; exact Blk.new w _ _)
  have F0 := hid_ f0
  have H := hid_ (h.none_fr f0)
  clear h ho hp f0
  go_enter Tryz.func106, Tryz.ntmps106
  go_upto_region 1 with fail
  change Code.wp _ _ _ _ (w.alloc (.cells #[.string p.1, .string p.2] 143))
  rw [← hw0]
  clear hw0
  have c0 : w0.cell? ⟨w.heap.size, 0, none⟩ = some (.string p.1) := B0.out.cell' rfl
  have c1 : w0.cell? ⟨w.heap.size, 1, none⟩ = some (.string p.2) := B0.out.cell' rfl
  go_wp2_with fail
  refine (fits_ok p _ HK.out.1 HK.out.2).mono ?_
  rintro e w1 ⟨rfl, hf1⟩
  clear c0 c1
  replace F0 := hid_ (F0.out.then_none hf1)
  replace B0 := hid_ (B0.out.fr hf1 id)
  replace H := hid_ (H.out.none_fr hf1)
  clear hf1
  cases hfit : fitsR p with
  | false =>
    have HF := hid_ hfit
    clear hfit
    go_wp2
    go_ret3
    exact .inr ⟨HF.out, rfl, F0.out⟩
  | true =>
  have HF := hid_ hfit
  clear hfit
  have c0 : w1.cell? ⟨w.heap.size, 0, none⟩ = some (.string p.1) := B0.out.cell' rfl
  have c1 : w1.cell? ⟨w.heap.size, 1, none⟩ = some (.string p.2) := B0.out.cell' rfl
  go_wp2_with fail
  refine (findR_ok L A c p.1 w1 H.out HO.out HK.out.1).mono ?_
  rintro e w2 ⟨rfl, hf2⟩
  clear c0 c1
  replace F0 := hid_ (F0.out.then_none hf2)
  replace B0 := hid_ (B0.out.fr hf2 id)
  replace H := hid_ (H.out.none_fr hf2)
  clear hf2
  obtain ⟨n, hn⟩ : ∃ n, n = plR L p.1 := ⟨_, rfl⟩
  obtain ⟨b, hb⟩ : ∃ b, b = atR L p.1 := ⟨_, rfl⟩
  rw [← hn, ← hb]
  rw [← hn] at hpl
  have hlt : b = true → n < L.length := fun h => by rw [hn]; exact atR_lt (by rw [← hb]; exact h)
  have HPUT : Hid (putR L p = L.take n ++ [p] ++ L.drop (n + if b then 1 else 0)) := hid_ (by rw [putR, ← hn, ← hb])
  have HB := hid_ hb
  have HN := hid_ hn
  clear hn hb
  have hi0 : (0 : Int) ≤ (n : Int) := Int.natCast_nonneg _
  have hi1 : (n : Int) ≤ (L.length : Int) := by omega
  have hcl : (L.length : Int) ≤ (c : Int) := by omega
  have hi2 : (n : Int) ≤ (c : Int) := by omega
  have CAP := hid_ hc
  go_upto_if 22 with fail
  go_cut [9] (fun u wq => ∃ m : Nat, m = (n + if b then 1 else 0) ∧ u = .int .i64 m ∧ wq = w2)
  case first =>
    cases b with
    | false =>
      go_wp2
      go_meet
      case rel => exact ⟨n, by simp, rfl, rfl⟩
    | true =>
      have := hlt rfl
      go_wp2
      go_meet
      case rel =>
        refine ⟨n + 1, by simp, ?_, rfl⟩
        go_num
  case rest =>
    obtain ⟨m, hm7, rfl, rfl⟩ := hcut
    have hml : m ≤ L.length := by
      cases b with
      | false => simp at hm7; omega
      | true => have := hlt rfl; simp at hm7; omega
    rw [← hm7] at HPUT
    clear hm7 hlt
    obtain ⟨A5, hA5⟩ : ∃ A5, (if c = m then A else Option.map (fun x => x.add (m * 2)) A) = A5 := ⟨_, rfl⟩
    have R1 := hid_ (H.out.upto hpl)
    have R2 := H.out.cut hml CAP.out
    rw [hA5] at R2
    have R2' := hid_ R2
    clear R2
    have htl : (L.take n).length = n := by simp; omega
    have hdl : (L.drop m).length = L.length - m := by simp
    have hi3 : (0 : Int) ≤ (m : Int) := Int.natCast_nonneg _
    have hi4 : (m : Int) ≤ (L.length : Int) := by omega
    have hi5 : (m : Int) ≤ (c : Int) := by omega
    go_upto_region 7 with fail
    have c0 : wc.cell? ⟨w.heap.size, 0, none⟩ = some (.string p.1) := B0.out.cell' rfl
    have c1 : wc.cell? ⟨w.heap.size, 1, none⟩ = some (.string p.2) := B0.out.cell' rfl
    have hS0 : (fun w' : World => Fr none_ wc w') wc.drew := (Fr.refl none_ wc).drew
    refine wp_region_U (m := 14) (S := fun w' : World => Fr none_ wc w') (by kernel_rfl) ?_
    refine wpAnyU_take2 (i := 0) (v := _) rfl (by kernel_rfl) (by kernel_rfl) (by kernel_rfl) (by kernel_rfl) (fun _ _ _ h => h) (.inl ⟨by kernel_rfl, fun w' hS => by have s_c0 := cellFr c0 hS; have s_c1 := cellFr c1 hS; go_simp; rfl⟩) hS0 ?_
    refine wpAnyU_take2 (i := 1) (v := _) rfl (by kernel_rfl) (by kernel_rfl) (by kernel_rfl) (by kernel_rfl) (fun _ _ _ h => h) (.inl ⟨by kernel_rfl, fun w' hS => by have s_c0 := cellFr c0 hS; have s_c1 := cellFr c1 hS; go_simp; rfl⟩) hS0 ?_
    refine wpAnyU_take2 (i := 2) (v := _) rfl (by kernel_rfl) (by kernel_rfl) (by kernel_rfl) (by kernel_rfl) (fun _ _ _ h => h) (.inl ⟨by kernel_rfl, fun w' hS => by have s_c0 := cellFr c0 hS; have s_c1 := cellFr c1 hS; go_simp; rfl⟩) hS0 ?_
    refine wpAnyU_take2 (i := 3) (v := _) rfl (by kernel_rfl) (by kernel_rfl) (by kernel_rfl) (by kernel_rfl) (fun _ _ _ h => h) (.inl ⟨by kernel_rfl, fun w' hS => by have s_c0 := cellFr c0 hS; have s_c1 := cellFr c1 hS; go_simp; rfl⟩) hS0 ?_
    refine wpAnyU_take2 (i := 5) (v := _) rfl (by kernel_rfl) (by kernel_rfl) (by kernel_rfl) (by kernel_rfl) (fun _ _ _ h => h) (.inl ⟨by kernel_rfl, fun w' hS => by have s_c0 := cellFr c0 hS; have s_c1 := cellFr c1 hS; go_simp; rfl⟩) hS0 ?_
    refine wpAnyU_take2 (i := 6) (v := _) rfl (by kernel_rfl) (by kernel_rfl) (by kernel_rfl) (by kernel_rfl) (fun _ _ _ h => h) (.inl ⟨by kernel_rfl, fun w' hS => by have s_c0 := cellFr c0 hS; have s_c1 := cellFr c1 hS; go_simp; rfl⟩) hS0 ?_
    refine wpAnyU_take2 (i := 7) (v := _) rfl (by kernel_rfl) (by kernel_rfl) (by kernel_rfl) (by kernel_rfl) (fun _ _ _ h => h) (.inl ⟨by kernel_rfl, fun w' hS => by have s_c0 := cellFr c0 hS; have s_c1 := cellFr c1 hS; go_simp; rfl⟩) hS0 ?_
    refine wpAnyU_take2 (i := 10) (v := _) rfl (by kernel_rfl) (by kernel_rfl) (by kernel_rfl) (by kernel_rfl) (fun _ _ _ h => h) (.inl ⟨by kernel_rfl, fun w' hS => by have s_c0 := cellFr c0 hS; have s_c1 := cellFr c1 hS; go_simp; rfl⟩) hS0 ?_
    refine wpAnyU_one7 (i := 4) rfl (by kernel_rfl) (by kernel_rfl) ?_
    go_simp
    refine ⟨(Fr.refl none_ wc).drew.alloc _, ?_⟩
    refine wpAnyU_one7 (i := 8) rfl (by kernel_rfl) (by kernel_rfl) ?_
    go_simp
    refine ⟨((Fr.refl none_ wc).drew.alloc _).alloc _, ?_⟩
    refine wpAnyU_one7 (i := 9) rfl (by kernel_rfl) (by kernel_rfl) ?_
    go_simp
    obtain ⟨w3, hw_w3⟩ : ∃ z, z = ((wc.alloc (.cells #[.string p.1, .string p.2] 143)).alloc (.cells #[.slice A n c, .slice (some ⟨wc.heap.size, 0, none⟩) 1 1, .slice A5 (L.length - m) (c - m)] 28)).drew := ⟨_, rfl⟩
    have f3 : Fr none_ wc w3 := by rw [hw_w3]; repeat (first | exact Fr.refl none_ wc | apply Fr.drew | apply Fr.alloc)
    have B3 := (Blk.new7 (w := (wc.alloc (.cells #[.string p.1, .string p.2] 143))) (b := wc.heap.size + 1) 28 #[.slice A n c, .slice (some ⟨wc.heap.size, 0, none⟩) 1 1, .slice A5 (L.length - m) (c - m)] (by simp)).drew
    rw [← hw_w3] at B3
    have E3 : Reads w3 2 (some ⟨wc.heap.size, 0, none⟩) 1 (rwFlat [p]) := by
      rw [hw_w3, rwFlat_single]
      exact ((reads_new wc 143 [.string p.1, .string p.2] wc.heap.size rfl).alloc _).drew
    rw [← hw_w3]
    clear hw_w3 c0 c1
    refine (list_ok (wc.heap.size + 1) [(A, c, L.take n), (some ⟨wc.heap.size, 0, none⟩, 1, [p]), (A5, c - m, L.drop m)] w3 ?_ ?_ ?_ ?_).mono ?_
    · intro i x hx
      match i, hx with
      | 0, hx => cases hx; rw [B3.cell]; show some (Value.slice A n c) = some (Value.slice (A) (L.take n).length (c)); rw [htl]
      | 1, hx => cases hx; rw [B3.cell]; show some (Value.slice (some ⟨wc.heap.size, 0, none⟩) 1 1) = some (Value.slice (some ⟨wc.heap.size, 0, none⟩) ([p]).length (1)); rfl
      | 2, hx => cases hx; rw [B3.cell]; show some (Value.slice A5 (L.length - m) (c - m)) = some (Value.slice (A5) (L.drop m).length (c - m)); rw [hdl]
      | k + 3, hx => simp at hx
    · intro x hx
      simp only [List.mem_cons, List.not_mem_nil, or_false] at hx
      rcases hx with rfl | rfl | rfl
      · show Reads w3 2 (A) (L.take n).length (rwFlat (L.take n))
        rw [htl, show rwFlat (L.take n) = (rwFlat L).take (n * 2) from rwFlat_take L n]
        exact R1.out.none_fr f3
      · show Reads w3 2 (some ⟨wc.heap.size, 0, none⟩) ([p]).length (rwFlat ([p]))
        exact E3
      · show Reads w3 2 (A5) (L.drop m).length (rwFlat (L.drop m))
        rw [hdl, rwFlat_drop]
        exact R2'.out.none_fr f3
    · simp [ptRL]; omega
    · simp
    rintro e w4 ⟨A', c', rfl, ho, hf4⟩
    rw [ptR_three, show (L.take n ++ [p] ++ L.drop m) = putR L p from HPUT.out.symm] at ho ⊢
    have hs3 := f3.size
    have hs0 := F0.out.size
    have O4 := hid_ (own_base ho (by omega : w.heap.size ≤ w3.heap.size))
    have F3 : Hid (Fr none_ wc w4) := hid_ (f3.then_none hf4)
    have F4 := hid_ (F0.out.then_none F3.out)
    clear ho hf4 B3 E3 f3 htl hdl
    refine ⟨F3.out, ?_⟩
    refine wpAnyU_one7 (i := 11) rfl (by kernel_rfl) (by kernel_rfl) ?_
    go_simp
    refine ⟨F3.out, ?_⟩
    refine wpAnyU_one7 (i := 12) rfl (by kernel_rfl) (by kernel_rfl) ?_
    go_simp
    refine ⟨F3.out, ?_⟩
    refine wpAnyU_one7 (i := 13) rfl (by kernel_rfl) (by kernel_rfl) ?_
    go_simp
    refine ⟨F3.out, ?_⟩
    refine wpAnyU_done (by kernel_rfl) ?_ _
    go_wp2
    go_ret3
    exact .inl ⟨HF.out, A', c', by rw [HB.out]; rfl, O4.out, F4.out⟩

def DropPost (L : List Rw) (key : ByteArray) (w : World) (e : Ending) (w' : World) : Prop :=
  ∃ A c, e = .returned (.tuple #[.slice A (dropR L key).length c, .bool (atR L key)]) ∧ w'.ownsRow w.heap.size 143 2 (.slice A (dropR L key).length c) (dropR L key).length (rwFlat (dropR L key)) ∧ Fr none_ w w'
set_option maxHeartbeats 4000000 in
theorem dropR_ok (L : List Rw) (A : Option Addr) (c : Nat) (key : ByteArray) (w : World) (h : Reads w 2 A L.length (rwFlat L)) (ho : RwsOk L) (hc : L.length ≤ c) (hm : c ≤ maxLen) (hk : SzOk key) :
    Calls Tryz.prog 108 #[.slice A L.length c, .string key] w (DropPost L key w) := by
  have HK := hid_ hk
  have HO := hid_ ho
  have hpl := plR_le L key
  have h3 := ho.1
  unfold maxLen at hm
  have H := hid_ h
  clear h ho hk
  go_enter Tryz.func108, Tryz.ntmps108
  go_wp2_with fail
  refine (findR_ok L A c key w H.out HO.out HK.out).mono ?_
  rintro e w1 ⟨rfl, hf⟩
  replace H := hid_ (H.out.none_fr hf)
  have F0 := hid_ hf
  clear hf
  obtain ⟨n, hn⟩ : ∃ n, n = plR L key := ⟨_, rfl⟩
  obtain ⟨b, hb⟩ : ∃ b, b = atR L key := ⟨_, rfl⟩
  rw [← hn, ← hb]
  rw [← hn] at hpl
  have hlt : b = true → n < L.length := fun h => by rw [hn]; exact atR_lt (by rw [← hb]; exact h)
  have HD : Hid (dropR L key = if b then L.take n ++ L.drop (n + 1) else L) := hid_ (by rw [dropR, ← hn, ← hb])
  have HB := hid_ hb
  have CAP := hid_ hc
  clear hn hb
  have hi0 : (0 : Int) ≤ (n : Int) := Int.natCast_nonneg _
  have hs0 := F0.out.size
  cases b with
  | false =>
    have HD' : Hid (dropR L key = L) := hid_ (by rw [HD.out]; rfl)
    clear hlt
    go_wp2_with fail
    have hB := Blk.new w1 28 #[.slice A L.length c]
    refine (list_ok (w1.heap.size) [(A, c, L)] _ ?_ ?_ ?_ ?_).mono ?_
    · intro i x hx
      match i, hx with
      | 0, hx => cases hx; rw [hB.cell]; show some (Value.slice A L.length c) = some (Value.slice (A) (L).length (c)); rfl
      | k + 1, hx => simp at hx
    · intro x hx
      simp only [List.mem_cons, List.not_mem_nil, or_false] at hx
      rcases hx with rfl
      · show Reads (w1.alloc _) 2 (A) (L).length (rwFlat (L))
        exact H.out.alloc _
    · simp [ptRL]; omega
    · simp
    rintro e w4 ⟨A', c', rfl, hown, hf4⟩
    rw [ptR_one] at hown ⊢
    have O4 := hid_ (own_base hown (by simp; omega : w.heap.size ≤ (w1.alloc (.cells #[.slice A L.length c] 28)).heap.size))
    have F4 := hid_ (((F0.out.alloc _).then_none hf4))
    clear hown hf4 hB
    go_wp2
    go_ret2
    refine ⟨A', c', ?_, ?_, F4.out⟩
    · rw [HD'.out, HB.out]; rfl
    · rw [HD'.out]; exact O4.out
  | true =>
    have hnl := hlt rfl
    have HD' : Hid (dropR L key = L.take n ++ L.drop (n + 1)) := hid_ (by rw [HD.out]; rfl)
    obtain ⟨m, hm7⟩ : ∃ m, m = n + 1 := ⟨_, rfl⟩
    have hml : m ≤ L.length := by omega
    have hwr : IntKind.i64.wrap ((n : Int) + 1) = (m : Int) := by rw [hm7]; exact IntWalk.i64_in _ (by omega)
    rw [← hm7] at HD'
    clear hlt hm7
    obtain ⟨A5, hA5⟩ : ∃ A5, (if c = m then A else Option.map (fun x => x.add (m * 2)) A) = A5 := ⟨_, rfl⟩
    have R1 := hid_ (H.out.upto hpl)
    have R2 := H.out.cut hml CAP.out
    rw [hA5] at R2
    have R2' := hid_ R2
    clear R2
    have htl : (L.take n).length = n := by simp; omega
    have hdl : (L.drop m).length = L.length - m := by simp
    have hi1 : (n : Int) ≤ (L.length : Int) := by omega
    have hi2 : (n : Int) ≤ (c : Int) := by omega
    have hi3 : (0 : Int) ≤ (m : Int) := Int.natCast_nonneg _
    have hi4 : (m : Int) ≤ (L.length : Int) := by omega
    have hi5 : (m : Int) ≤ (c : Int) := by omega
    have hcl : (L.length : Int) ≤ (c : Int) := by omega
    go_upto_region 4 with fail
    have hS0 : (fun w' : World => Fr none_ w1 w') w1.drew := (Fr.refl none_ w1).drew
    refine wp_region_U (m := 11) (S := fun w' : World => Fr none_ w1 w') (by kernel_rfl) ?_
    refine wpAnyU_take2 (i := 0) (v := _) rfl (by kernel_rfl) (by kernel_rfl) (by kernel_rfl) (by kernel_rfl) (fun _ _ _ h => h) (.inl ⟨by kernel_rfl, fun w' hS => by skip; go_simp; rfl⟩) hS0 ?_
    refine wpAnyU_take2 (i := 1) (v := _) rfl (by kernel_rfl) (by kernel_rfl) (by kernel_rfl) (by kernel_rfl) (fun _ _ _ h => h) (.inl ⟨by kernel_rfl, fun w' hS => by skip; go_simp; rfl⟩) hS0 ?_
    refine wpAnyU_take2 (i := 2) (v := _) rfl (by kernel_rfl) (by kernel_rfl) (by kernel_rfl) (by kernel_rfl) (fun _ _ _ h => h) (.inl ⟨by kernel_rfl, fun w' hS => by skip; go_simp; rfl⟩) hS0 ?_
    refine wpAnyU_take2 (i := 3) (v := _) rfl (by kernel_rfl) (by kernel_rfl) (by kernel_rfl) (by kernel_rfl) (fun _ _ _ h => h) (.inl ⟨by kernel_rfl, fun w' hS => by skip; go_simp; rfl⟩) hS0 ?_
    refine wpAnyU_take2 (i := 4) (v := _) rfl (by kernel_rfl) (by kernel_rfl) (by kernel_rfl) (by kernel_rfl) (fun _ _ _ h => h) (.inl ⟨by kernel_rfl, fun w' hS => by skip; go_simp; rfl⟩) hS0 ?_
    refine wpAnyU_take2 (i := 5) (v := _) rfl (by kernel_rfl) (by kernel_rfl) (by kernel_rfl) (by kernel_rfl) (fun _ _ _ h => h) (.inl ⟨by kernel_rfl, fun w' hS => by skip; go_simp; rfl⟩) hS0 ?_
    refine wpAnyU_take2 (i := 6) (v := _) rfl (by kernel_rfl) (by kernel_rfl) (by kernel_rfl) (by kernel_rfl) (fun _ _ _ h => h) (.inl ⟨by kernel_rfl, fun w' hS => by skip; go_simp; rfl⟩) hS0 ?_
    refine wpAnyU_one7 (i := 7) rfl (by kernel_rfl) (by kernel_rfl) ?_
    go_simp
    refine ⟨(Fr.refl none_ w1).drew.alloc _, ?_⟩
    refine wpAnyU_one7 (i := 8) rfl (by kernel_rfl) (by kernel_rfl) ?_
    go_simp
    obtain ⟨w3, hw_w3⟩ : ∃ z, z = (w1.alloc (.cells #[.slice A n c, .slice A5 (L.length - m) (c - m)] 28)).drew := ⟨_, rfl⟩
    have f3 : Fr none_ w1 w3 := by rw [hw_w3]; repeat (first | exact Fr.refl none_ w1 | apply Fr.drew | apply Fr.alloc)
    have B3 := (Blk.new7 (w := w1) (b := w1.heap.size) 28 #[.slice A n c, .slice A5 (L.length - m) (c - m)] (by simp)).drew
    rw [← hw_w3] at B3
    rw [← hw_w3]
    clear hw_w3
    refine (list_ok (w1.heap.size) [(A, c, L.take n), (A5, c - m, L.drop m)] w3 ?_ ?_ ?_ ?_).mono ?_
    · intro i x hx
      match i, hx with
      | 0, hx => cases hx; rw [B3.cell]; show some (Value.slice A n c) = some (Value.slice (A) (L.take n).length (c)); rw [htl]
      | 1, hx => cases hx; rw [B3.cell]; show some (Value.slice A5 (L.length - m) (c - m)) = some (Value.slice (A5) (L.drop m).length (c - m)); rw [hdl]
      | k + 2, hx => simp at hx
    · intro x hx
      simp only [List.mem_cons, List.not_mem_nil, or_false] at hx
      rcases hx with rfl | rfl
      · show Reads w3 2 (A) (L.take n).length (rwFlat (L.take n))
        rw [htl, show rwFlat (L.take n) = (rwFlat L).take (n * 2) from rwFlat_take L n]
        exact R1.out.none_fr f3
      · show Reads w3 2 (A5) (L.drop m).length (rwFlat (L.drop m))
        rw [hdl, rwFlat_drop]
        exact R2'.out.none_fr f3
    · simp [ptRL]; omega
    · simp
    rintro e w4 ⟨A', c', rfl, ho, hf4⟩
    rw [ptR_two, show L.take n ++ L.drop m = dropR L key from HD'.out.symm] at ho ⊢
    have hs3 := f3.size
    have O4 := hid_ (own_base ho (by omega : w.heap.size ≤ w3.heap.size))
    have F3 : Hid (Fr none_ w1 w4) := hid_ (f3.then_none hf4)
    have F4 := hid_ (F0.out.then_none F3.out)
    clear ho hf4 B3 f3 htl hdl
    refine ⟨F3.out, ?_⟩
    refine wpAnyU_one7 (i := 9) rfl (by kernel_rfl) (by kernel_rfl) ?_
    go_simp
    refine ⟨F3.out, ?_⟩
    refine wpAnyU_one7 (i := 10) rfl (by kernel_rfl) (by kernel_rfl) ?_
    go_simp
    refine ⟨F3.out, ?_⟩
    refine wpAnyU_done (by kernel_rfl) ?_ _
    go_wp2
    go_ret2
    exact ⟨A', c', by rw [← HB.out]; rfl, O4.out, F4.out⟩

def CutPost (L : List Rw) (key : ByteArray) (w : World) (e : Ending) (w' : World) : Prop :=
  ∃ A c B n d, e = .returned (.tuple #[.slice A (L.take (plR L key)).length c, .slice B n d]) ∧ w'.ownsRow w.heap.size 143 2 (.slice A (L.take (plR L key)).length c) (L.take (plR L key)).length (rwFlat (L.take (plR L key))) ∧ Fr none_ w w'
set_option maxHeartbeats 8000000 in
theorem cutR_ok (L : List Rw) (A : Option Addr) (c : Nat) (key : ByteArray) (w : World) (h : Reads w 2 A L.length (rwFlat L)) (ho : RwsOk L) (hc : L.length ≤ c) (hm : c ≤ maxLen) (hk : SzOk key) :
    Calls Tryz.prog 109 #[.slice A L.length c, .string key] w (CutPost L key w) := by
  have HK := hid_ hk
  have HO := hid_ ho
  have hpl := plR_le L key
  have h3 := ho.1
  unfold maxLen at hm
  have H := hid_ h
  clear h ho hk
  go_enter Tryz.func109, Tryz.ntmps109
  go_wp2_with fail
  refine (placeR_ok L A c key w H.out HO.out HK.out).mono ?_
  rintro e w1 ⟨rfl, hf⟩
  replace H := hid_ (H.out.none_fr hf)
  have F0 := hid_ hf
  clear hf
  obtain ⟨n, hn⟩ : ∃ n, n = plR L key := ⟨_, rfl⟩
  rw [← hn]
  rw [← hn] at hpl
  have HN := hid_ hn
  have CAP := hid_ hc
  clear hn
  have hi0 : (0 : Int) ≤ (n : Int) := Int.natCast_nonneg _
  have hs0 := F0.out.size
  obtain ⟨A5, hA5⟩ : ∃ A5, (if c = n then A else Option.map (fun x => x.add (n * 2)) A) = A5 := ⟨_, rfl⟩
  have R1 := hid_ (H.out.upto hpl)
  have R2 := H.out.cut hpl CAP.out
  rw [hA5] at R2
  have R2' := hid_ R2
  clear R2
  have htl : (L.take n).length = n := by simp; omega
  have hdl : (L.drop n).length = L.length - n := by simp
  have hi1 : (n : Int) ≤ (L.length : Int) := by omega
  have hi2 : (n : Int) ≤ (c : Int) := by omega
  have hcl : (L.length : Int) ≤ (c : Int) := by omega
  go_upto_region 2 with fail
  have hS0 : (fun w' : World => Fr none_ w1 w') w1.drew := (Fr.refl none_ w1).drew
  refine wp_region_U (m := 12) (S := fun w' : World => Fr none_ w1 w') (by kernel_rfl) ?_
  refine wpAnyU_take2 (i := 0) (v := _) rfl (by kernel_rfl) (by kernel_rfl) (by kernel_rfl) (by kernel_rfl) (fun _ _ _ h => h) (.inl ⟨by kernel_rfl, fun w' hS => by skip; go_simp; rfl⟩) hS0 ?_
  refine wpAnyU_take2 (i := 1) (v := _) rfl (by kernel_rfl) (by kernel_rfl) (by kernel_rfl) (by kernel_rfl) (fun _ _ _ h => h) (.inl ⟨by kernel_rfl, fun w' hS => by skip; go_simp; rfl⟩) hS0 ?_
  refine wpAnyU_take2 (i := 2) (v := _) rfl (by kernel_rfl) (by kernel_rfl) (by kernel_rfl) (by kernel_rfl) (fun _ _ _ h => h) (.inl ⟨by kernel_rfl, fun w' hS => by skip; go_simp; rfl⟩) hS0 ?_
  refine wpAnyU_take2 (i := 5) (v := _) rfl (by kernel_rfl) (by kernel_rfl) (by kernel_rfl) (by kernel_rfl) (fun _ _ _ h => h) (.inl ⟨by kernel_rfl, fun w' hS => by skip; go_simp; rfl⟩) hS0 ?_
  refine wpAnyU_take2 (i := 6) (v := _) rfl (by kernel_rfl) (by kernel_rfl) (by kernel_rfl) (by kernel_rfl) (fun _ _ _ h => h) (.inl ⟨by kernel_rfl, fun w' hS => by skip; go_simp; rfl⟩) hS0 ?_
  refine wpAnyU_take2 (i := 7) (v := _) rfl (by kernel_rfl) (by kernel_rfl) (by kernel_rfl) (by kernel_rfl) (fun _ _ _ h => h) (.inl ⟨by kernel_rfl, fun w' hS => by skip; go_simp; rfl⟩) hS0 ?_
  refine wpAnyU_two7 (i := 3) (j := 8) rfl rfl (by kernel_rfl) (by kernel_rfl) (by kernel_rfl) ?_ ?_
  · go_simp
    refine ⟨(Fr.refl none_ w1).drew.alloc _, ?_⟩
    refine wpAnyU_two7 (i := 4) (j := 8) rfl rfl (by kernel_rfl) (by kernel_rfl) (by kernel_rfl) ?_ ?_
    · go_simp
      obtain ⟨w3, hw_w3⟩ : ∃ z, z = (w1.alloc (.cells #[.slice A n c] 28)).drew := ⟨_, rfl⟩
      have f3 : Fr none_ w1 w3 := by rw [hw_w3]; repeat (first | exact Fr.refl none_ w1 | apply Fr.drew | apply Fr.alloc)
      have B3 := (Blk.new7 (w := w1) (b := w1.heap.size) 28 #[.slice A n c] rfl).drew
      rw [← hw_w3] at B3
      rw [← hw_w3]
      clear hw_w3
      refine (list_ok (w1.heap.size) [(A, c, L.take n)] w3 ?_ ?_ ?_ ?_).mono ?_
      · intro i x hx
        match i, hx with
        | 0, hx => cases hx; rw [B3.cell]; show some (Value.slice A n c) = some (Value.slice (A) (L.take n).length (c)); rw [htl]
        | k + 1, hx => simp at hx
      · intro x hx
        simp only [List.mem_cons, List.not_mem_nil, or_false] at hx
        rcases hx with rfl
        · show Reads w3 2 (A) (L.take n).length (rwFlat (L.take n))
          rw [htl, show rwFlat (L.take n) = (rwFlat L).take (n * 2) from rwFlat_take L n]
          exact R1.out.none_fr f3
      · simp [ptRL]; omega
      · simp
      rintro e w4 ⟨A', c', rfl, ho, hf4⟩
      rw [ptR_one] at ho ⊢
      have hs3 := f3.size
      have O4 := hid_ (own_base ho (by omega : w.heap.size ≤ w3.heap.size))
      have F3 : Hid (Fr none_ w1 w4) := hid_ (f3.then_none hf4)
      clear ho hf4 B3
      refine ⟨F3.out, ?_⟩
      refine wpAnyU_one7 (i := 8) rfl (by kernel_rfl) (by kernel_rfl) ?_
      go_simp
      obtain ⟨w5, hw5⟩ : ∃ z, z = w4.alloc (.cells #[.slice A5 (L.length - n) (c - n)] 28) := ⟨_, rfl⟩
      have F5 : Hid (Fr none_ w1 w5) := hid_ (by rw [hw5]; exact F3.out.alloc _)
      have O5 := hid_ (own_none O4.out (by rw [hw5]; exact (Fr.refl none_ w4).alloc (.cells #[.slice A5 (L.length - n) (c - n)] 28) : Fr none_ w4 w5))
      have B5 : Hid (Blk w5 w4.heap.size 28 #[.slice A5 (L.length - n) (c - n)]) := hid_ (by rw [hw5]; exact Blk.new w4 _ _)
      rw [← hw5]
      clear hw5
      refine ⟨F5.out, ?_⟩
      refine wpAnyU_one7 (i := 9) rfl (by kernel_rfl) (by kernel_rfl) ?_
      go_simp
      refine (list_ok (w4.heap.size) [(A5, c - n, L.drop n)] w5 ?_ ?_ ?_ ?_).mono ?_
      · intro i x hx
        match i, hx with
        | 0, hx => cases hx; rw [B5.out.cell]; show some (Value.slice A5 (L.length - n) (c - n)) = some (Value.slice (A5) (L.drop n).length (c - n)); rw [hdl]
        | k + 1, hx => simp at hx
      · intro x hx
        simp only [List.mem_cons, List.not_mem_nil, or_false] at hx
        rcases hx with rfl
        · show Reads w5 2 (A5) (L.drop n).length (rwFlat (L.drop n))
          rw [hdl, rwFlat_drop]
          exact R2'.out.none_fr F5.out
      · simp [ptRL]; omega
      · simp
      rintro e w6 ⟨B', d', rfl, ho6, hf6⟩
      have O6 := hid_ (own_none O5.out hf6)
      have F6 := hid_ (F5.out.then_none hf6)
      have F7 := hid_ (F0.out.then_none F6.out)
      clear ho6 hf6 B5
      refine ⟨F6.out, ?_⟩
      refine wpAnyU_one7 (i := 10) rfl (by kernel_rfl) (by kernel_rfl) ?_
      go_simp
      refine ⟨F6.out, ?_⟩
      refine wpAnyU_one7 (i := 11) rfl (by kernel_rfl) (by kernel_rfl) ?_
      go_simp
      refine ⟨F6.out, ?_⟩
      refine wpAnyU_done (by kernel_rfl) ?_ _
      go_wp2
      go_ret2
      exact ⟨A', c', B', _, d', by rw [← HN.out, htl]; rfl, by rw [← HN.out]; exact O6.out, F7.out⟩
    · go_simp
      refine ⟨((Fr.refl none_ w1).drew.alloc _).alloc _, ?_⟩
      refine wpAnyU_one7 (i := 4) rfl (by kernel_rfl) (by kernel_rfl) ?_
      go_simp
      obtain ⟨w3, hw_w3⟩ : ∃ z, z = ((w1.alloc (.cells #[.slice A n c] 28)).alloc (.cells #[.slice A5 (L.length - n) (c - n)] 28)).drew := ⟨_, rfl⟩
      have f3 : Fr none_ w1 w3 := by rw [hw_w3]; repeat (first | exact Fr.refl none_ w1 | apply Fr.drew | apply Fr.alloc)
      have B3 := ((Blk.new7 (w := w1) (b := w1.heap.size) 28 #[.slice A n c] rfl).alloc (.cells #[.slice A5 (L.length - n) (c - n)] 28)).drew
      have B8 := (Blk.new7 (w := w1.alloc (.cells #[.slice A n c] 28)) (b := w1.heap.size + 1) 28 #[.slice A5 (L.length - n) (c - n)] (by simp)).drew
      rw [← hw_w3] at B3 B8
      rw [← hw_w3]
      clear hw_w3
      refine (list_ok (w1.heap.size) [(A, c, L.take n)] w3 ?_ ?_ ?_ ?_).mono ?_
      · intro i x hx
        match i, hx with
        | 0, hx => cases hx; rw [B3.cell]; show some (Value.slice A n c) = some (Value.slice (A) (L.take n).length (c)); rw [htl]
        | k + 1, hx => simp at hx
      · intro x hx
        simp only [List.mem_cons, List.not_mem_nil, or_false] at hx
        rcases hx with rfl
        · show Reads w3 2 (A) (L.take n).length (rwFlat (L.take n))
          rw [htl, show rwFlat (L.take n) = (rwFlat L).take (n * 2) from rwFlat_take L n]
          exact R1.out.none_fr f3
      · simp [ptRL]; omega
      · simp
      rintro e w4 ⟨A', c', rfl, ho, hf4⟩
      rw [ptR_one] at ho ⊢
      have hs3 := f3.size
      have O4 := hid_ (own_base ho (by omega : w.heap.size ≤ w3.heap.size))
      have F3 : Hid (Fr none_ w1 w4) := hid_ (f3.then_none hf4)
      have F5 := F3
      have O5 := O4
      have B5 := hid_ (B8.fr hf4 id)
      clear ho hf4 B3 B8
      refine ⟨F3.out, ?_⟩
      refine wpAnyU_one7 (i := 9) rfl (by kernel_rfl) (by kernel_rfl) ?_
      go_simp
      refine (list_ok (w1.heap.size + 1) [(A5, c - n, L.drop n)] w4 ?_ ?_ ?_ ?_).mono ?_
      · intro i x hx
        match i, hx with
        | 0, hx => cases hx; rw [B5.out.cell]; show some (Value.slice A5 (L.length - n) (c - n)) = some (Value.slice (A5) (L.drop n).length (c - n)); rw [hdl]
        | k + 1, hx => simp at hx
      · intro x hx
        simp only [List.mem_cons, List.not_mem_nil, or_false] at hx
        rcases hx with rfl
        · show Reads w4 2 (A5) (L.drop n).length (rwFlat (L.drop n))
          rw [hdl, rwFlat_drop]
          exact R2'.out.none_fr F5.out
      · simp [ptRL]; omega
      · simp
      rintro e w6 ⟨B', d', rfl, ho6, hf6⟩
      have O6 := hid_ (own_none O5.out hf6)
      have F6 := hid_ (F5.out.then_none hf6)
      have F7 := hid_ (F0.out.then_none F6.out)
      clear ho6 hf6 B5
      refine ⟨F6.out, ?_⟩
      refine wpAnyU_one7 (i := 10) rfl (by kernel_rfl) (by kernel_rfl) ?_
      go_simp
      refine ⟨F6.out, ?_⟩
      refine wpAnyU_one7 (i := 11) rfl (by kernel_rfl) (by kernel_rfl) ?_
      go_simp
      refine ⟨F6.out, ?_⟩
      refine wpAnyU_done (by kernel_rfl) ?_ _
      go_wp2
      go_ret2
      exact ⟨A', c', B', _, d', by rw [← HN.out, htl]; rfl, by rw [← HN.out]; exact O6.out, F7.out⟩
  · go_simp
    refine ⟨(Fr.refl none_ w1).drew.alloc _, ?_⟩
    refine wpAnyU_one7 (i := 3) rfl (by kernel_rfl) (by kernel_rfl) ?_
    go_simp
    refine ⟨((Fr.refl none_ w1).drew.alloc _).alloc _, ?_⟩
    refine wpAnyU_one7 (i := 4) rfl (by kernel_rfl) (by kernel_rfl) ?_
    go_simp
    obtain ⟨w3, hw_w3⟩ : ∃ z, z = ((w1.alloc (.cells #[.slice A5 (L.length - n) (c - n)] 28)).alloc (.cells #[.slice A n c] 28)).drew := ⟨_, rfl⟩
    have f3 : Fr none_ w1 w3 := by rw [hw_w3]; repeat (first | exact Fr.refl none_ w1 | apply Fr.drew | apply Fr.alloc)
    have B8 := ((Blk.new7 (w := w1) (b := w1.heap.size) 28 #[.slice A5 (L.length - n) (c - n)] rfl).alloc (.cells #[.slice A n c] 28)).drew
    have B3 := (Blk.new7 (w := w1.alloc (.cells #[.slice A5 (L.length - n) (c - n)] 28)) (b := w1.heap.size + 1) 28 #[.slice A n c] (by simp)).drew
    rw [← hw_w3] at B3 B8
    rw [← hw_w3]
    clear hw_w3
    refine (list_ok (w1.heap.size + 1) [(A, c, L.take n)] w3 ?_ ?_ ?_ ?_).mono ?_
    · intro i x hx
      match i, hx with
      | 0, hx => cases hx; rw [B3.cell]; show some (Value.slice A n c) = some (Value.slice (A) (L.take n).length (c)); rw [htl]
      | k + 1, hx => simp at hx
    · intro x hx
      simp only [List.mem_cons, List.not_mem_nil, or_false] at hx
      rcases hx with rfl
      · show Reads w3 2 (A) (L.take n).length (rwFlat (L.take n))
        rw [htl, show rwFlat (L.take n) = (rwFlat L).take (n * 2) from rwFlat_take L n]
        exact R1.out.none_fr f3
    · simp [ptRL]; omega
    · simp
    rintro e w4 ⟨A', c', rfl, ho, hf4⟩
    rw [ptR_one] at ho ⊢
    have hs3 := f3.size
    have O4 := hid_ (own_base ho (by omega : w.heap.size ≤ w3.heap.size))
    have F3 : Hid (Fr none_ w1 w4) := hid_ (f3.then_none hf4)
    have F5 := F3
    have O5 := O4
    have B5 := hid_ (B8.fr hf4 id)
    clear ho hf4 B3 B8
    refine ⟨F3.out, ?_⟩
    refine wpAnyU_one7 (i := 9) rfl (by kernel_rfl) (by kernel_rfl) ?_
    go_simp
    refine (list_ok (w1.heap.size) [(A5, c - n, L.drop n)] w4 ?_ ?_ ?_ ?_).mono ?_
    · intro i x hx
      match i, hx with
      | 0, hx => cases hx; rw [B5.out.cell]; show some (Value.slice A5 (L.length - n) (c - n)) = some (Value.slice (A5) (L.drop n).length (c - n)); rw [hdl]
      | k + 1, hx => simp at hx
    · intro x hx
      simp only [List.mem_cons, List.not_mem_nil, or_false] at hx
      rcases hx with rfl
      · show Reads w4 2 (A5) (L.drop n).length (rwFlat (L.drop n))
        rw [hdl, rwFlat_drop]
        exact R2'.out.none_fr F5.out
    · simp [ptRL]; omega
    · simp
    rintro e w6 ⟨B', d', rfl, ho6, hf6⟩
    have O6 := hid_ (own_none O5.out hf6)
    have F6 := hid_ (F5.out.then_none hf6)
    have F7 := hid_ (F0.out.then_none F6.out)
    clear ho6 hf6 B5
    refine ⟨F6.out, ?_⟩
    refine wpAnyU_one7 (i := 10) rfl (by kernel_rfl) (by kernel_rfl) ?_
    go_simp
    refine ⟨F6.out, ?_⟩
    refine wpAnyU_one7 (i := 11) rfl (by kernel_rfl) (by kernel_rfl) ?_
    go_simp
    refine ⟨F6.out, ?_⟩
    refine wpAnyU_done (by kernel_rfl) ?_ _
    go_wp2
    go_ret2
    exact ⟨A', c', B', _, d', by rw [← HN.out, htl]; rfl, by rw [← HN.out]; exact O6.out, F7.out⟩

/-- May two lists of rows stand one behind the other? -/
def joinR (a b : List Rw) : Bool :=
  match a[a.length - 1]?, b[0]? with
  | some p, some q => ltS p.1 q.1
  | _, _ => true
def JoinRPost (a b : List Rw) (w : World) (e : Ending) (w' : World) : Prop :=
  (joinR a b = true ∧ ∃ A c, e = .returned (.tuple #[.slice A (a ++ b).length c, .nilIface]) ∧ w'.ownsRow w.heap.size 143 2 (.slice A (a ++ b).length c) (a ++ b).length (rwFlat (a ++ b)) ∧ Fr none_ w w') ∨
  (joinR a b = false ∧ e = .returned (.tuple #[.slice none 0 0, errV 2]) ∧ Fr none_ w w')
theorem joinR_some {a b : List Rw} {p q : Rw} (h : a[a.length - 1]? = some p) (h' : b[0]? = some q) : joinR a b = ltS p.1 q.1 := by simp [joinR, h, h']
theorem joinR_nil {a b : List Rw} (h : a.length = 0 ∨ b.length = 0) : joinR a b = true := by
  rcases h with h | h
  · rw [List.eq_nil_of_length_eq_zero h]; simp [joinR]
  · rw [List.eq_nil_of_length_eq_zero h]; unfold joinR; split <;> simp_all
set_option maxHeartbeats 4000000 in
theorem joinR_ok (a b : List Rw) (A B : Option Addr) (c d : Nat) (w : World) (ha : Reads w 2 A a.length (rwFlat a)) (hb : Reads w 2 B b.length (rwFlat b)) (hoa : RwsOk a) (hob : RwsOk b) :
    Calls Tryz.prog 110 #[.slice A a.length c, .slice B b.length d] w (JoinRPost a b w) := by
  have HA := hid_ ha
  have HB := hid_ hb
  have OA := hid_ hoa
  have OB := hid_ hob
  have l1 := hoa.1
  have l2 := hob.1
  clear ha hb hoa hob
  go_enter Tryz.func110, Tryz.ntmps110
  go_upto_region 1 with fail
  go_cut [28] (fun u wq => u = .bool (!joinR a b) ∧ Fr none_ w wq)
  case rest =>
    obtain ⟨rfl, hf⟩ := hcut
    have F0 := hid_ hf
    have hs0 := hf.size
    clear hf
    cases hj : joinR a b with
    | false =>
      have HJ := hid_ hj
      clear hj
      go_wp2_with fail
      go_ret2
      exact .inr ⟨HJ.out, rfl, F0.out⟩
    | true =>
      have HJ := hid_ hj
      clear hj
      go_wp2_with fail
      have hB := Blk.new wc 28 #[.slice A a.length c, .slice B b.length d]
      refine (list_ok (wc.heap.size) [(A, c, a), (B, d, b)] (wc.alloc (.cells #[.slice A a.length c, .slice B b.length d] 28)) ?_ ?_ ?_ ?_).mono ?_
      · intro i x hx
        match i, hx with
        | 0, hx => cases hx; rw [hB.cell]; show some (Value.slice A a.length c) = some (Value.slice (A) (a).length (c)); rfl
        | 1, hx => cases hx; rw [hB.cell]; show some (Value.slice B b.length d) = some (Value.slice (B) (b).length (d)); rfl
        | k + 2, hx => simp at hx
      · intro x hx
        simp only [List.mem_cons, List.not_mem_nil, or_false] at hx
        rcases hx with rfl | rfl
        · show Reads (wc.alloc (.cells #[.slice A a.length c, .slice B b.length d] 28)) 2 (A) (a).length (rwFlat (a))
          exact (HA.out.none_fr F0.out).alloc _
        · show Reads (wc.alloc (.cells #[.slice A a.length c, .slice B b.length d] 28)) 2 (B) (b).length (rwFlat (b))
          exact (HB.out.none_fr F0.out).alloc _
      · simp [ptRL]; omega
      · simp
      rintro e w4 ⟨A', c', rfl, hown, hf4⟩
      rw [ptR_two] at hown ⊢
      have O4 := hid_ (own_base hown (by simp; omega : w.heap.size ≤ (wc.alloc (.cells #[.slice A a.length c, .slice B b.length d] 28)).heap.size))
      have F4 := hid_ (((F0.out.alloc _).then_none hf4))
      clear hown hf4 hB
      go_wp2
      go_ret2
      exact .inl ⟨HJ.out, A', c', by rw [List.length_append]; rfl, O4.out, F4.out⟩
  case first =>
    by_cases h1 : a.length = 0
    · have e1 : decide ((0 : Int) < (a.length : Int)) = false := decide_eq_false (by omega)
      have e2 : decide (0 < a.length) = false := decide_eq_false (by omega)
      have HJ := hid_ (joinR_nil (a := a) (b := b) (.inl h1))
      have hdd : (0 : Int) ≤ 0 := by omega
      clear h1
      go_quiet (fail)
      go_wp2
      go_meet
      case rel => exact ⟨by rw [HJ.out]; rfl, by repeat (first | exact Fr.refl none_ w | apply Fr.drewN | apply Fr.drew)⟩
    · have e1 : decide ((0 : Int) < (a.length : Int)) = true := decide_eq_true (by omega)
      have e2 : decide (0 < a.length) = true := decide_eq_true (by omega)
      by_cases h2 : b.length = 0
      · have e3 : decide ((0 : Int) < (b.length : Int)) = false := decide_eq_false (by omega)
        have e4 : decide (0 < b.length) = false := decide_eq_false (by omega)
        have HJ := hid_ (joinR_nil (a := a) (b := b) (.inr h2))
        clear h1 h2
        go_quiet (fail)
        go_wp2
        go_meet
        case rel => exact ⟨by rw [HJ.out]; rfl, by repeat (first | exact Fr.refl none_ w | apply Fr.drewN | apply Fr.drew)⟩
      · have e3 : decide ((0 : Int) < (b.length : Int)) = true := decide_eq_true (by omega)
        have e4 : decide (0 < b.length) = true := decide_eq_true (by omega)
        obtain ⟨n, hn⟩ : ∃ n, n = a.length - 1 := ⟨_, rfl⟩
        obtain ⟨p, hp⟩ : ∃ p, a[n]? = some p := ⟨_, List.getElem?_eq_getElem (by omega)⟩
        obtain ⟨q, hq⟩ : ∃ q, b[0]? = some q := ⟨_, List.getElem?_eq_getElem (by omega)⟩
        obtain ⟨gb, go, rfl, hgb, c0, c1⟩ := rw_at HA.out hp
        obtain ⟨hb2, ho2, rfl, hhb, d0, d1⟩ := rw_at HB.out hq
        have hw1 : IntKind.i64.wrap ((a.length : Int) - 1) = (n : Int) := by rw [show (a.length : Int) - 1 = (n : Int) by omega]; exact IntWalk.i64_in _ (by omega)
        have hi0 : (0 : Int) ≤ (n : Int) := Int.natCast_nonneg _
        have hi1 : (n : Int) < (a.length : Int) := by omega
        have hi2 : (0 : Int) < (b.length : Int) := by omega
        have HJ := hid_ (joinR_some (by rw [← hn]; exact hp) hq)
        have HC : Hid (∀ x : Wx w, Calls Tryz.prog 85 #[.string p.1, .string q.1] x.to fun e w' => e = .returned (.int .i64 (cmpI p.1 q.1)) ∧ Fr none_ x.to w') := hid_ (fun x => (compare_ok p.1 q.1 x.to (OA.out.2 p (List.mem_of_getElem? hp)).1.le (OB.out.2 q (List.mem_of_getElem? hq)).1.le).mono (by rintro e w' ⟨rfl, n, rfl⟩; exact ⟨rfl, (Fr.refl none_ _).drewN n⟩))
        have HGE := hid_ (cmp_ge p.1 q.1)
        simp only [Nat.zero_mul, Nat.add_zero] at d0
        have y0 : ∀ x : Wx w, x.to.cell? ⟨gb, go + n * 2, none⟩ = some (.string p.1) := fun x => x.cell c0
        have y1 : ∀ x : Wx w, x.to.cell? ⟨hb2, ho2, none⟩ = some (.string q.1) := fun x => x.cell d0
        clear hp hq c0 c1 d0 d1 hn h1 h2
        refine wp_region_quiet_x (by kernel_rfl) (by kernel_rfl) ?_
        repeat (first | go_big_quiet_step ((go_at_call 85; exact Calls.quiet_x (HC.out _))) | quiet_step ((go_at_call 85; exact Calls.quiet_x (HC.out _))))
        refine wpQuiet_nil ?_
        intro _ hw'
        obtain ⟨xq, hw''⟩ := hw'
        subst hw''
        go_wp2
        go_meet
        case rel => exact ⟨by rw [HJ.out, ← HGE.out], xq.fr⟩
end Go.Proofs.YtfihfjbakfadkaaGreatDoor
namespace Go.Proofs.YtfihfjbakfadkaaGreatDoor
open Go.RowKit Go.BigFrame
set_option maxRecDepth 100000
set_option linter.unusedVariables false

/-- Take's boxes: the span, the limit, what was taken. -/
structure TkSt (w wr : World) (low high : ByteArray) (unb : Bool) (M : List Rw) : Prop where
  bs : Blk wr w.heap.size 147 #[.string low, .string high, .bool unb]
  bl : Blk wr (w.heap.size + 1) 3 #[.int .i64 0]
  bo : ∃ v, Blk wr (w.heap.size + 1 + 1) 28 #[v] ∧ wr.ownsRow (w.heap.size + 1 + 1 + 1) 143 2 v M.length (rwFlat M)
  fr : Fr none_ w wr
theorem TkSt.keep {w w1 w2 : World} {low high : ByteArray} {unb : Bool} {M : List Rw} (h : TkSt w w1 low high unb M) (hf : Fr none_ w1 w2) : TkSt w w2 low high unb M := by
  obtain ⟨v, h1, h2⟩ := h.bo
  exact ⟨h.bs.fr hf id, h.bl.fr hf id, ⟨v, h1.fr hf id, own_none h2 hf⟩, h.fr.then_none hf⟩
def GivePost (w : World) (low high : ByteArray) (unb : Bool) (M : List Rw) (p : Rw) (e : Ending) (w' : World) : Prop :=
  e = .returned (.bool true) ∧ TkSt w w' low high unb (if inS low high unb p.1 = true then M ++ [p] else M)
set_option maxHeartbeats 4000000 in
theorem give_ok (w wr : World) (low high : ByteArray) (unb : Bool) (M : List Rw) (p : Rw) (h : TkSt w wr low high unb M) (hM : M.length ≤ 300000) (h1 : SzOk low) (h2 : SzOk high) (h3 : SzOk p.1) :
    Calls Tryz.prog 122 #[rwV p, .pointer (some ⟨w.heap.size, 0, none⟩), .pointer (some ⟨w.heap.size + 1 + 1, 0, none⟩), .pointer (some ⟨w.heap.size + 1, 0, none⟩)] wr (GivePost w low high unb M p) := by
  obtain ⟨i0, hi0, hz0, hs0, hb0⟩ := info_parts row_info
  have Hi := hid_ (And.intro hi0 (And.intro hz0 (And.intro hs0 hb0)))
  have HS := hid_ (And.intro h1 (And.intro h2 h3))
  obtain ⟨w0, hw0⟩ : ∃ z, z = wr.alloc (.cells #[.string p.1, .string p.2] 143) := ⟨_, rfl⟩
  have f0 : Fr none_ wr w0 := by rw [hw0]; exact (Fr.refl none_ wr).alloc _
  have B0 : Hid (Blk w0 wr.heap.size 143 #[.string p.1, .string p.2]) := hid_ (by rw [hw0]; exact Blk.new wr _ _)
  have T0 := hid_ (h.keep f0)
  have hsz := h.fr.size
  have hszb := h.bl.lt
  have hlo := h.bo.elim fun v hv => hv.1.lt
  clear hi0 hz0 hs0 hb0 h h1 h2 h3 f0
  go_enter Tryz.func122, Tryz.ntmps122
  go_upto_region 1 with fail
  change Code.wp _ _ _ _ (wr.alloc (.cells #[.string p.1, .string p.2] 143))
  rw [← hw0]
  clear hw0
  have c0 : w0.cell? ⟨wr.heap.size, 0, none⟩ = some (.string p.1) := B0.out.cell' rfl
  have s0 : w0.cell? ⟨w.heap.size, 0, none⟩ = some (.string low) := T0.out.bs.cell' rfl
  have s1 : w0.cell? ⟨w.heap.size, 1, none⟩ = some (.string high) := T0.out.bs.cell' rfl
  have s2 : w0.cell? ⟨w.heap.size, 2, none⟩ = some (.bool unb) := T0.out.bs.cell' rfl
  go_wp2_with fail
  refine (in_ok low high unb p.1 w0 HS.out.1.le HS.out.2.1.le HS.out.2.2.le).mono ?_
  rintro e w1 ⟨rfl, q, hw1⟩
  have f1 : Fr none_ w0 w1 := by rw [hw1]; exact (Fr.refl none_ w0).drewN q
  replace T0 := hid_ (T0.out.keep f1)
  replace B0 := hid_ (B0.out.fr f1 id)
  clear c0 s0 s1 s2 f1 hw1
  cases hin : inS low high unb p.1 with
  | false =>
    have HIN := hid_ hin
    clear hin
    have l0 : w1.cell? ⟨w.heap.size + 1, 0, none⟩ = some (.int .i64 0) := T0.out.bl.cell' rfl
    go_wp2_with fail
    go_ret
    exact ⟨rfl, by rw [HIN.out]; exact T0.out⟩
  | true =>
    have HIN := hid_ hin
    clear hin
    obtain ⟨v, hbo, hown⟩ := T0.out.bo
    obtain ⟨A, c, rfl⟩ := hown.shape
    have O := hid_ hown
    have BO := hid_ hbo
    have HNE := hid_ (And.intro (own_blk_ne hown hbo (by decide)) (And.intro (own_blk_ne hown T0.out.bs (by decide)) (own_blk_ne hown T0.out.bl (by decide))))
    have hob := fun b hb => (hown.lt b hb).1
    have HOB := hid_ hob
    clear hown hob
    have o0 : w1.cell? ⟨w.heap.size + 1 + 1, 0, none⟩ = some (.slice A M.length c) := BO.out.cell' rfl
    have c0 : w1.cell? ⟨wr.heap.size, 0, none⟩ = some (.string p.1) := B0.out.cell' rfl
    have c1 : w1.cell? ⟨wr.heap.size, 1, none⟩ = some (.string p.2) := B0.out.cell' rfl
    have hb1 := B0.out.lt
    have hcl := hbo.lt
    clear hbo
    go_upto_region 3 with (at_builtin; refine wpList_append_any _ rfl (.tmp 15) (.tmp 17) 28 rfl (w.heap.size + 1 + 1 + 1) 143 i0 _ 2 32 Tryz.underlying28 Hi.out.1 Hi.out.2.1 Hi.out.2.2.1 Hi.out.2.2.2 rfl (by omega) (.slice A M.length c) M.length (rwFlat M) rfl (O.out.alloc _) (some ⟨w1.heap.size, 0, none⟩) 1 1 [.string p.1, .string p.2] rfl (reads_new w1 _ [.string p.1, .string p.2] _ rfl) (by simp [Value.oneCell']) (by simp only [maxLen]; omega) (by omega) (by simp; omega) ?_; intro A3 c3 w3 hown3 hgr3; have hf3 : Fr (fun k => (Value.slice A M.length c).ownBlock = some k) w1 w3 := ((Fr.refl _ w1).alloc (.cells #[.string p.1, .string p.2] 143)).grown hgr3 (fun k hk => .inl hk); have O3 := hid_ hown3; have BO3 := hid_ (BO.out.fr hf3 HNE.out.1); have BS3 := hid_ (T0.out.bs.fr hf3 HNE.out.2.1); have BL3 := hid_ (T0.out.bl.fr hf3 HNE.out.2.2); have F3 : Hid (Fr none_ w w3) := hid_ (T0.out.fr.trans hf3 (fun _ _ => id) (fun k hk e => absurd (HOB.out k e) (by omega))); have o3 : w3.cell? ⟨w.heap.size + 1 + 1, 0, none⟩ = some (.slice A M.length c) := BO3.out.cell' rfl; have z3 := BO3.out.frozen 0; clear hown3 hgr3 hf3)
    obtain ⟨w4, hw4⟩ : ∃ z, z = w3.setCell ⟨w.heap.size + 1 + 1, 0, none⟩ (.slice A3 (M.length + 1) c3) := ⟨_, rfl⟩
    have f4 : Fr (only (w.heap.size + 1 + 1)) w3 w4 := by rw [hw4]; exact Fr.only1 w3 ⟨w.heap.size + 1 + 1, 0, none⟩ _
    have BO4 : Blk w4 (w.heap.size + 1 + 1) 28 #[.slice A3 (M.length + 1) c3] := by rw [hw4]; exact BO3.out.set_ 0 _
    have O4 := own_fr O3.out f4 (fun k hk e => own_blk_ne O3.out BO3.out (by decide) (by rw [hk, show k = w.heap.size + 1 + 1 from e]))
    have T4 : TkSt w w4 low high unb (M ++ [p]) := ⟨BS3.out.fr f4 (only_ne (by omega)), BL3.out.fr f4 (only_ne (by omega)), ⟨_, BO4, by rw [List.length_append, rwFlat_app, rwFlat_single]; exact O4⟩, F3.out.then_only f4 (.inr (by omega))⟩
    have HT4 := hid_ T4
    change Code.wp _ _ _ _ (w3.setCell ⟨w.heap.size + 1 + 1, 0, none⟩ (.slice A3 (M.length + 1) c3))
    rw [← hw4]
    clear hw4 f4 BO4 O4 T4 o3 z3 c0 c1 o0
    have l0 : w4.cell? ⟨w.heap.size + 1, 0, none⟩ = some (.int .i64 0) := HT4.out.bl.cell' rfl
    go_wp2_with fail
    go_ret
    exact ⟨rfl, by rw [HIN.out]; exact HT4.out⟩
/-- What Take without a limit tells: the rows of a span. -/
def TakePost (L : List Rw) (low high : ByteArray) (unb : Bool) (w : World) (e : Ending) (w' : World) : Prop :=
  ∃ A c, e = .returned (.slice A (inR low high unb L).length c) ∧ w'.ownsRow w.heap.size 143 2 (.slice A (inR low high unb L).length c) (inR low high unb L).length (rwFlat (inR low high unb L)) ∧ Fr none_ w w'
theorem inR_take {low high : ByteArray} {unb : Bool} {L : List Rw} {k : Nat} {p : Rw} (hp : L[k]? = some p) : inR low high unb (L.take (k + 1)) = if inS low high unb p.1 = true then inR low high unb (L.take k) ++ [p] else inR low high unb (L.take k) := by
  unfold inR
  rw [List.take_add_one, hp, List.filter_append]
  by_cases h : inS low high unb p.1 = true
  · rw [if_pos h]; simp [h]
  · rw [if_neg h]; simp [h]
theorem inR_le (low high : ByteArray) (unb : Bool) (L : List Rw) : (inR low high unb L).length ≤ L.length := List.length_filter_le _ _
set_option maxHeartbeats 4000000 in
theorem take_ok (L : List Rw) (A : Option Addr) (c : Nat) (low high : ByteArray) (unb : Bool) (w : World) (h : Reads w 2 A L.length (rwFlat L)) (ho : RwsOk L) (h1 : SzOk low) (h2 : SzOk high) :
    Calls Tryz.prog 105 #[.slice A L.length c, .agg #[.string low, .string high, .bool unb], .int .i64 0, .bool false] w (TakePost L low high unb w) := by
  obtain ⟨w0, hw0⟩ : ∃ z, z = ((w.alloc (.cells #[.string low, .string high, .bool unb] 147)).alloc (.cells #[.int .i64 0] 3)).alloc (.cells #[.slice none 0 0] 28) := ⟨_, rfl⟩
  have f0 : Fr none_ w w0 := by rw [hw0]; exact (((Fr.refl none_ w).alloc _).alloc _).alloc _
  have T0 : Hid (TkSt w w0 low high unb []) := hid_ (by
    refine ⟨?_, ?_, ⟨_, ?_, World.ownsRow_nil _ _ _ _⟩, f0⟩
    · rw [hw0]; exact ((Blk.new w _ _).alloc _).alloc _
    · rw [hw0]; exact (Blk.new7 _ _ (by simp)).alloc _
    · rw [hw0]; exact Blk.new7 _ _ (by simp))
  have H0 := hid_ h
  have HO := hid_ ho
  have HS := hid_ (And.intro h1 h2)
  have h3 := ho.1
  clear h ho h1 h2 f0
  go_enter Tryz.func105, Tryz.ntmps105
  go_upto_region 2 with fail
  change Code.wp _ _ _ _ (((w.alloc (.cells #[.string low, .string high, .bool unb] 147)).alloc (.cells #[.int .i64 0] 3)).alloc (.cells #[.slice none 0 0] 28))
  rw [← hw0]
  clear hw0
  go_wp2_with fail
  go_loopw [16] (fun i wr => ∃ k : Nat, k ≤ L.length ∧ i = .int .i64 k ∧ TkSt w wr low high unb (inR low high unb (L.take k))) (fun i _ => L.length - (intOf i).toNat)
  case atStart => exact ⟨0, Nat.zero_le _, rfl, T0.out⟩
  case round =>
    obtain ⟨k, hk, rfl, hT⟩ := hrel
    have T := hid_ hT
    have H := hid_ (H0.out.none_fr hT.fr)
    clear hT
    have hi0 : (0 : Int) ≤ (k : Int) := Int.natCast_nonneg _
    by_cases hlt : k < L.length
    · have hi1 : (k : Int) < (L.length : Int) := by omega
      obtain ⟨p, hp⟩ : ∃ p, L[k]? = some p := ⟨_, List.getElem?_eq_getElem hlt⟩
      obtain ⟨b, off, rfl, hb, c0, c1⟩ := rw_at H.out hp
      have HT := hid_ (inR_take (low := low) (high := high) (unb := unb) hp)
      have hsz := (HO.out.2 p (List.mem_of_getElem? hp)).1
      have hM : (inR low high unb (L.take k)).length ≤ 300000 := by
        have := inR_le low high unb (L.take k)
        have h2 : (L.take k).length = k := by simp; omega
        omega
      clear hp
      go_wp2_with fail
      refine (give_ok w wr low high unb _ p T.out hM HS.out.1 HS.out.2 hsz).mono ?_
      rintro e w1 ⟨rfl, hT1⟩
      rw [← HT.out] at hT1
      have T1 := hid_ hT1
      clear hT1 c0 c1
      go_wp2_with fail
      go_roundw
      case rel => exact ⟨k + 1, by omega, by go_num, T1.out⟩
      case measure => simp [intOf]; omega
    · obtain rfl : k = L.length := by omega
      have hT := T.out
      rw [List.take_length] at hT
      obtain ⟨v, hbo, hown⟩ := hT.bo
      obtain ⟨A', c', rfl⟩ := hown.shape
      have O := hid_ hown
      have FF := hid_ hT.fr
      have v0 : wr.cell? ⟨w.heap.size + 1 + 1, 0, none⟩ = some (.slice A' (inR low high unb L).length c') := hbo.cell' rfl
      clear hT hbo hown
      go_wp2_with fail
      go_ret
      exact ⟨A', c', rfl, own_base O.out (by omega), FF.out⟩
def SoundLPost (low high : ByteArray) (unb : Bool) (L : List Rw) (w : World) (e : Ending) (w' : World) : Prop := ∃ b : Bool, e = .returned (.bool b) ∧ (b = true ↔ SoundR low high unb L) ∧ Fr none_ w w'
set_option maxHeartbeats 4000000 in
theorem soundL_ok (L : List Rw) (A : Option Addr) (c : Nat) (low high : ByteArray) (unb : Bool) (w : World) (h : Reads w 2 A L.length (rwFlat L)) (ho : RwsOk L) (h1 : SzOk low) (h2 : SzOk high) :
    Calls Tryz.prog 65 #[.slice A L.length c, .agg #[.string low, .string high, .bool unb]] w (SoundLPost low high unb L w) := by
  obtain ⟨w0, hw0⟩ : ∃ z, z = w.alloc (.cells #[.string low, .string high, .bool unb] 147) := ⟨_, rfl⟩
  have f0 : Fr none_ w w0 := by rw [hw0]; exact (Fr.refl none_ w).alloc _
  have B0 : Hid (Blk w0 w.heap.size 147 #[.string low, .string high, .bool unb]) := hid_ (by rw [hw0]; exact Blk.new w _ _)
  have H0 := hid_ (h.none_fr f0)
  have F0 := hid_ f0
  have HO := hid_ ho
  have HS := hid_ (And.intro h1 h2)
  have h3 := ho.1
  clear h ho h1 h2 f0
  go_enter Tryz.func65, Tryz.ntmps65
  go_upto_region 1 with fail
  change Code.wp _ _ _ _ (w.alloc (.cells #[.string low, .string high, .bool unb] 147))
  rw [← hw0]
  clear hw0
  go_cut [16] (fun u wq => ∃ bb : Bool, u = .bool bb ∧ (bb = false ↔ ((unb = true → high = nilS) ∧ RightR L)) ∧ Fr none_ w0 wq)
  case first =>
    have v1 : w0.cell? ⟨w.heap.size, 1, none⟩ = some (.string high) := B0.out.cell' rfl
    have v2 : w0.cell? ⟨w.heap.size, 2, none⟩ = some (.bool unb) := B0.out.cell' rfl
    by_cases hb : unb = true ∧ high ≠ nilS
    · rw [hb.1] at v2
      have hh : high.toList.isEmpty = false := by
        cases e : high.toList.isEmpty with
        | false => rfl
        | true => exact absurd (ba_eq (by rw [← ba_toList, List.isEmpty_iff.1 e])) hb.2
      have hh2 : (!high.toList.isEmpty) = true := by rw [hh]; rfl
      have HB := hid_ hb
      clear hb
      go_wp2_with fail
      go_meet
      case rel => exact ⟨true, rfl, ⟨(fun h => by cases h), fun h => absurd (h.1 HB.out.1) HB.out.2⟩, Fr.refl _ _⟩
    · have HHI : Hid (unb = true → high = nilS) := hid_ (fun hu => Classical.byContradiction fun hn => hb ⟨hu, hn⟩)
      clear hb
      cases unb with
      | false =>
        go_wp2_with fail
        refine (rightR_ok L A c _ H0.out HO.out).mono ?_
        rintro e w1 ⟨b, rfl, hb, hf⟩
        have HB := hid_ hb
        have F1 := hid_ hf
        clear hb hf
        go_wp2_with fail
        go_meet
        case rel => exact ⟨_, rfl, by rw [← HB.out]; cases b <;> simp, F1.out⟩
      | true =>
        rw [HHI.out (by simp)] at v1
        go_wp2_with fail
        refine (rightR_ok L A c _ H0.out HO.out).mono ?_
        rintro e w1 ⟨b, rfl, hb, hf⟩
        have HB := hid_ hb
        have F1 := hid_ hf
        clear hb hf
        go_wp2_with fail
        go_meet
        case rel => exact ⟨_, rfl, by rw [← HB.out]; have := HHI.out (by simp); cases b <;> simp [this], F1.out⟩
  case rest =>
    obtain ⟨bb, rfl, hbb, hf⟩ := hcut
    have HB := hid_ hbb
    have F1 := hid_ (F0.out.then_none hf)
    have B1 := hid_ (B0.out.fr hf id)
    have H1 := hid_ (H0.out.none_fr hf)
    clear hbb hf
    cases bb with
    | true =>
      go_wp2_with fail
      go_ret
      exact ⟨false, rfl, ⟨(fun h => by cases h), fun h => by have := HB.out.2 ⟨h.hi, h.right⟩; cases this⟩, F1.out⟩
    | false =>
      have v0 : wc.cell? ⟨w.heap.size, 0, none⟩ = some (.string low) := B1.out.cell' rfl
      have v1 : wc.cell? ⟨w.heap.size, 1, none⟩ = some (.string high) := B1.out.cell' rfl
      have v2 : wc.cell? ⟨w.heap.size, 2, none⟩ = some (.bool unb) := B1.out.cell' rfl
      go_wp2_with fail
      refine (take_ok L A c low high unb wc H1.out HO.out HS.out.1 HS.out.2).mono ?_
      rintro e w2 ⟨A', c', rfl, hown, hf2⟩
      have F2 := hid_ (F1.out.then_none hf2)
      have hle := inR_le low high unb L
      obtain ⟨n, hn⟩ : ∃ n, n = (inR low high unb L).length := ⟨_, rfl⟩
      rw [← hn]
      rw [← hn] at hle
      have HN := hid_ hn
      clear hown hf2 hn v0 v1 v2
      by_cases he : n = L.length
      · have e1 : ((n : Int) == (L.length : Int)) = true := beq_iff_eq.2 (by omega)
        have HE := hid_ he
        clear he
        go_wp2_with fail
        go_ret
        exact ⟨true, rfl, ⟨fun _ => ⟨(HB.out.1 (by simp)).1, (HB.out.1 (by simp)).2, inR_all.1 (HN.out.symm.trans HE.out)⟩, fun _ => rfl⟩, F2.out⟩
      · have e1 : ((n : Int) == (L.length : Int)) = false := beq_eq_false_iff_ne.2 (by omega)
        have HE := hid_ he
        clear he
        go_wp2_with fail
        go_ret
        exact ⟨false, rfl, ⟨(fun h => by cases h), fun h => absurd (HN.out.trans (inR_all.2 h.inn)) HE.out⟩, F2.out⟩
end Go.Proofs.YtfihfjbakfadkaaGreatDoor

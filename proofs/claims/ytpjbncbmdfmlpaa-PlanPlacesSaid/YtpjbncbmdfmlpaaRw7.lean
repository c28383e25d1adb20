/- Rows as data; rows.list, Right, fits, place, Find by contract. Written by gen_rw7.py. -/
import Derived.Test.YtpjbncbmdfmlpaaJoin
namespace Go.Proofs.Ytpjbncbmdfmlpaa
open Go.RowKit Go.BigFrame
set_option maxRecDepth 100000
set_option linter.unusedVariables false

/-- How many rows stand ahead of a key. -/
def plR : List Rw → ByteArray → Nat
  | [], _ => 0
  | p :: t, key => if ltS p.1 key = true then plR t key + 1 else 0
theorem plR_le : ∀ (L : List Rw) (key : ByteArray), plR L key ≤ L.length
  | [], _ => Nat.le_refl _
  | p :: t, key => by
    have := plR_le t key
    rw [plR]
    split <;> simp <;> omega
theorem plR_in : ∀ {L : List Rw} {key : ByteArray} {i : Nat} {p : Rw}, i < plR L key → L[i]? = some p → ltS p.1 key = true
  | [], _, i, p, h, _ => by simp [plR] at h
  | q :: t, key, i, p, h, hp => by
    rw [plR] at h
    split at h
    · cases i with
      | zero =>
        obtain rfl : q = p := by simpa using hp
        assumption
      | succ i => exact plR_in (L := t) (i := i) (by omega) (by simpa using hp)
    · omega
theorem plR_at : ∀ {L : List Rw} {key : ByteArray} {p : Rw}, L[plR L key]? = some p → ltS p.1 key = false
  | [], _, p, h => by simp at h
  | q :: t, key, p, h => by
    rw [plR] at h
    split at h
    · exact plR_at (L := t) (by simpa using h)
    · obtain rfl : q = p := by simpa using h
      rename_i h1
      simpa using h1
def atR (L : List Rw) (key : ByteArray) : Bool :=
  match L[plR L key]? with
  | some p => sEq p.1 key
  | none => false
theorem atR_some {L : List Rw} {key : ByteArray} {p : Rw} (h : L[plR L key]? = some p) : atR L key = sEq p.1 key := by simp [atR, h]
theorem atR_none {L : List Rw} {key : ByteArray} (h : plR L key = L.length) : atR L key = false := by simp [atR, h]
theorem atR_lt {L : List Rw} {key : ByteArray} (h : atR L key = true) : plR L key < L.length := by
  have h1 := plR_le L key
  rcases Nat.lt_or_ge (plR L key) L.length with h2 | h2
  · exact h2
  · rw [atR_none (by omega)] at h; cases h
/-- May a row be? -/
def fitsR (p : Rw) : Bool := (decide (1 ≤ p.1.size) && decide (p.1.size ≤ 16)) && decide (p.2.size ≤ 16)
structure RightR (L : List Rw) : Prop where
  fit : ∀ p ∈ L, fitsR p = true
  ris : ∀ (i : Nat) (p q : Rw), L[i]? = some p → L[i + 1]? = some q → ltS p.1 q.1 = true
def RightTo (L : List Rw) (k : Nat) : Prop := (∀ (j : Nat) (p : Rw), j < k → L[j]? = some p → fitsR p = true) ∧ ∀ (j : Nat) (p q : Rw), j + 1 < k → L[j]? = some p → L[j + 1]? = some q → ltS p.1 q.1 = true
def RwsOk (L : List Rw) : Prop := L.length ≤ 300000 ∧ ∀ p ∈ L, SzOk p.1 ∧ SzOk p.2
def putR (L : List Rw) (r : Rw) : List Rw := L.take (plR L r.1) ++ [r] ++ L.drop (plR L r.1 + if atR L r.1 then 1 else 0)
def dropR (L : List Rw) (key : ByteArray) : List Rw := if atR L key then L.take (plR L key) ++ L.drop (plR L key + 1) else L
theorem putR_len (L : List Rw) (r : Rw) : (putR L r).length ≤ L.length + 1 := by
  have := plR_le L r.1
  simp only [putR, List.length_append, List.length_take, List.length_drop, List.length_cons, List.length_nil]
  omega
theorem dropR_len (L : List Rw) (key : ByteArray) : (dropR L key).length ≤ L.length := by
  unfold dropR
  split
  · simp only [List.length_append, List.length_take, List.length_drop]; omega
  · exact Nat.le_refl _
/-- The rows that lie in a span. -/
def inR (low high : ByteArray) (unb : Bool) (L : List Rw) : List Rw := L.filter fun p => inS low high unb p.1
theorem inR_all {low high : ByteArray} {unb : Bool} {L : List Rw} : (inR low high unb L).length = L.length ↔ ∀ p ∈ L, inS low high unb p.1 = true := by
  unfold inR
  rw [List.length_filter_eq_length_iff]
structure SoundR (low high : ByteArray) (unb : Bool) (L : List Rw) : Prop where
  hi : unb = true → high = nilS
  right : RightR L
  inn : ∀ p ∈ L, inS low high unb p.1 = true
abbrev PtR := Option Addr × Nat × List Rw
abbrev ptRV (x : PtR) : Value := .slice x.1 x.2.2.length x.2.1
def ptRL (ps : List PtR) : List Rw := (ps.map (·.2.2)).flatten
theorem rwFlat_app (L M : List Rw) : rwFlat (L ++ M) = rwFlat L ++ rwFlat M := by simp [rwFlat]
theorem rwFlat_take : ∀ (L : List Rw) (n : Nat), rwFlat (L.take n) = (rwFlat L).take (n * 2)
  | [], n => by simp [rwFlat]
  | p :: t, 0 => by simp [rwFlat]
  | p :: t, n + 1 => by
    have := rwFlat_take t n
    rw [show (n + 1) * 2 = n * 2 + 1 + 1 by omega]
    show rwCells p ++ rwFlat (t.take n) = (rwCells p ++ rwFlat t).take (n * 2 + 1 + 1)
    rw [this]
    rfl
theorem rwFlat_drop (L : List Rw) (n : Nat) : rwFlat (L.drop n) = (rwFlat L).drop (n * 2) := by
  have h : rwFlat L = rwFlat (L.take n) ++ rwFlat (L.drop n) := by rw [← rwFlat_app, List.take_append_drop]
  rcases Nat.lt_or_ge L.length n with hl | hl
  · rw [List.drop_eq_nil_of_le (by omega), List.drop_eq_nil_of_le (by rw [rwFlat_len]; omega)]
    rfl
  · rw [h, List.drop_left' (by rw [rwFlat_len]; simp; omega)]
theorem ptRL_take {ps : List PtR} {k : Nat} {x : PtR} (h : ps[k]? = some x) : ptRL (ps.take (k + 1)) = ptRL (ps.take k) ++ x.2.2 := by
  simp [ptRL, List.take_add_one, h]
theorem ptRL_le (ps : List PtR) : ∀ k, (ptRL (ps.take k)).length ≤ (ptRL ps).length := fun k => by
  have : ptRL ps = ptRL (ps.take k) ++ ptRL (ps.drop k) := by
    unfold ptRL
    rw [← List.flatten_append, ← List.map_append, List.take_append_drop]
  rw [this, List.length_append]
  omega
def JoinPostR (w : World) (L : List Rw) (e : Ending) (w' : World) : Prop :=
  ∃ A c, e = .returned (.slice A L.length c) ∧ w'.ownsRow w.heap.size 62 2 (.slice A L.length c) L.length (rwFlat L) ∧ Fr none_ w w'
set_option maxHeartbeats 2000000 in
theorem list_ok (b : Nat) (ps : List PtR) (w : World) (hb : ∀ (i : Nat) x, ps[i]? = some x → w.cell? ⟨b, i, none⟩ = some (ptRV x)) (hr : ∀ x ∈ ps, Reads w 2 x.1 x.2.2.length (rwFlat x.2.2)) (hl : (ptRL ps).length ≤ 900000) (hn : ps.length ≤ 10) :
    Calls Try.prog 105 #[.slice (some ⟨b, 0, none⟩) ps.length ps.length] w (JoinPostR w (ptRL ps)) := by
  obtain ⟨i0, hi0, hz0, hs0, hb0⟩ := info_parts row_info
  have Hi := hid_ (And.intro hi0 (And.intro hz0 (And.intro hs0 hb0)))
  have HB := hid_ hb
  have HR := hid_ hr
  clear hi0 hz0 hs0 hb0 hb hr
  go_enter Try.func105, Try.ntmps105
  go_wp2_with fail
  go_loopw [3, 8] (fun v i wr => ∃ k : Nat, k ≤ ps.length ∧ i = .int .i64 k ∧ wr.ownsRow w.heap.size 62 2 v (ptRL (ps.take k)).length (rwFlat (ptRL (ps.take k))) ∧ Fr none_ w wr) (fun _ i _ => ps.length - (intOf i).toNat)
  case atStart => exact ⟨0, Nat.zero_le _, rfl, World.ownsRow_nil _ _ _ _, Fr.refl _ _⟩
  case round =>
    obtain ⟨k, hk, rfl, hown, hF⟩ := hrel
    obtain ⟨A, c, rfl⟩ := hown.shape
    have O := hid_ hown
    have F := hid_ hF
    clear hown hF
    have hi0 : (0 : Int) ≤ (k : Int) := Int.natCast_nonneg _
    by_cases hlt : k < ps.length
    · have hi1 : (k : Int) < (ps.length : Int) := by omega
      obtain ⟨x, hx⟩ : ∃ x, ps[k]? = some x := ⟨_, List.getElem?_eq_getElem hlt⟩
      obtain ⟨A2, c2, L2⟩ := x
      have hc : wr.cell? ⟨b, k, none⟩ = some (.slice A2 L2.length c2) := cellFr (HB.out k _ hx) F.out
      have R := hid_ ((HR.out _ (List.mem_of_getElem? hx)).none_fr F.out)
      have HT := hid_ (ptRL_take hx)
      have hle : (ptRL (ps.take k)).length + L2.length ≤ (ptRL ps).length := by
        have := ptRL_le ps (k + 1)
        rw [HT.out, List.length_append] at this
        exact this
      have hfs := F.out.size
      clear hx
      go_wp2_with (at_builtin; refine wpList_append_any _ rfl (.tmp 12) (.tmp 13) 36 rfl w.heap.size 62 i0 _ 2 32 Try.underlying36 Hi.out.1 Hi.out.2.1 Hi.out.2.2.1 Hi.out.2.2.2 rfl (by omega) (.slice A (ptRL (ps.take k)).length c) (ptRL (ps.take k)).length (rwFlat (ptRL (ps.take k))) rfl O.out A2 L2.length c2 (rwFlat L2) rfl R.out (rwFlat_one _) (by simp only [maxLen]; omega) (by omega) hfs ?_; intro A3 c3 w3 hown3 hgr3)
      have R3 : w3.ownsRow w.heap.size 62 2 (.slice A3 ((ptRL (ps.take k)).length + L2.length) c3) (ptRL (ps.take (k + 1))).length (rwFlat (ptRL (ps.take (k + 1)))) ∧ Fr none_ w w3 := by
        refine ⟨?_, F.out.grown hgr3 (fun b hb => .inr (O.out.lt b hb).1)⟩
        rw [HT.out, List.length_append, rwFlat_app]
        exact hown3
      have HR3 := hid_ R3
      clear R3 hown3 hgr3
      go_wp2
      go_roundw
      case rel => exact ⟨k + 1, by omega, by go_num, HR3.out.1, HR3.out.2⟩
      case measure => simp [intOf]; omega
    · obtain rfl : k = ps.length := by omega
      have o := O.out
      have f := F.out
      rw [List.take_length] at o
      go_wp2
      go_ret
      rw [List.take_length]
      exact ⟨A, c, rfl, o, f⟩
theorem nilS_size : nilS.size = 0 := rfl
set_option maxHeartbeats 2000000 in
theorem bright_ok (k : ByteArray) (w : World) (h : SzOk k) : Calls Try.prog 120 #[.string k] w fun e w' => e = .returned (.bool (decide (1 ≤ k.size) && decide (k.size ≤ 16))) ∧ Fr none_ w w' := by
  have hl := h.le
  clear h
  go_enter Try.func120, Try.ntmps120
  by_cases h1 : 1 ≤ k.size
  · have e1 : decide ((1 : Int) ≤ (k.size : Int)) = true := by simp; omega
    have H1 := hid_ h1
    by_cases h2 : k.size ≤ 16
    · have e2 : decide ((k.size : Int) ≤ 16) = true := by simp; omega
      have H2 := hid_ h2
      clear h1 h2
      go_wp2
      go_ret
      exact ⟨by simp [H1.out, H2.out], Fr.refl _ _⟩
    · have e2 : decide ((k.size : Int) ≤ 16) = false := by simp; omega
      have H2 := hid_ h2
      clear h1 h2
      go_wp2
      go_ret
      exact ⟨by simp [H1.out, H2.out], Fr.refl _ _⟩
  · have e1 : decide ((1 : Int) ≤ (k.size : Int)) = false := by simp; omega
    have H1 := hid_ h1
    clear h1
    go_wp2
    go_ret
    exact ⟨by simp [H1.out], Fr.refl _ _⟩
abbrev rwV (p : Rw) : Value := .agg #[.string p.1, .string p.2]
set_option maxHeartbeats 2000000 in
theorem fits_ok (p : Rw) (w : World) (h1 : SzOk p.1) (h2 : SzOk p.2) : Calls Try.prog 116 #[rwV p] w fun e w' => e = .returned (.bool (fitsR p)) ∧ Fr none_ w w' := by
  have hl := h2.le
  have H1 := hid_ h1
  obtain ⟨w0, hw0⟩ : ∃ z, z = w.alloc (.cells #[.string p.1, .string p.2] 62) := ⟨_, rfl⟩
  have f0 : Fr none_ w w0 := by rw [hw0]; exact (Fr.refl none_ w).alloc _
  have B0 : Hid (Blk w0 w.heap.size 62 #[.string p.1, .string p.2]) := hid_ (by rw [hw0]; exact Blk.new w _ _)
  have F0 := hid_ f0
  clear h1 h2 f0
  go_enter Try.func116, Try.ntmps116
  go_upto_region 1 with fail
  change Code.wp _ _ _ _ (w.alloc (.cells #[.string p.1, .string p.2] 62))
  rw [← hw0]
  clear hw0
  have c0 : w0.cell? ⟨w.heap.size, 0, none⟩ = some (.string p.1) := B0.out.cell' rfl
  go_wp2_with fail
  refine (bright_ok p.1 _ H1.out).mono ?_
  rintro e w1 ⟨rfl, hf⟩
  have c1 : w1.cell? ⟨w.heap.size, 1, none⟩ = some (.string p.2) := (B0.out.fr hf id).cell' rfl
  replace F0 := hid_ (F0.out.then_none hf)
  clear c0 hf
  obtain ⟨b, hb⟩ : ∃ b, (decide (1 ≤ p.1.size) && decide (p.1.size ≤ 16)) = b := ⟨_, rfl⟩
  rw [hb]
  have HB := hid_ hb
  clear hb
  cases b with
  | false =>
    go_wp2
    go_ret
    exact ⟨by simp [fitsR, HB.out], F0.out⟩
  | true =>
    by_cases h2 : p.2.size ≤ 16
    · have e2 : decide ((p.2.size : Int) ≤ 16) = true := by simp; omega
      have H2 := hid_ h2
      clear h2
      go_wp2
      go_ret
      exact ⟨by simp [fitsR, HB.out, H2.out], F0.out⟩
    · have e2 : decide ((p.2.size : Int) ≤ 16) = false := by simp; omega
      have H2 := hid_ h2
      clear h2
      go_wp2
      go_ret
      exact ⟨by simp [fitsR, HB.out, H2.out], F0.out⟩
set_option maxHeartbeats 4000000 in
theorem placeR_ok (L : List Rw) (A : Option Addr) (c : Nat) (key : ByteArray) (w : World) (h : Reads w 2 A L.length (rwFlat L)) (ho : RwsOk L) (hk : SzOk key) :
    Calls Try.prog 119 #[.slice A L.length c, .string key] w fun e w' => e = .returned (.int .i64 (plR L key : Nat)) ∧ Fr none_ w w' := by
  have H0 := hid_ h
  have hle := plR_le L key
  have h1000 := ho.1
  have HSZ := hid_ (And.intro ho.2 hk)
  clear h ho hk
  go_enter Try.func119, Try.ntmps119
  go_wp2_with fail
  go_loopw [5] (fun i wr => ∃ k : Nat, k ≤ plR L key ∧ i = .int .i64 k ∧ Fr none_ w wr) (fun i _ => plR L key - (intOf i).toNat)
  case atStart => exact ⟨0, Nat.zero_le _, rfl, Fr.refl _ _⟩
  case round =>
    obtain ⟨k, hk, rfl, hF⟩ := hrel
    have H := hid_ (H0.out.none_fr hF)
    have F := hid_ hF
    clear hF
    have hi0 : (0 : Int) ≤ (k : Int) := Int.natCast_nonneg _
    by_cases hlt : k < plR L key
    · have hkl : k < L.length := by omega
      have hi1 : (k : Int) < (L.length : Int) := by omega
      have hd1 : decide ((k : Int) < (L.length : Int)) = true := by simp; omega
      obtain ⟨p, hp⟩ : ∃ p, L[k]? = some p := ⟨_, List.getElem?_eq_getElem hkl⟩
      obtain ⟨b, off, rfl, hb, c0, c1⟩ := rw_at H.out hp
      have hcmp : decide (cmpI p.1 key < 0) = true := by rw [cmp_neg]; exact plR_in hlt hp
      have hsz := (HSZ.out.1 p (List.mem_of_getElem? hp)).1
      have HCMP := hid_ hcmp
      clear hp hcmp c1
      go_wp2_with fail
      refine (compare_ok p.1 key _ hsz.le HSZ.out.2.le).mono ?_
      rintro e w1 ⟨rfl, q, rfl⟩
      have hcmp := HCMP.out
      have FQ := hid_ (F.out.drewN q)
      clear c0
      go_wp2_with fail
      go_roundw
      case rel => exact ⟨k + 1, by omega, by go_num, FQ.out⟩
      case measure => simp [intOf]; omega
    · obtain rfl : k = plR L key := by omega
      by_cases hl : plR L key < L.length
      · obtain ⟨p, hp⟩ : ∃ p, L[plR L key]? = some p := ⟨_, List.getElem?_eq_getElem hl⟩
        obtain ⟨b, off, rfl, hb, c0, c1⟩ := rw_at H.out hp
        have hcmp : decide (cmpI p.1 key < 0) = false := by rw [cmp_neg]; exact plR_at hp
        have hsz := (HSZ.out.1 p (List.mem_of_getElem? hp)).1
        obtain ⟨n, hn⟩ : ∃ n, n = plR L key := ⟨_, rfl⟩
        have hi1 : (n : Int) < (L.length : Int) := by omega
        have hd1 : decide ((n : Int) < (L.length : Int)) = true := by simp; omega
        rw [← hn] at c0 c1 hi0
        rw [← hn]
        have HCMP := hid_ hcmp
        have HN := hid_ hn
        clear hp hcmp c1 hl hlt hn hk hle
        go_wp2_with fail
        refine (compare_ok p.1 key _ hsz.le HSZ.out.2.le).mono ?_
        rintro e w1 ⟨rfl, q, rfl⟩
        have hcmp := HCMP.out
        have FQ := hid_ (F.out.drewN q)
        go_wp2_with fail
        go_ret
        exact ⟨by rw [← HN.out]; rfl, FQ.out⟩
      · have he : plR L key = L.length := by omega
        have HE := hid_ he
        have hd1 : decide ((L.length : Int) < (L.length : Int)) = false := by simp
        rw [he]
        clear he hl hlt hk hle
        go_wp2_with fail
        go_ret
        exact ⟨by rw [HE.out]; rfl, F.out⟩
set_option maxHeartbeats 4000000 in
theorem findR_ok (L : List Rw) (A : Option Addr) (c : Nat) (key : ByteArray) (w : World) (h : Reads w 2 A L.length (rwFlat L)) (ho : RwsOk L) (hk : SzOk key) :
    Calls Try.prog 118 #[.slice A L.length c, .string key] w fun e w' => e = .returned (.tuple #[.int .i64 (plR L key : Nat), .bool (atR L key)]) ∧ Fr none_ w w' := by
  have H0 := hid_ h
  have HO := hid_ ho
  have HK := hid_ hk
  have hle := plR_le L key
  have h1000 := ho.1
  clear h ho hk
  go_enter Try.func118, Try.ntmps118
  go_wp2_with fail
  refine (placeR_ok L A c key _ H0.out HO.out HK.out).mono ?_
  rintro e w1 ⟨rfl, hf⟩
  have H := hid_ (H0.out.none_fr hf)
  have F := hid_ hf
  clear hf
  obtain ⟨n, hn⟩ : ∃ n, n = plR L key := ⟨_, rfl⟩
  rw [← hn]
  rw [← hn] at hle
  have HN := hid_ hn
  have hi0 : (0 : Int) ≤ (n : Int) := Int.natCast_nonneg _
  by_cases hl : n < L.length
  · obtain ⟨p, hp⟩ : ∃ p, L[n]? = some p := ⟨_, List.getElem?_eq_getElem hl⟩
    obtain ⟨b, off, rfl, hb, c0, c1⟩ := rw_at H.out hp
    have hat : atR L key = sEq p.1 key := atR_some (by rw [← hn]; exact hp)
    have HAT := hid_ hat
    have hi1 : (n : Int) < (L.length : Int) := by omega
    have hd1 : decide ((n : Int) < (L.length : Int)) = true := by simp; omega
    have hd2 : decide (n < L.length) = true := by simp; omega
    clear hp c1 hat hn hl
    go_wp2_with fail
    go_quiet (fail)
    go_wp2_with fail
    go_ret2
    exact ⟨by rw [HAT.out, ← HN.out]; rfl, by repeat (first | exact F.out | apply Fr.drewN | apply Fr.drew)⟩
  · have he : n = L.length := by omega
    have hat : atR L key = false := atR_none (by rw [← hn]; exact he)
    have HAT := hid_ hat
    have hd1 : decide ((n : Int) < (L.length : Int)) = false := by simp; omega
    have hd2 : decide (n < L.length) = false := by simp; omega
    clear hat hn hl he
    go_wp2_with fail
    go_quiet (fail)
    go_wp2_with fail
    go_ret2
    exact ⟨by rw [HAT.out, ← HN.out]; rfl, by repeat (first | exact F.out | apply Fr.drewN | apply Fr.drew)⟩
theorem copyR_ok (L : List Rw) (A : Option Addr) (c : Nat) (w : World) (h : Reads w 2 A L.length (rwFlat L)) (hl : L.length ≤ 300000) :
    Calls Try.prog 84 #[.slice A L.length c] w (JoinPostR w L) := by
  have H := hid_ h
  clear h
  go_enter Try.func84, Try.ntmps84
  go_wp2_with fail
  have hB := Blk.new w 36 #[.slice A L.length c]
  refine (list_ok w.heap.size [(A, c, L)] _ ?_ ?_ ?_ ?_).mono ?_
  · intro i x hx
    match i, hx with
    | 0, hx => cases hx; rw [hB.cell]; rfl
    | k + 1, hx => simp at hx
  · intro x hx
    obtain rfl : x = (A, c, L) := by simpa using hx
    exact H.out.alloc _
  · simp [ptRL]; omega
  · simp
  rintro e w1 ⟨A', c', rfl, ho, hf⟩
  rw [show ptRL [(A, c, L)] = L by simp [ptRL]] at ho ⊢
  have O := hid_ ho
  have F := hid_ hf
  clear ho hf hB
  go_wp2
  go_ret
  exact ⟨A', c', rfl, own_base O.out (by simp), (((Fr.refl none_ w).alloc _).then_none F.out)⟩
end Go.Proofs.Ytpjbncbmdfmlpaa

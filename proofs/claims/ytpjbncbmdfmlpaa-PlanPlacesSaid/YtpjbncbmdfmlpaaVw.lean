/- inner.View: a page's view as data, place and Has and in by contracts. -/
import Derived.Test.YtpjbncbmdfmlpaaCmp
import Derived.Test.YtpjbncbmdfmlpaaRdAt
import Derived.Test.YtpjbncbmdfmlpaaQx
import Derived.WalkSpells
import Derived.WalkLawsBesides
import Derived.Deep.QuietTactic
import Derived.BigQuiet
import Derived.Deep.DeepCutAuto
import Derived.Deep.RegionHeld3
namespace Go.Proofs.Ytpjbncbmdfmlpaa
open Go.RowKit Go.BigFrame
set_option maxRecDepth 100000
set_option linter.unusedVariables false

structure Vw where
  low : ByteArray
  high : ByteArray
  unb : Bool
  right : Int
  ents : List Et
  held : Bool
  hp : Int
  hl : Int
  hk : ByteArray
def Vw.zero : Vw := ⟨nilS, nilS, false, 0, [], false, 0, 0, nilS⟩
abbrev vwA (V : Vw) (ve : Value) : Array Value := #[.string V.low, .string V.high, .bool V.unb, .int .i64 V.right, ve, .bool V.held, .int .i64 V.hp, .int .i64 V.hl, .string V.hk]
abbrev vwV (V : Vw) (ve : Value) : Value := .agg (vwA V ve)
def SzOk (s : ByteArray) : Prop := s.size ≤ 9000000000000000000
theorem SzOk.le {s : ByteArray} (h : SzOk s) : s.size ≤ 9000000000000000000 := h
theorem SzOk.nil : SzOk nilS := by unfold SzOk; decide
def EtsOk (L : List Et) : Prop := L.length ≤ 1000 ∧ ∀ p ∈ L, SzOk p.1
structure Vw.Ok (V : Vw) : Prop where
  low : SzOk V.low
  high : SzOk V.high
  hk : SzOk V.hk
  ents : EtsOk V.ents
/-- A view's entries lie where its slice says. -/
structure VwIn (w : World) (V : Vw) (A : Option Addr) (c : Nat) : Prop where
  rd : Reads w 2 A V.ents.length (etFlat V.ents)
  cap : V.ents.length ≤ c
  capm : c ≤ maxLen
  ok : V.Ok
theorem VwIn.keep {w w' : World} {V : Vw} {A : Option Addr} {c : Nat} (h : VwIn w V A c) (hf : Fr none_ w w') : VwIn w' V A c := ⟨h.rd.none_fr hf, h.cap, h.capm, h.ok⟩

/-- How many entries stand ahead of a key. -/
def plN : List Et → ByteArray → Nat
  | [], _ => 0
  | p :: t, key => if ltS p.1 key = true then plN t key + 1 else 0
theorem plN_le : ∀ (L : List Et) (key : ByteArray), plN L key ≤ L.length
  | [], _ => Nat.le_refl _
  | p :: t, key => by
    have := plN_le t key
    rw [plN]
    split <;> simp <;> omega
theorem plN_in : ∀ {L : List Et} {key : ByteArray} {i : Nat} {p : Et}, i < plN L key → L[i]? = some p → ltS p.1 key = true
  | [], _, i, p, h, _ => by simp [plN] at h
  | q :: t, key, i, p, h, hp => by
    rw [plN] at h
    split at h
    · cases i with
      | zero =>
        obtain rfl : q = p := by simpa using hp
        assumption
      | succ i => exact plN_in (L := t) (i := i) (by omega) (by simpa using hp)
    · omega
theorem plN_at : ∀ {L : List Et} {key : ByteArray} {p : Et}, L[plN L key]? = some p → ltS p.1 key = false
  | [], _, p, h => by simp at h
  | q :: t, key, p, h => by
    rw [plN] at h
    split at h
    · exact plN_at (L := t) (by simpa using h)
    · obtain rfl : q = p := by simpa using h
      rename_i h1
      simpa using h1
def atB (L : List Et) (key : ByteArray) : Bool :=
  match L[plN L key]? with
  | some p => sEq p.1 key
  | none => false
theorem atB_some {L : List Et} {key : ByteArray} {p : Et} (h : L[plN L key]? = some p) : atB L key = sEq p.1 key := by simp [atB, h]
theorem atB_none {L : List Et} {key : ByteArray} (h : plN L key = L.length) : atB L key = false := by simp [atB, h]

set_option maxHeartbeats 4000000 in
theorem place_ok (V : Vw) (A : Option Addr) (c : Nat) (key : ByteArray) (w : World) (h : VwIn w V A c) (hk : SzOk key) :
    Calls Try.prog 70 #[vwV V (.slice A V.ents.length c), .string key] w fun e w' => e = .returned (.tuple #[.int .i64 (plN V.ents key : Nat), .bool (atB V.ents key)]) ∧ Fr none_ w w' := by
  obtain ⟨w0, hw0⟩ : ∃ w0, w0 = w.alloc (.cells (vwA V (.slice A V.ents.length c)) 43) := ⟨_, rfl⟩
  have f0 : Fr none_ w w0 := by rw [hw0]; exact (Fr.refl none_ w).alloc _
  have F0 := hid_ f0
  have H0 := hid_ (h.keep f0)
  have B0 : Hid (Blk w0 w.heap.size 43 (vwA V (.slice A V.ents.length c))) := hid_ (by rw [hw0]; exact Blk.new w _ _)
  have hle := plN_le V.ents key
  have h1000 := h.ok.ents.1
  have HSZ := hid_ (And.intro h.ok.ents.2 hk)
  clear h f0 hk
  go_enter Try.func70, Try.ntmps70
  go_wp2_with fail
  change Code.wp _ _ _ _ (w.alloc (.cells (vwA V (.slice A V.ents.length c)) 43))
  rw [← hw0]
  clear hw0
  go_loopw [6] (fun i wr => ∃ k : Nat, k ≤ plN V.ents key ∧ i = .int .i64 k ∧ Fr none_ w0 wr) (fun i _ => plN V.ents key - (intOf i).toNat)
  case atStart => exact ⟨0, Nat.zero_le _, rfl, Fr.refl _ _⟩
  case round =>
    obtain ⟨k, hk, rfl, hF⟩ := hrel
    have B := hid_ (B0.out.fr hF id)
    have H := hid_ (H0.out.keep hF)
    have F := hid_ hF
    clear hF
    have v4 : wr.cell? ⟨w.heap.size, 4, none⟩ = some (.slice A V.ents.length c) := B.out.cell' rfl
    have hi0 : (0 : Int) ≤ (k : Int) := Int.natCast_nonneg _
    by_cases hlt : k < plN V.ents key
    · have hkl : k < V.ents.length := by omega
      have hi1 : (k : Int) < (V.ents.length : Int) := by omega
      have hd1 : decide ((k : Int) < (V.ents.length : Int)) = true := by simp; omega
      obtain ⟨p, hp⟩ : ∃ p, V.ents[k]? = some p := ⟨_, List.getElem?_eq_getElem hkl⟩
      obtain ⟨b, off, rfl, hb, c0, c1⟩ := et_at H.out.rd hp
      have hcmp : decide (cmpI p.1 key < 0) = true := by rw [cmp_neg]; exact plN_in hlt hp
      have hsz := HSZ.out.1 p (List.mem_of_getElem? hp)
      have HCMP := hid_ hcmp
      clear hp hcmp c1
      go_wp2_with fail
      refine (compare_ok p.1 key _ hsz.le HSZ.out.2.le).mono ?_
      rintro e w1 ⟨rfl, q, rfl⟩
      have hcmp := HCMP.out
      have FQ := hid_ (F.out.drewN q)
      clear v4 c0
      go_wp2_with fail
      go_roundw
      case rel => exact ⟨k + 1, by omega, by go_num, FQ.out⟩
      case measure => simp [intOf]; omega
    · obtain rfl : k = plN V.ents key := by omega
      by_cases hl : plN V.ents key < V.ents.length
      · obtain ⟨p, hp⟩ : ∃ p, V.ents[plN V.ents key]? = some p := ⟨_, List.getElem?_eq_getElem hl⟩
        obtain ⟨b, off, rfl, hb, c0, c1⟩ := et_at H.out.rd hp
        have hcmp : decide (cmpI p.1 key < 0) = false := by rw [cmp_neg]; exact plN_at hp
        have hsz := HSZ.out.1 p (List.mem_of_getElem? hp)
        have hat := atB_some hp
        obtain ⟨n, hn⟩ : ∃ n, n = plN V.ents key := ⟨_, rfl⟩
        have hi1 : (n : Int) < (V.ents.length : Int) := by omega
        have hd1 : decide ((n : Int) < (V.ents.length : Int)) = true := by simp; omega
        have hd2 : decide (n < V.ents.length) = true := by simp; omega
        rw [← hn] at c0 c1 hi0
        rw [← hn]
        have HCMP := hid_ hcmp
        have HAT := hid_ hat
        have HN := hid_ hn
        clear hp hcmp c1 hl hlt hat hn hk hle
        go_wp2_with fail
        refine (compare_ok p.1 key _ hsz.le HSZ.out.2.le).mono ?_
        rintro e w1 ⟨rfl, q, rfl⟩
        have hcmp := HCMP.out
        have FQ := hid_ (F.out.drewN q)
        go_wp2_with fail
        go_quiet (fail)
        go_wp2_with fail
        go_ret2
        exact ⟨by rw [HAT.out, ← HN.out]; rfl, F0.out.then_none (by repeat (first | exact FQ.out | apply Fr.drewN | apply Fr.drew))⟩
      · have he : plN V.ents key = V.ents.length := by omega
        have hat := atB_none he
        have HAT := hid_ hat
        have HE := hid_ he
        have hd1 : decide ((V.ents.length : Int) < (V.ents.length : Int)) = false := by simp
        rw [he]
        clear he hat hl hlt hk hle
        go_wp2_with fail
        go_quiet (fail)
        go_wp2_with fail
        go_ret2
        exact ⟨by rw [HAT.out, HE.out]; rfl, F0.out.then_none (by repeat (first | exact F.out | apply Fr.drewN | apply Fr.drew))⟩

theorem vin_ok (V : Vw) (ve : Value) (key : ByteArray) (w : World) (h1 : SzOk V.low) (h2 : SzOk V.high) (h3 : SzOk key) :
    Calls Try.prog 71 #[vwV V ve, .string key] w fun e w' => e = .returned (.bool (inS V.low V.high V.unb key)) ∧ Fr none_ w w' := by
  have F0 := hid_ ((Fr.refl none_ w).alloc (.cells (vwA V ve) 43))
  have H := hid_ (And.intro h1 (And.intro h2 h3))
  clear h1 h2 h3
  go_enter Try.func71, Try.ntmps71
  go_wp2_with fail
  refine (in_ok V.low V.high V.unb key _ H.out.1.le H.out.2.1.le H.out.2.2.le).mono ?_
  rintro e w1 ⟨rfl, q, rfl⟩
  go_wp2
  go_ret
  exact ⟨rfl, F0.out.drewN q⟩
theorem has_ok (V : Vw) (A : Option Addr) (c : Nat) (key : ByteArray) (w : World) (h : VwIn w V A c) (hk : SzOk key) :
    Calls Try.prog 36 #[vwV V (.slice A V.ents.length c), .string key] w fun e w' => e = .returned (.bool (atB V.ents key)) ∧ Fr none_ w w' := by
  have F0 := hid_ ((Fr.refl none_ w).alloc (.cells (vwA V (.slice A V.ents.length c)) 43))
  have H := hid_ (And.intro h hk)
  clear h hk
  go_enter Try.func36, Try.ntmps36
  go_wp2_with fail
  refine (place_ok V A c key _ (H.out.1.keep F0.out) H.out.2).mono ?_
  rintro e w1 ⟨rfl, hf1⟩
  have F1 := hid_ (F0.out.then_none hf1)
  clear hf1
  go_wp2
  go_ret
  exact ⟨rfl, F1.out⟩

/-- What sound says of a view. -/
structure Sound (V : Vw) : Prop where
  head : ∃ p, V.ents[0]? = some p ∧ p.1 = V.low
  high : V.unb = true → V.high = nilS
  inn : ∀ p ∈ V.ents, inS V.low V.high V.unb p.1 = true
  ris : ∀ (i : Nat) (p q : Et), V.ents[i]? = some p → V.ents[i + 1]? = some q → ltS p.1 q.1 = true
def SoundTo (V : Vw) (k : Nat) : Prop := (∀ (j : Nat) (p : Et), j < k → V.ents[j]? = some p → inS V.low V.high V.unb p.1 = true) ∧ ∀ (j : Nat) (p q : Et), j + 1 < k → V.ents[j]? = some p → V.ents[j + 1]? = some q → ltS p.1 q.1 = true
def SoundPost (V : Vw) (w : World) (e : Ending) (w' : World) : Prop := ∃ b : Bool, e = .returned (.bool b) ∧ (b = true ↔ Sound V) ∧ Fr none_ w w'
set_option maxHeartbeats 4000000 in
theorem sound_ok (V : Vw) (A : Option Addr) (c : Nat) (w : World) (h : VwIn w V A c) :
    Calls Try.prog 89 #[vwV V (.slice A V.ents.length c)] w (SoundPost V w) := by
  obtain ⟨w0, hw0⟩ : ∃ w0, w0 = w.alloc (.cells (vwA V (.slice A V.ents.length c)) 43) := ⟨_, rfl⟩
  have f0 : Fr none_ w w0 := by rw [hw0]; exact (Fr.refl none_ w).alloc _
  have F0 := hid_ f0
  have H0 := hid_ (h.keep f0)
  have B0 : Hid (Blk w0 w.heap.size 43 (vwA V (.slice A V.ents.length c))) := hid_ (by rw [hw0]; exact Blk.new w _ _)
  have h1000 := h.ok.ents.1
  have OK := hid_ h.ok
  have v0 : w0.cell? ⟨w.heap.size, 0, none⟩ = some (.string V.low) := B0.out.cell' rfl
  have v1 : w0.cell? ⟨w.heap.size, 1, none⟩ = some (.string V.high) := B0.out.cell' rfl
  have v2 : w0.cell? ⟨w.heap.size, 2, none⟩ = some (.bool V.unb) := B0.out.cell' rfl
  have v4 : w0.cell? ⟨w.heap.size, 4, none⟩ = some (.slice A V.ents.length c) := B0.out.cell' rfl
  clear h f0
  by_cases hl0 : V.ents.length = 0
  · have hne : ¬ Sound V := fun h => by
      obtain ⟨p, hp, _⟩ := h.head
      rw [List.getElem?_eq_none (by omega)] at hp
      cases hp
    have HNE := hid_ hne
    rw [hl0] at v4 hw0
    rw [hl0]
    clear hl0 hne
    go_enter Try.func89, Try.ntmps89
    go_wp2_with fail
    change Code.wp _ _ _ _ (w.alloc (.cells (vwA V (.slice A 0 c)) 43))
    rw [← hw0]
    clear hw0
    go_quiet (fail)
    go_wp2_with fail
    go_ret
    exact ⟨false, rfl, ⟨(fun h => by cases h), fun h => absurd h HNE.out⟩, F0.out.drewN _⟩
  obtain ⟨p0, hp0⟩ : ∃ p, V.ents[0]? = some p := ⟨_, List.getElem?_eq_getElem (by omega)⟩
  obtain ⟨b, off, rfl, hb, c0, c1⟩ := et_at H0.out.rd hp0
  have hd0 : decide ((0 : Int) < (V.ents.length : Int)) = true := by simp; omega
  have hd0' : ((V.ents.length : Int) == 0) = false := beq_eq_false_iff_ne.2 (by omega)
  have hi1 : (0 : Int) < (V.ents.length : Int) := by omega
  simp only [Nat.zero_mul, Nat.add_zero] at c0
  have HP0 := hid_ hp0
  have HL0 := hid_ hl0
  clear hp0 c1 hl0
  by_cases hlow : p0.1 = V.low
  case neg =>
    have hne : ¬ Sound V := fun h => by
      obtain ⟨p, hp, e⟩ := h.head
      rw [HP0.out] at hp
      cases hp
      exact hlow e
    have HNE := hid_ hne
    have hs1 := sEq_ne hlow
    unfold sEq at hs1
    have hs2 : (p0.1.toList != V.low.toList) = true := by simpa [bne] using hs1
    clear hne hlow
    go_enter Try.func89, Try.ntmps89
    go_wp2_with fail
    change Code.wp _ _ _ _ (w.alloc (.cells (vwA V (.slice (some ⟨b, off, none⟩) V.ents.length c)) 43))
    rw [← hw0]
    clear hw0
    go_quiet (fail)
    go_wp2_with fail
    go_ret
    exact ⟨false, rfl, ⟨(fun h => by cases h), fun h => absurd h HNE.out⟩, F0.out.drewN _⟩
  have hs1 : (p0.1.toList == V.low.toList) = true := sEq_iff.2 hlow
  have hs2 : (p0.1.toList != V.low.toList) = false := by simpa [bne] using hs1
  have HLOW := hid_ hlow
  clear hlow
  by_cases hhi : V.unb = true ∧ V.high ≠ nilS
  · have hne : ¬ Sound V := fun h => hhi.2 (h.high hhi.1)
    have HNE := hid_ hne
    rw [hhi.1] at v2
    have hh : V.high.toList.isEmpty = false := by
      cases e : V.high.toList.isEmpty with
      | false => rfl
      | true => exact absurd (ba_eq (by rw [← ba_toList, List.isEmpty_iff.1 e])) hhi.2
    have hh2 : (!V.high.toList.isEmpty) = true := by rw [hh]; rfl
    clear hne hhi
    go_enter Try.func89, Try.ntmps89
    go_wp2_with fail
    change Code.wp _ _ _ _ (w.alloc (.cells (vwA V (.slice (some ⟨b, off, none⟩) V.ents.length c)) 43))
    rw [← hw0]
    clear hw0
    go_quiet (fail)
    go_wp2_with fail
    go_ret
    exact ⟨false, rfl, ⟨(fun h => by cases h), fun h => absurd h HNE.out⟩, F0.out.drewN _⟩
  have HHI : Hid (V.unb = true → V.high = nilS) := hid_ (fun hu => Classical.byContradiction fun hn => hhi ⟨hu, hn⟩)
  clear hhi
  go_enter Try.func89, Try.ntmps89
  go_upto_region 1 with fail
  change Code.wp _ _ _ _ (w.alloc (.cells (vwA V (.slice (some ⟨b, off, none⟩) V.ents.length c)) 43))
  rw [← hw0]
  clear hw0
  go_cut [27] (fun v wq => v = .bool false ∧ Fr none_ w0 wq)
  case first =>
    cases hu : V.unb with
    | false =>
      rw [hu] at v2
      clear hu
      go_quiet (fail)
      go_wp2
      go_meet
      case rel => exact ⟨rfl, (Fr.refl none_ w0).drewN _⟩
    | true =>
      have hh := HHI.out hu
      rw [hu] at v2
      rw [hh] at v1
      clear hu hh
      go_quiet (fail)
      go_wp2
      go_meet
      case rel => exact ⟨rfl, (Fr.refl none_ w0).drewN _⟩
  case rest =>
  obtain ⟨rfl, hf⟩ := hcut
  have B1 := hid_ (B0.out.fr hf id)
  have F1 := hid_ (F0.out.then_none hf)
  have H1 := hid_ (H0.out.keep hf)
  clear hf v0 v1 v2 v4 c0 hs1 hs2 hd0 hd0'
  have v4 : wc.cell? ⟨w.heap.size, 4, none⟩ = some (.slice (some ⟨b, off, none⟩) V.ents.length c) := B1.out.cell' rfl
  go_wp2_with fail
  clear v4 F0 H0 B0
  go_loopw [31] (fun i wr => ∃ k : Nat, k ≤ V.ents.length ∧ i = .int .i64 k ∧ SoundTo V k ∧ Fr none_ wc wr) (fun i _ => V.ents.length - (intOf i).toNat)
  case atStart => exact ⟨0, Nat.zero_le _, rfl, ⟨fun j p hj => by omega, fun j p q hj => by omega⟩, Fr.refl _ _⟩
  case round =>
    obtain ⟨k, hk, rfl, hst, hF⟩ := hrel
    have ST := hid_ hst
    have B := hid_ (B1.out.fr hF id)
    have H := hid_ (H1.out.keep hF)
    have F := hid_ (F1.out.then_none hF)
    have FC := hid_ hF
    clear hst hF
    have hi0 : (0 : Int) ≤ (k : Int) := Int.natCast_nonneg _
    by_cases hlt : k < V.ents.length
    · have hi1' : (k : Int) < (V.ents.length : Int) := by omega
      obtain ⟨p, hp⟩ : ∃ p, V.ents[k]? = some p := ⟨_, List.getElem?_eq_getElem hlt⟩
      obtain ⟨b2, off2, hA, hb2, c0, c1⟩ := et_at H.out.rd hp
      obtain ⟨rfl, rfl⟩ : b = b2 ∧ off = off2 := by injection hA with hA; injection hA with e1 e2; exact ⟨e1, e2⟩
      have HP := hid_ hp
      clear hp hA
      go_upto_region 6 with fail
      obtain ⟨X, hX⟩ : ∃ X, X = wr.heap.size := ⟨_, rfl⟩
      obtain ⟨w2, hw2⟩ : ∃ w2, w2 = wr.alloc (.cells #[.string p.1, .int .i64 p.2] 64) := ⟨_, rfl⟩
      have f2 : Fr none_ wr w2 := by rw [hw2]; exact (Fr.refl none_ wr).alloc _
      have BX : Hid (Blk w2 X 64 #[.string p.1, .int .i64 p.2]) := hid_ (by rw [hw2, hX]; exact Blk.new wr _ _)
      have B2 := hid_ (B.out.fr f2 id)
      have H2 := hid_ (H.out.keep f2)
      have F2 := hid_ (FC.out.then_none f2)
      rw [← hX]
      change Code.wp _ _ _ _ (wr.alloc (.cells #[.string p.1, .int .i64 p.2] 64))
      rw [← hw2]
      clear hw2 hX f2 c0 c1
      have hpk := OK.out.ents.2 p (List.mem_of_getElem? HP.out)
      have HPK := hid_ hpk
      clear hpk
      go_cut [57] (fun v wq => ∃ bb : Bool, v = .bool bb ∧ (bb = false ↔ (inS V.low V.high V.unb p.1 = true ∧ ∀ q, 0 < k → V.ents[k - 1]? = some q → ltS q.1 p.1 = true)) ∧ Fr none_ w2 wq)
      case first =>
        have v0 : w2.cell? ⟨w.heap.size, 0, none⟩ = some (.string V.low) := B2.out.cell' rfl
        have v1 : w2.cell? ⟨w.heap.size, 1, none⟩ = some (.string V.high) := B2.out.cell' rfl
        have v2 : w2.cell? ⟨w.heap.size, 2, none⟩ = some (.bool V.unb) := B2.out.cell' rfl
        have v3 : w2.cell? ⟨w.heap.size, 3, none⟩ = some (.int .i64 V.right) := B2.out.cell' rfl
        have v4 : w2.cell? ⟨w.heap.size, 4, none⟩ = some (.slice (some ⟨b, off, none⟩) V.ents.length c) := B2.out.cell' rfl
        have v5 : w2.cell? ⟨w.heap.size, 5, none⟩ = some (.bool V.held) := B2.out.cell' rfl
        have v6 : w2.cell? ⟨w.heap.size, 6, none⟩ = some (.int .i64 V.hp) := B2.out.cell' rfl
        have v7 : w2.cell? ⟨w.heap.size, 7, none⟩ = some (.int .i64 V.hl) := B2.out.cell' rfl
        have v8 : w2.cell? ⟨w.heap.size, 8, none⟩ = some (.string V.hk) := B2.out.cell' rfl
        have x0 : w2.cell? ⟨X, 0, none⟩ = some (.string p.1) := BX.out.cell' rfl
        have y0 : ∀ x : Wx w2, x.to.cell? ⟨w.heap.size, 0, none⟩ = some (.string V.low) := fun x => x.cell v0
        have y1 : ∀ x : Wx w2, x.to.cell? ⟨w.heap.size, 1, none⟩ = some (.string V.high) := fun x => x.cell v1
        have y2 : ∀ x : Wx w2, x.to.cell? ⟨w.heap.size, 2, none⟩ = some (.bool V.unb) := fun x => x.cell v2
        have y3 : ∀ x : Wx w2, x.to.cell? ⟨w.heap.size, 3, none⟩ = some (.int .i64 V.right) := fun x => x.cell v3
        have y4 : ∀ x : Wx w2, x.to.cell? ⟨w.heap.size, 4, none⟩ = some (.slice (some ⟨b, off, none⟩) V.ents.length c) := fun x => x.cell v4
        have y5 : ∀ x : Wx w2, x.to.cell? ⟨w.heap.size, 5, none⟩ = some (.bool V.held) := fun x => x.cell v5
        have y6 : ∀ x : Wx w2, x.to.cell? ⟨w.heap.size, 6, none⟩ = some (.int .i64 V.hp) := fun x => x.cell v6
        have y7 : ∀ x : Wx w2, x.to.cell? ⟨w.heap.size, 7, none⟩ = some (.int .i64 V.hl) := fun x => x.cell v7
        have y8 : ∀ x : Wx w2, x.to.cell? ⟨w.heap.size, 8, none⟩ = some (.string V.hk) := fun x => x.cell v8
        have z0 : ∀ x : Wx w2, x.to.cell? ⟨X, 0, none⟩ = some (.string p.1) := fun x => x.cell x0
        clear v0 v1 v2 v3 v4 v5 v6 v7 v8 x0
        cases hin : inS V.low V.high V.unb p.1 with
        | false =>
          have HC : Hid (∀ x : Wx w2, Calls Try.prog 71 #[vwV V (.slice (some ⟨b, off, none⟩) V.ents.length c), .string p.1] x.to fun e w' => e = .returned (.bool false) ∧ Fr none_ x.to w') := hid_ (fun x => by
            have h := vin_ok V (.slice (some ⟨b, off, none⟩) V.ents.length c) p.1 x.to OK.out.low OK.out.high HPK.out
            rwa [hin] at h)
          have HIN := hid_ hin
          clear hin
          refine wp_region_quiet_x (by kernel_rfl) (by kernel_rfl) ?_
          repeat (first | go_big_quiet_step ((go_at_call 71; exact Calls.quiet_x (HC.out _))) | quiet_step ((go_at_call 71; exact Calls.quiet_x (HC.out _))))
          refine wpQuiet_nil ?_
          intro _ hw'
          obtain ⟨xq, hw''⟩ := hw'
          subst hw''
          go_wp2
          go_meet
          case rel => exact ⟨true, rfl, ⟨(fun h => by cases h), fun h => by rw [HIN.out] at h; cases h.1⟩, xq.fr⟩
        | true =>
          have HC : Hid (∀ x : Wx w2, Calls Try.prog 71 #[vwV V (.slice (some ⟨b, off, none⟩) V.ents.length c), .string p.1] x.to fun e w' => e = .returned (.bool true) ∧ Fr none_ x.to w') := hid_ (fun x => by
            have h := vin_ok V (.slice (some ⟨b, off, none⟩) V.ents.length c) p.1 x.to OK.out.low OK.out.high HPK.out
            rwa [hin] at h)
          have HIN := hid_ hin
          clear hin
          by_cases hk0 : 0 < k
          · obtain ⟨q, hq⟩ : ∃ q, V.ents[k - 1]? = some q := ⟨_, List.getElem?_eq_getElem (by omega)⟩
            obtain ⟨b3, off3, hA, hb3, d0, d1⟩ := et_at H2.out.rd hq
            obtain ⟨rfl, rfl⟩ : b = b3 ∧ off = off3 := by injection hA with hA; injection hA with e1 e2; exact ⟨e1, e2⟩
            have e0 : ∀ x : Wx w2, x.to.cell? ⟨b, off + (k - 1) * 2, none⟩ = some (.string q.1) := fun x => x.cell d0
            have hqk := OK.out.ents.2 q (List.mem_of_getElem? hq)
            have HQK := hid_ hqk
            have HQ := hid_ hq
            have HQ' : Hid ((∀ q', 0 < k → V.ents[k - 1]? = some q' → ltS q'.1 p.1 = true) ↔ ltS q.1 p.1 = true) := hid_ ⟨fun h => h q hk0 hq, fun h q' _ hq' => by rw [hq] at hq'; cases hq'; exact h⟩
            have HC2 : Hid (∀ x : Wx w2, Calls Try.prog 72 #[.string q.1, .string p.1] x.to fun e w' => e = .returned (.int .i64 (cmpI q.1 p.1)) ∧ Fr none_ x.to w') := hid_ (fun x => (compare_ok q.1 p.1 x.to HQK.out.le HPK.out.le).mono (by rintro e w' ⟨rfl, n, rfl⟩; exact ⟨rfl, (Fr.refl none_ _).drewN n⟩))
            have hw1 : IntKind.i64.wrap ((k : Int) - 1) = ((k - 1 : Nat) : Int) := by rw [show (k : Int) - 1 = ((k - 1 : Nat) : Int) by omega]; exact IntWalk.i64_in _ (by omega)
            have hdk : decide (0 < k) = true := decide_eq_true hk0
            have hj0 : (0 : Int) ≤ ((k - 1 : Nat) : Int) := Int.natCast_nonneg _
            have hj1 : ((k - 1 : Nat) : Int) < (V.ents.length : Int) := by omega
            obtain ⟨j, hj⟩ : ∃ j, j = k - 1 := ⟨_, rfl⟩
            rw [← hj] at e0 hw1 hj0 hj1
            have HJ := hid_ hj
            have hge := cmp_ge q.1 p.1
            have HGE := hid_ hge
            clear hq hA d0 d1 hqk hj hge hk0
            refine wp_region_quiet_x (by kernel_rfl) (by kernel_rfl) ?_
            repeat (first | go_big_quiet_step ((first | (go_at_call 71; exact Calls.quiet_x (HC.out _)) | (go_at_call 72; exact Calls.quiet_x (HC2.out _)))) | quiet_step ((first | (go_at_call 71; exact Calls.quiet_x (HC.out _)) | (go_at_call 72; exact Calls.quiet_x (HC2.out _)))))
            refine wpQuiet_nil ?_
            intro _ hw'
            obtain ⟨xq, hw''⟩ := hw'
            subst hw''
            go_wp2
            go_meet
            case rel => exact ⟨_, rfl, by
              rw [HGE.out, HIN.out, HQ'.out]
              cases ltS q.1 p.1 <;> simp, xq.fr⟩
          · have hdk : decide (0 < k) = false := decide_eq_false hk0
            have hk0' : k = 0 := by omega
            have HK0 := hid_ hk0'
            clear hk0 hk0'
            refine wp_region_quiet_x (by kernel_rfl) (by kernel_rfl) ?_
            repeat (first | go_big_quiet_step ((go_at_call 71; exact Calls.quiet_x (HC.out _))) | quiet_step ((go_at_call 71; exact Calls.quiet_x (HC.out _))))
            refine wpQuiet_nil ?_
            intro _ hw'
            obtain ⟨xq, hw''⟩ := hw'
            subst hw''
            go_wp2
            go_meet
            case rel => exact ⟨false, rfl, ⟨fun _ => ⟨HIN.out, fun q h => by have := HK0.out; omega⟩, fun _ => rfl⟩, xq.fr⟩
      case rest =>
      obtain ⟨bb, rfl, hbb, hf⟩ := hcut
      have F3 := hid_ (F2.out.then_none hf)
      have HB := hid_ hbb
      clear hf hbb B2 H2 BX F2
      cases bb with
      | true =>
        have hns : ¬ Sound V := fun hS => by
          have h := HB.out.2 ⟨hS.inn p (List.mem_of_getElem? HP.out), fun q h0 hq => hS.ris (k - 1) q p hq (by rw [show k - 1 + 1 = k by omega]; exact HP.out)⟩
          cases h
        have HNS := hid_ hns
        clear hns
        go_wp2_with fail
        go_ret
        exact ⟨false, rfl, ⟨(fun h => by cases h), fun h => absurd h HNS.out⟩, F1.out.then_none F3.out⟩
      | false =>
        have hst : SoundTo V (k + 1) := by
          have h := HB.out.1 rfl
          refine ⟨fun j p' hj hp' => ?_, fun j p' q hj hp' hq => ?_⟩
          · rcases Nat.lt_succ_iff_lt_or_eq.1 hj with hj | rfl
            · exact ST.out.1 j p' hj hp'
            · rw [HP.out] at hp'; cases hp'; exact h.1
          · rcases Nat.lt_succ_iff_lt_or_eq.1 hj with hj | hj
            · exact ST.out.2 j p' q hj hp' hq
            · rw [hj, HP.out] at hq
              cases hq
              exact h.2 p' (by omega) (by rw [show k - 1 = j by omega]; exact hp')
        have HST := hid_ hst
        clear hst
        go_wp2_with fail
        go_roundw
        case rel => exact ⟨k + 1, by omega, by go_num, HST.out, F3.out⟩
        case measure => simp [intOf]; omega
    · obtain rfl : k = V.ents.length := by omega
      have hS : Sound V := ⟨⟨p0, HP0.out, HLOW.out⟩, HHI.out, fun p hp => by obtain ⟨j, hj, e⟩ := List.mem_iff_getElem.1 hp; exact ST.out.1 j p hj (by rw [List.getElem?_eq_getElem hj, e]), fun j p q hp hq => ST.out.2 j p q (List.getElem?_eq_some_iff.1 hq).1 hp hq⟩
      have HS := hid_ hS
      clear hS
      go_wp2_with fail
      go_ret
      exact ⟨true, rfl, ⟨fun _ => HS.out, fun _ => rfl⟩, F.out⟩
end Go.Proofs.Ytpjbncbmdfmlpaa

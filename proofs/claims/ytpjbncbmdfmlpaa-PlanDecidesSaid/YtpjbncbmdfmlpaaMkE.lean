/- Texts of one proof, merged: Ch, Child, HoldM8, DocP8, DocBP8, Uw, Rf3, Rf3b, Lf7, Rlh7. -/
import Derived.BigQuiet
import Derived.Deep.MidRow
import Derived.Test.YtpjbncbmdfmlpaaMkA
import Derived.Test.YtpjbncbmdfmlpaaMkB
import Derived.Test.YtpjbncbmdfmlpaaMkC
import Derived.Test.YtpjbncbmdfmlpaaMkD
namespace Go.Proofs.Ytpjbncbmdfmlpaa
open Go.RowKit
set_option maxRecDepth 100000
set_option linter.unusedVariables false

/-- A record in a list: what its slices are. -/
structure Ch where
  R : Rc
  A : Option Addr
  c : Nat
  B : Option Addr
  d : Nat
abbrev recL (C : Ch) : List Value := [.int .i64 C.R.kind, .string C.R.low, .string C.R.high, .bool C.R.unb, .int .i64 C.R.right, .slice C.A C.R.rows.length C.c, .slice C.B C.R.ents.length C.d, .string C.R.key, .string C.R.val, .int .i64 C.R.page, .int .i64 C.R.hpage, .int .i64 C.R.hleft, .string C.R.hkey, .int .i64 C.R.nslot, .int .i64 C.R.ngen]
structure ChOk (w : World) (C : Ch) : Prop where
  rd : RecReads w C.R C.A C.B
  low : SzOk C.R.low
  high : SzOk C.R.high
  key : SzOk C.R.key
  hkey : SzOk C.R.hkey
  ents : EtsOk C.R.ents
  cap : C.R.ents.length ≤ C.d
  capm : C.d ≤ maxLen
theorem ChOk.keep {w w' : World} {C : Ch} (h : ChOk w C) (hf : Fr none_ w w') : ChOk w' C := ⟨h.rd.keep hf, h.low, h.high, h.key, h.hkey, h.ents, h.cap, h.capm⟩
def ChReads (w : World) (A : Option Addr) (n : Nat) (L : List Ch) : Prop :=
  L.length = n ∧ (0 < n → ∃ b off, A = some ⟨b, off, none⟩ ∧ b < w.heap.size ∧ ∀ (k : Nat) (C : Ch), L[k]? = some C → w.rangeAt b (off + k * 15) (recL C) ∧ ChOk w C)
theorem ChReads.keep {w w' : World} {A : Option Addr} {n : Nat} {L : List Ch} (h : ChReads w A n L) (hf : Fr none_ w w') : ChReads w' A n L :=
  ⟨h.1, fun hn => by
    obtain ⟨b, off, hA, hb, hc⟩ := h.2 hn
    exact ⟨b, off, hA, by have := hf.size; omega, fun k C hC => ⟨fun j v hv => cellFr ((hc k C hC).1 j v hv) hf, (hc k C hC).2.keep hf⟩⟩⟩
theorem ChReads.at_ {w : World} {A : Option Addr} {n : Nat} {L : List Ch} (h : ChReads w A n L) {k : Nat} {C : Ch} (hC : L[k]? = some C) : ∃ b off, A = some ⟨b, off, none⟩ ∧ b < w.heap.size ∧ w.rangeAt b (off + k * 15) (recL C) ∧ ChOk w C := by
  obtain ⟨b, off, hA, hb, hc⟩ := h.2 (by have := (List.getElem?_eq_some_iff.1 hC).1; have := h.1; omega)
  exact ⟨b, off, hA, hb, hc k C hC⟩
abbrev recZ8 : Array Value := #[.int .i64 0, .string ⟨#[]⟩, .string ⟨#[]⟩, .bool false, .int .i64 0, .slice none 0 0, .slice none 0 0, .string ⟨#[]⟩, .string ⟨#[]⟩, .int .i64 0, .int .i64 0, .int .i64 0, .string ⟨#[]⟩, .int .i64 0, .int .i64 0]
theorem rec_one (C : Ch) : (recL C).toArray.all (·.oneCell') = true := by simp [Value.oneCell']
theorem rec_size8 : (Try.prog.info? 58).map (·.size) = some 15 := by kernel_rfl

/-- A view's box is none of its entries' rows. -/
theorem VwIn.far {w w' : World} {V V0 : Vw} {A : Option Addr} {c X : Nat} {ve : Value} (h : VwIn w V A c) (hX : Blk w X 43 (vwA V0 ve)) (hf : Fr (only X) w w') : VwIn w' V A c := by
  refine ⟨?_, h.cap, h.capm, h.ok⟩
  rcases Nat.eq_zero_or_pos V.ents.length with h0 | h0
  · exact ⟨h.rd.1, fun hn => absurd hn (by omega)⟩
  · obtain ⟨p, hp⟩ : ∃ p, V.ents[0]? = some p := ⟨_, List.getElem?_eq_getElem h0⟩
    obtain ⟨b, off, rfl, hb, c0, c1⟩ := et_at h.rd hp
    refine h.rd.fr hf (fun ad e => ?_)
    cases e
    intro e
    have e' : b = X := e
    subst e'
    rw [hX.cell] at c0 c1
    simp only [Nat.zero_mul, Nat.add_zero] at c0 c1
    match off, c0, c1 with
    | 0, c0, c1 => simp at c1
    | 1, c0, c1 => simp at c1
    | 2, c0, c1 => simp at c0
    | 3, c0, c1 => simp at c0
    | 4, c0, c1 =>
      have e : ve = .string p.1 := by simpa using c0
      simp at c1
    | 5, c0, c1 => simp at c0
    | 6, c0, c1 => simp at c0
    | 7, c0, c1 => simp at c0
    | 8, c0, c1 => simp at c1
    | k + 9, c0, c1 => simp at c0
def baseV (R : Rc) : Vw := ⟨R.low, R.high, R.unb, R.right, R.ents, false, 0, 0, nilS⟩
open Classical in
/-- What a chain is: the last record is the base, the others stand above it. -/
noncomputable def foldU : List Rc → Option Vw
  | [] => none
  | [b] => if b.kind = 7 ∧ Sound (baseV b) then some (baseV b) else none
  | r :: s :: t => (foldU (s :: t)).bind fun V => upM V r
theorem foldU_cons (r : Rc) {l : List Rc} (h : l ≠ []) : foldU (r :: l) = (foldU l).bind fun V => upM V r := by
  cases l with
  | nil => exact absurd rfl h
  | cons s t => rfl
theorem foldU_none {l : List Rc} {j : Nat} (hj : j < l.length) (h : foldU (l.drop j) = none) : ∀ k, k ≤ j → foldU (l.drop k) = none := by
  have step : ∀ d k, k + d = j → foldU (l.drop k) = none := by
    intro d
    induction d with
    | zero =>
      intro k e
      have e' : k = j := by omega
      rw [e']
      exact h
    | succ d ih =>
      intro k e
      have := ih (k + 1) (by omega)
      rw [List.drop_eq_getElem_cons (by omega : k < l.length), foldU_cons _ (by intro e; have := congrArg List.length e; simp at this; omega), this]
      rfl
  intro k hk
  exact step (j - k) k (by omega)
theorem foldU_last {l : List Rc} {m : Nat} {D : Rc} (hm : l.length = m + 1) (hD : l[m]? = some D) : l.drop m = [D] := by
  rw [List.drop_eq_getElem_cons (by omega), List.drop_eq_nil_of_le (by omega)]
  have := (List.getElem?_eq_some_iff.1 hD).2
  rw [this]
theorem foldU_one (D : Rc) (h : D.kind = 7) (hs : Sound (baseV D)) : foldU [D] = some (baseV D) := if_pos ⟨h, hs⟩
theorem foldU_one_no (D : Rc) (h : ¬ (D.kind = 7 ∧ Sound (baseV D))) : foldU [D] = none := if_neg h
def KindOk (R : Rc) : Prop := 7 ≤ R.kind ∧ R.kind ≤ 11
/-- What is held has an entry. -/
def HeldOk (V : Vw) : Prop := V.held = true → plN V.ents V.hk < V.ents.length
theorem up_held {V V' : Vw} {R : Rc} (h : upM V R = some V') (hh : HeldOk V) : HeldOk V' := by
  unfold upM at h
  intro hv
  split at h
  · split at h
    · cases h
    · rename_i h8 _
      cases h
      have e : V.held = true := hv
      rw [h8.2] at e
      cases e
  · split at h
    · split at h
      · cases h
      · rename_i h9 _
        cases h
        have e : V.held = true := hv
        rw [h9.2] at e
        cases e
    · split at h
      · split at h
        · cases h
        · rename_i hn
          cases h
          have : atB V.ents R.hkey = true := by
            cases e : atB V.ents R.hkey with
            | true => rfl
            | false => exact absurd (.inl e) hn
          exact atB_lt this
      · split at h
        · cases h; cases hv
        · cases h
theorem up_len {V V' : Vw} {R : Rc} (h : upM V R = some V') : V'.ents.length ≤ V.ents.length + 1 := by
  unfold upM at h
  split at h
  · split at h
    · cases h
    · cases h
      show (putL _ _ _).length ≤ _
      rw [putL_len _ (plN_le _ _)]
      omega
  · split at h
    · split at h
      · cases h
      · cases h; show (List.take _ _).length ≤ _; simp; omega
    · split at h
      · split at h
        · cases h
        · cases h; show V.ents.length ≤ _; omega
      · split at h
        · cases h; show (List.take _ _ ++ List.drop _ _).length ≤ _; simp; omega
        · cases h
theorem base_held (R : Rc) : HeldOk (baseV R) := fun h => by cases h
def FoldPost (l : List Rc) (w : World) (e : Ending) (w' : World) : Prop :=
  (∃ V A c, (∀ R ∈ l, KindOk R) ∧ foldU l = some V ∧ e = .returned (.tuple #[vwV V (.slice A V.ents.length c), .nilIface]) ∧ VwIn w' V A c ∧ HeldOk V ∧ Fr none_ w w') ∨
  (∃ k : Int, (k = 9 ∨ k = 10) ∧ ((∀ R ∈ l, KindOk R) → foldU l = none) ∧ e = .returned (.tuple #[vwV Vw.zero (.slice none 0 0), errV k]) ∧ Fr none_ w w')
end Go.Proofs.Ytpjbncbmdfmlpaa
namespace Go.Proofs.Ytpjbncbmdfmlpaa
open Go.RowKit Go.BigFrame
set_option maxRecDepth 100000
set_option linter.unusedVariables false

/-- How many entries are not behind a key. -/
def ndN (L : List Et) (key : ByteArray) : Nat := plN L key + if atB L key = true then 1 else 0
/-- The entry below which a key lies. -/
def childM (V : Vw) (key : ByteArray) : Option Et := if inS V.low V.high V.unb key = true ∧ ndN V.ents key ≠ 0 then V.ents[ndN V.ents key - 1]? else none
theorem ndN_le (L : List Et) (key : ByteArray) : ndN L key ≤ L.length := by
  unfold ndN
  split
  · rename_i h; have := atB_lt h; omega
  · have := plN_le L key; omega
def ChildPost (V : Vw) (key : ByteArray) (w : World) (e : Ending) (w' : World) : Prop :=
  ((∃ p : Et, childM V key = some p ∧ e = .returned (.tuple #[.agg #[.string p.1, .int .i64 p.2], .nilIface])) ∨ (childM V key = none ∧ e = .returned (.tuple #[.agg #[.string nilS, .int .i64 0], errV 2]))) ∧ Fr none_ w w'
theorem box2e {w1 : World} {b : Nat} {t : TypeId} {c0 c1 : Value} (h : Blk w1 b t #[c0, c1]) (x0 x1 : Value) : Blk ((w1.setCell ⟨b, 0, none⟩ x0).setCell ⟨b, 1, none⟩ x1) b t #[x0, x1] ∧ Fr (only b) w1 ((w1.setCell ⟨b, 0, none⟩ x0).setCell ⟨b, 1, none⟩ x1) :=
  ⟨(h.set_ 0 x0).set_ 1 x1, ((Fr.refl (only b) w1).setCell (p := ⟨b, 0, none⟩) (.inl (Eq.refl _)) x0).setCell (p := ⟨b, 1, none⟩) (.inl (Eq.refl _)) x1⟩
set_option maxHeartbeats 4000000 in
theorem child_ok (V : Vw) (A : Option Addr) (c : Nat) (key : ByteArray) (w : World) (h : VwIn w V A c) (hk : SzOk key) :
    Calls Try.prog 35 #[vwV V (.slice A V.ents.length c), .string key] w (ChildPost V key w) := by
  obtain ⟨w0, hw0⟩ : ∃ w0, w0 = (w.alloc (.cells (vwA V (.slice A V.ents.length c)) 43)).alloc (.cells #[.string nilS, .int .i64 0] 64) := ⟨_, rfl⟩
  have f0 : Fr none_ w w0 := by rw [hw0]; exact ((Fr.refl none_ w).alloc _).alloc _
  have BV : Hid (Blk w0 w.heap.size 43 (vwA V (.slice A V.ents.length c))) := hid_ (by rw [hw0]; exact (Blk.new w _ _).alloc _)
  have BO : Hid (Blk w0 (w.heap.size + 1) 64 #[.string nilS, .int .i64 0]) := hid_ (by
    have := Blk.new (w.alloc (.cells (vwA V (.slice A V.ents.length c)) 43)) 64 #[.string nilS, .int .i64 0]
    rw [World.size_alloc] at this
    rw [hw0]; exact this)
  have H := hid_ (h.keep f0)
  have F0 := hid_ f0
  have HK := hid_ hk
  have hle := ndN_le V.ents key
  have h1000 := h.ok.ents.1
  clear h f0 hk
  obtain ⟨n, hn⟩ : ∃ n, n = ndN V.ents key := ⟨_, rfl⟩
  obtain ⟨m, hm⟩ : ∃ m, m = plN V.ents key := ⟨_, rfl⟩
  obtain ⟨t, ht⟩ : ∃ t, t = atB V.ents key := ⟨_, rfl⟩
  obtain ⟨s, hs⟩ : ∃ s, s = inS V.low V.high V.unb key := ⟨_, rfl⟩
  have hnm : n = m + if t = true then 1 else 0 := by rw [hn, hm, ht]; rfl
  rw [← hn] at hle
  have hch : childM V key = if s = true ∧ n ≠ 0 then V.ents[n - 1]? else none := by rw [hs, hn]; rfl
  have HCH := hid_ hch
  have HM := hid_ hm
  have HT := hid_ ht
  have HS := hid_ hs
  have HNM := hid_ hnm
  clear hn hm ht hs hch hnm
  go_enter Try.func35, Try.ntmps35
  go_wp2_with fail
  change Calls _ _ _ ((w.alloc (.cells (vwA V (.slice A V.ents.length c)) 43)).alloc (.cells #[.string nilS, .int .i64 0] 64)) _
  rw [← hw0]
  clear hw0
  refine (place_ok V A c key _ H.out HK.out).mono ?_
  rintro e w1 ⟨rfl, hf1⟩
  rw [← HM.out, ← HT.out]
  have BV1 := hid_ (BV.out.fr hf1 id)
  have BO1 := hid_ (BO.out.fr hf1 id)
  have H1 := hid_ (H.out.keep hf1)
  have F1 := hid_ (F0.out.then_none hf1)
  clear hf1 BV BO H F0
  cases t with
  | false =>
    obtain rfl : n = m := by have := HNM.out; simpa using this
    go_upto_region 4 with fail
    have v0 : w1.cell? ⟨w.heap.size, 0, none⟩ = some (.string V.low) := BV1.out.cell' rfl
    have v1 : w1.cell? ⟨w.heap.size, 1, none⟩ = some (.string V.high) := BV1.out.cell' rfl
    have v2 : w1.cell? ⟨w.heap.size, 2, none⟩ = some (.bool V.unb) := BV1.out.cell' rfl
    have v3 : w1.cell? ⟨w.heap.size, 3, none⟩ = some (.int .i64 V.right) := BV1.out.cell' rfl
    have v4 : w1.cell? ⟨w.heap.size, 4, none⟩ = some (.slice A V.ents.length c) := BV1.out.cell' rfl
    have v5 : w1.cell? ⟨w.heap.size, 5, none⟩ = some (.bool V.held) := BV1.out.cell' rfl
    have v6 : w1.cell? ⟨w.heap.size, 6, none⟩ = some (.int .i64 V.hp) := BV1.out.cell' rfl
    have v7 : w1.cell? ⟨w.heap.size, 7, none⟩ = some (.int .i64 V.hl) := BV1.out.cell' rfl
    have v8 : w1.cell? ⟨w.heap.size, 8, none⟩ = some (.string V.hk) := BV1.out.cell' rfl
    go_wp2_with fail
    refine (vin_ok V _ key _ H1.out.ok.low H1.out.ok.high HK.out).mono ?_
    rintro e w2 ⟨rfl, hf2⟩
    rw [← HS.out]
    have BV2 := hid_ (BV1.out.fr hf2 id)
    have BO2 := hid_ (BO1.out.fr hf2 id)
    have H2 := hid_ (H1.out.keep hf2)
    have F2 := hid_ (F1.out.then_none hf2)
    clear hf2 v0 v1 v2 v3 v4 v5 v6 v7 v8
    have o0 : w2.cell? ⟨w.heap.size + 1, 0, none⟩ = some (.string nilS) := BO2.out.cell' rfl
    have o1 : w2.cell? ⟨w.heap.size + 1, 1, none⟩ = some (.int .i64 0) := BO2.out.cell' rfl
    have f0 := BO2.out.frozen 0
    have f1 := BO2.out.frozen 1
    cases s with
    | false =>
      go_wp2_with fail
      clear o0 o1 f0 f1
      obtain ⟨qb, qf⟩ := box2e BO2.out (.string nilS) (.int .i64 0)
      have q0 := qb.cell' (i := 0) rfl
      have q1 := qb.cell' (i := 1) rfl
      refine bodyPost_ret (v := .tuple #[.agg #[.string nilS, .int .i64 0], errV 2]) ?_ rfl ⟨.inr ⟨by rw [HCH.out]; rfl, rfl⟩, F2.out.then_only qf (.inr (by omega))⟩
      simp [results, Try.results35, go_sem, q0, q1]
    | true =>
      by_cases hn0 : n = 0
      · have hz : ((n : Int) == 0) = true := beq_iff_eq.2 (by omega)
        have HN0 := hid_ hn0
        clear hn0
        go_wp2_with fail
        clear o0 o1 f0 f1
        obtain ⟨qb, qf⟩ := box2e BO2.out (.string nilS) (.int .i64 0)
        have q0 := qb.cell' (i := 0) rfl
        have q1 := qb.cell' (i := 1) rfl
        refine bodyPost_ret (v := .tuple #[.agg #[.string nilS, .int .i64 0], errV 2]) ?_ rfl ⟨.inr ⟨by rw [HCH.out]; rw [HN0.out]; rfl, rfl⟩, F2.out.then_only qf (.inr (by omega))⟩
        simp [results, Try.results35, go_sem, q0, q1]
      · have hz : ((n : Int) == 0) = false := beq_eq_false_iff_ne.2 (by omega)
        obtain ⟨j, hj⟩ : ∃ j, j = n - 1 := ⟨_, rfl⟩
        obtain ⟨p, hp⟩ : ∃ p, V.ents[j]? = some p := ⟨_, List.getElem?_eq_getElem (by omega)⟩
        obtain ⟨b, off, rfl, hb, c0, c1⟩ := et_at H2.out.rd hp
        have v4 : w2.cell? ⟨w.heap.size, 4, none⟩ = some (.slice (some ⟨b, off, none⟩) V.ents.length c) := BV2.out.cell' rfl
        have hw1 : IntKind.i64.wrap ((n : Int) - 1) = (j : Int) := by rw [show (n : Int) - 1 = (j : Int) by omega]; exact IntWalk.i64_in _ (by omega)
        have hnj : (n : Int) - 1 = (j : Int) := by omega
        have hj0 : (0 : Int) ≤ (j : Int) := Int.natCast_nonneg _
        have hj1 : (j : Int) < (V.ents.length : Int) := by omega
        have HP : Hid (childM V key = some p) := hid_ (by rw [HCH.out, if_pos ⟨rfl, hn0⟩, ← hj]; exact hp)
        clear hp hj hn0
        go_wp2_with fail
        clear o0 o1 f0 f1 c0 c1 v4
        obtain ⟨qb, qf⟩ := box2e BO2.out (.string p.1) (.int .i64 p.2)
        have q0 := qb.cell' (i := 0) rfl
        have q1 := qb.cell' (i := 1) rfl
        refine bodyPost_ret (v := .tuple #[.agg #[.string p.1, .int .i64 p.2], .nilIface]) ?_ rfl ⟨.inl ⟨p, HP.out, rfl⟩, F2.out.then_only qf (.inr (by omega))⟩
        simp [results, Try.results35, go_sem, q0, q1]
  | true =>
    have hnm : n = m + 1 := by have := HNM.out; simpa using this
    have hmn : (m : Int) + 1 = (n : Int) := by omega
    have hmw : IntKind.i64.wrap (n : Int) = (n : Int) := IntWalk.i64_in _ (by omega)
    have hmw2 : IntKind.i64.wrap ((m : Int) + 1) = (n : Int) := by rw [hmn]; exact hmw
    clear hnm HNM
    go_upto_region 4 with fail
    have v0 : w1.cell? ⟨w.heap.size, 0, none⟩ = some (.string V.low) := BV1.out.cell' rfl
    have v1 : w1.cell? ⟨w.heap.size, 1, none⟩ = some (.string V.high) := BV1.out.cell' rfl
    have v2 : w1.cell? ⟨w.heap.size, 2, none⟩ = some (.bool V.unb) := BV1.out.cell' rfl
    have v3 : w1.cell? ⟨w.heap.size, 3, none⟩ = some (.int .i64 V.right) := BV1.out.cell' rfl
    have v4 : w1.cell? ⟨w.heap.size, 4, none⟩ = some (.slice A V.ents.length c) := BV1.out.cell' rfl
    have v5 : w1.cell? ⟨w.heap.size, 5, none⟩ = some (.bool V.held) := BV1.out.cell' rfl
    have v6 : w1.cell? ⟨w.heap.size, 6, none⟩ = some (.int .i64 V.hp) := BV1.out.cell' rfl
    have v7 : w1.cell? ⟨w.heap.size, 7, none⟩ = some (.int .i64 V.hl) := BV1.out.cell' rfl
    have v8 : w1.cell? ⟨w.heap.size, 8, none⟩ = some (.string V.hk) := BV1.out.cell' rfl
    go_wp2_with fail
    refine (vin_ok V _ key _ H1.out.ok.low H1.out.ok.high HK.out).mono ?_
    rintro e w2 ⟨rfl, hf2⟩
    rw [← HS.out]
    have BV2 := hid_ (BV1.out.fr hf2 id)
    have BO2 := hid_ (BO1.out.fr hf2 id)
    have H2 := hid_ (H1.out.keep hf2)
    have F2 := hid_ (F1.out.then_none hf2)
    clear hf2 v0 v1 v2 v3 v4 v5 v6 v7 v8
    have o0 : w2.cell? ⟨w.heap.size + 1, 0, none⟩ = some (.string nilS) := BO2.out.cell' rfl
    have o1 : w2.cell? ⟨w.heap.size + 1, 1, none⟩ = some (.int .i64 0) := BO2.out.cell' rfl
    have f0 := BO2.out.frozen 0
    have f1 := BO2.out.frozen 1
    cases s with
    | false =>
      go_wp2_with fail
      clear o0 o1 f0 f1
      obtain ⟨qb, qf⟩ := box2e BO2.out (.string nilS) (.int .i64 0)
      have q0 := qb.cell' (i := 0) rfl
      have q1 := qb.cell' (i := 1) rfl
      refine bodyPost_ret (v := .tuple #[.agg #[.string nilS, .int .i64 0], errV 2]) ?_ rfl ⟨.inr ⟨by rw [HCH.out]; rfl, rfl⟩, F2.out.then_only qf (.inr (by omega))⟩
      simp [results, Try.results35, go_sem, q0, q1]
    | true =>
      by_cases hn0 : n = 0
      · have hz : ((n : Int) == 0) = true := beq_iff_eq.2 (by omega)
        have HN0 := hid_ hn0
        clear hn0
        go_wp2_with fail
        clear o0 o1 f0 f1
        obtain ⟨qb, qf⟩ := box2e BO2.out (.string nilS) (.int .i64 0)
        have q0 := qb.cell' (i := 0) rfl
        have q1 := qb.cell' (i := 1) rfl
        refine bodyPost_ret (v := .tuple #[.agg #[.string nilS, .int .i64 0], errV 2]) ?_ rfl ⟨.inr ⟨by rw [HCH.out]; rw [HN0.out]; rfl, rfl⟩, F2.out.then_only qf (.inr (by omega))⟩
        simp [results, Try.results35, go_sem, q0, q1]
      · have hz : ((n : Int) == 0) = false := beq_eq_false_iff_ne.2 (by omega)
        obtain ⟨j, hj⟩ : ∃ j, j = n - 1 := ⟨_, rfl⟩
        obtain ⟨p, hp⟩ : ∃ p, V.ents[j]? = some p := ⟨_, List.getElem?_eq_getElem (by omega)⟩
        obtain ⟨b, off, rfl, hb, c0, c1⟩ := et_at H2.out.rd hp
        have v4 : w2.cell? ⟨w.heap.size, 4, none⟩ = some (.slice (some ⟨b, off, none⟩) V.ents.length c) := BV2.out.cell' rfl
        have hw1 : IntKind.i64.wrap ((n : Int) - 1) = (j : Int) := by rw [show (n : Int) - 1 = (j : Int) by omega]; exact IntWalk.i64_in _ (by omega)
        have hnj : (n : Int) - 1 = (j : Int) := by omega
        have hj0 : (0 : Int) ≤ (j : Int) := Int.natCast_nonneg _
        have hj1 : (j : Int) < (V.ents.length : Int) := by omega
        have HP : Hid (childM V key = some p) := hid_ (by rw [HCH.out, if_pos ⟨rfl, hn0⟩, ← hj]; exact hp)
        clear hp hj hn0
        go_wp2_with fail
        clear o0 o1 f0 f1 c0 c1 v4
        obtain ⟨qb, qf⟩ := box2e BO2.out (.string p.1) (.int .i64 p.2)
        have q0 := qb.cell' (i := 0) rfl
        have q1 := qb.cell' (i := 1) rfl
        refine bodyPost_ret (v := .tuple #[.agg #[.string p.1, .int .i64 p.2], .nilIface]) ?_ rfl ⟨.inl ⟨p, HP.out, rfl⟩, F2.out.then_only qf (.inr (by omega))⟩
        simp [results, Try.results35, go_sem, q0, q1]
end Go.Proofs.Ytpjbncbmdfmlpaa
namespace Go.Proofs.Ytpjbncbmdfmlpaa
open Go.RowKit Go.BigFrame
set_option maxRecDepth 100000
set_option linter.unusedVariables false

/-- No entry behind the first, ahead of k, is of that page. -/
def NB (V : Vw) (page : Int) (k : Nat) : Prop := ∀ (j : Nat) (p : Et), 1 ≤ j → j < k → V.ents[j]? = some p → p.2 ≠ page
theorem NB.one (V : Vw) (page : Int) {k : Nat} (h : k ≤ 1) : NB V page k := fun j p h1 h2 _ => by omega
theorem NB.next {V : Vw} {page : Int} {k : Nat} (h : NB V page k) {q : Et} (hq : V.ents[k]? = some q) (hp : q.2 ≠ page) : NB V page (k + 1) := fun j p h1 h2 hj => by
  rcases Nat.lt_succ_iff_lt_or_eq.1 h2 with h3 | rfl
  · exact h j p h1 h3 hj
  · obtain rfl := Option.some.inj (hq.symm.trans hj)
    exact hp
def HoldIs (V : Vw) (page : Int) (o : Option (Int × Int × ByteArray)) : Prop :=
  (NB V page V.ents.length ∧ o = none) ∨ ∃ (i : Nat) (l q : Et), V.ents[i]? = some l ∧ V.ents[i + 1]? = some q ∧ q.2 = page ∧ NB V page (i + 1) ∧ o = some (q.2, l.2, q.1)
theorem HoldIs.uniq {V : Vw} {page : Int} {o o' : Option (Int × Int × ByteArray)} (h : HoldIs V page o) (h' : HoldIs V page o') : o = o' := by
  rcases h with ⟨hn, rfl⟩ | ⟨i, l, q, h1, h2, h3, h4, rfl⟩
  · rcases h' with ⟨_, rfl⟩ | ⟨i, l, q, h1, h2, h3, h4, rfl⟩
    · rfl
    · exact absurd h3 (hn (i + 1) q (by omega) (List.getElem?_eq_some_iff.1 h2).1 h2)
  · rcases h' with ⟨hn, rfl⟩ | ⟨j, l', q', g1, g2, g3, g4, rfl⟩
    · exact absurd h3 (hn (i + 1) q (by omega) (List.getElem?_eq_some_iff.1 h2).1 h2)
    · have hij : i = j := by
        rcases Nat.lt_trichotomy i j with h | h | h
        · exact absurd h3 (g4 (i + 1) q (by omega) (by omega) h2)
        · exact h
        · exact absurd g3 (h4 (j + 1) q' (by omega) (by omega) g2)
      subst hij
      obtain rfl := Option.some.inj (h1.symm.trans g1)
      obtain rfl := Option.some.inj (h2.symm.trans g2)
      rfl
def HoldPost2 (V : Vw) (page : Int) (w : World) (e : Ending) (w' : World) : Prop :=
  ((HoldIs V page none ∧ e = .returned (.tuple #[.agg #[.int .i64 0, .int .i64 0, .string nilS], errV 6])) ∨
   ∃ a b c, HoldIs V page (some (a, b, c)) ∧ e = .returned (.tuple #[.agg #[.int .i64 a, .int .i64 b, .string c], .nilIface])) ∧ Fr none_ w w'
theorem box3h {w1 : World} {b : Nat} {t : TypeId} {c0 c1 c2 : Value} (h : Blk w1 b t #[c0, c1, c2]) (x0 x1 x2 : Value) : Blk (((w1.setCell ⟨b, 0, none⟩ x0).setCell ⟨b, 1, none⟩ x1).setCell ⟨b, 1 + 1, none⟩ x2) b t #[x0, x1, x2] ∧ Fr (only b) w1 (((w1.setCell ⟨b, 0, none⟩ x0).setCell ⟨b, 1, none⟩ x1).setCell ⟨b, 1 + 1, none⟩ x2) :=
  ⟨((h.set_ 0 x0).set_ 1 x1).set_ 2 x2, (((Fr.refl (only b) w1).setCell (p := ⟨b, 0, none⟩) (.inl (Eq.refl _)) x0).setCell (p := ⟨b, 1, none⟩) (.inl (Eq.refl _)) x1).setCell (p := ⟨b, 1 + 1, none⟩) (.inl (Eq.refl _)) x2⟩
set_option maxHeartbeats 4000000 in
theorem hold4_nb (V : Vw) (page : Int) (A : Option Addr) (c : Nat) (w : World) (h : VwIn w V A c) (hl : V.ents.length ≤ 2000) :
    Calls Try.prog 102 #[vwV V (.slice A V.ents.length c), .int .i64 page] w (HoldPost2 V page w) := by
  obtain ⟨w0, hw0⟩ : ∃ z, z = (w.alloc (.cells (vwA V (.slice A V.ents.length c)) 43)).alloc (.cells #[.int .i64 0, .int .i64 0, .string nilS] 41) := ⟨_, rfl⟩
  have f0 : Fr none_ w w0 := by rw [hw0]; exact ((Fr.refl none_ w).alloc _).alloc _
  have BV : Hid (Blk w0 w.heap.size 43 (vwA V (.slice A V.ents.length c))) := hid_ (by rw [hw0]; exact (Blk.new w _ _).alloc _)
  have BH : Hid (Blk w0 (w.heap.size + 1) 41 #[.int .i64 0, .int .i64 0, .string nilS]) := hid_ (by rw [hw0]; exact Blk.new7 _ _ (by simp))
  have F0 := hid_ f0
  have HI := hid_ (h.keep f0)
  have v4 : w0.cell? ⟨w.heap.size, 4, none⟩ = some (.slice A V.ents.length c) := BV.out.cell' rfl
  clear f0 h
  go_enter Try.func102, Try.ntmps102
  go_upto_region 1 with fail
  change Code.wp _ _ _ _ ((w.alloc (.cells (vwA V (.slice A V.ents.length c)) 43)).alloc (.cells #[.int .i64 0, .int .i64 0, .string nilS] 41))
  rw [← hw0]
  clear hw0
  go_step3
  go_wp2_with fail
  go_step3
  go_wp2_with fail
  go_loopw [6, 12] (fun a i wr => ∃ k : Nat, k ≤ V.ents.length ∧ i = .int .i64 k ∧ a = .int .i64 0 ∧ NB V page k ∧ Fr none_ w0 wr) (fun _ i _ => V.ents.length - (intOf i).toNat)
  case atStart => exact ⟨0, Nat.zero_le _, rfl, rfl, NB.one V page (by omega), Fr.refl _ _⟩
  case round =>
    obtain ⟨k, hk, rfl, rfl, hnb, hfr⟩ := hrel
    have HNB := hid_ hnb
    clear hnb
    have FR := hid_ hfr
    have hi0 : (0 : Int) ≤ (k : Int) := Int.natCast_nonneg _
    have hrs := hfr.size
    clear hfr v4
    by_cases hlt : k < V.ents.length
    · obtain ⟨q, hq⟩ : ∃ q, V.ents[k]? = some q := ⟨_, List.getElem?_eq_getElem hlt⟩
      have HQ := hid_ hq
      obtain ⟨b, off, rfl, hb, d0, d1⟩ := et_at (HI.out.rd.none_fr FR.out) hq
      have hi1 : (k : Int) < (V.ents.length : Int) := by omega
      clear hq
      rcases Nat.eq_zero_or_pos k with h0 | h0
      · subst h0
        simp only [Nat.zero_mul, Nat.add_zero] at d0 d1
        go_wp2_with fail
        go_roundw
        case rel => exact ⟨1, by omega, by go_num, rfl, NB.one V page (by omega), FR.out.alloc _⟩
        case measure => simp [intOf]; omega
      · have hd0 : decide ((0 : Int) < (k : Int)) = true := by simp; omega
        by_cases hp : q.2 = page
        · have hd1 : (q.2 == page) = true := by simpa using hp
          have HP := hid_ hp
          have hk0 : ((k : Int) == 0) = false := by simp; omega
          have hkm : IntKind.i64.wrap ((k : Int) - 1) = ((k - 1 : Nat) : Int) := by rw [IntWalk.i64_in _ (by omega)]; omega
          obtain ⟨l, hl2⟩ : ∃ l, V.ents[k - 1]? = some l := ⟨_, List.getElem?_eq_getElem (by omega)⟩
          have HL := hid_ hl2
          clear hp hl2
          go_upto_region 10 with fail
          obtain ⟨w1, hw1⟩ : ∃ z, z = wr.alloc (.cells #[.string q.1, .int .i64 q.2] 64) := ⟨_, rfl⟩
          have f1 : Fr none_ wr w1 := by rw [hw1]; exact (Fr.refl none_ wr).alloc _
          have G1 := hid_ (FR.out.then_none f1)
          rw [← hw1]
          have v4 : w1.cell? ⟨w.heap.size, 4, none⟩ = some (.slice (some ⟨b, off, none⟩) V.ents.length c) := (BV.out.fr G1.out id).cell' rfl
          have e0 : w1.cell? ⟨b, off + k * 2, none⟩ = some (.string q.1) := cellFr d0 f1
          obtain ⟨b', off', e', hb', l0, l1⟩ := et_at (HI.out.rd.none_fr G1.out) HL.out
          cases e'
          have hi3 : ((k - 1 : Nat) : Int) < (V.ents.length : Int) := by omega
          have hi4 : (0 : Int) ≤ ((k - 1 : Nat) : Int) := Int.natCast_nonneg _
          have BH1 := hid_ (BH.out.fr G1.out id)
          clear hw1 f1 d0 d1 hd0 hd1 hk0 l0
          have hS1 : (fun w' : World => Fr none_ w1 w') w1.drew := (Fr.refl none_ w1).drew
          refine wp_region_U (m := 15) (S := fun w' : World => Fr none_ w1 w') (by kernel_rfl) ?_
          refine wpAnyU_take2 (i := 0) (v := _) rfl (by kernel_rfl) (by kernel_rfl) (by kernel_rfl) (by kernel_rfl) (fun _ _ _ h => h) (.inl ⟨by kernel_rfl, fun w' hS => by go_simp; rfl⟩) hS1 ?_
          refine wpAnyU_take2 (i := 1) (v := _) rfl (by kernel_rfl) (by kernel_rfl) (by kernel_rfl) (by kernel_rfl) (fun _ _ _ h => h) (.inl ⟨by kernel_rfl, fun w' hS => by go_simp; rfl⟩) hS1 ?_
          refine wpAnyU_take2 (i := 2) (v := _) rfl (by kernel_rfl) (by kernel_rfl) (by kernel_rfl) (by kernel_rfl) (fun _ _ _ h => h) (.inl ⟨by kernel_rfl, fun w' hS => by have s_ := cellFr v4 hS; go_simp; rfl⟩) hS1 ?_
          refine wpAnyU_take2 (i := 3) (v := _) rfl (by kernel_rfl) (by kernel_rfl) (by kernel_rfl) (by kernel_rfl) (fun _ _ _ h => h) (.inl ⟨by kernel_rfl, fun w' hS => by go_simp; rfl⟩) hS1 ?_
          refine wpAnyU_take2 (i := 4) (v := _) rfl (by kernel_rfl) (by kernel_rfl) (by kernel_rfl) (by kernel_rfl) (fun _ _ _ h => h) (.inl ⟨by kernel_rfl, fun w' hS => by go_simp; rfl⟩) hS1 ?_
          refine wpAnyU_take2 (i := 5) (v := _) rfl (by kernel_rfl) (by kernel_rfl) (by kernel_rfl) (by kernel_rfl) (fun _ _ _ h => h) (.inl ⟨by kernel_rfl, fun w' hS => by go_simp; rfl⟩) hS1 ?_
          refine wpAnyU_take2 (i := 6) (v := _) rfl (by kernel_rfl) (by kernel_rfl) (by kernel_rfl) (by kernel_rfl) (fun _ _ _ h => h) (.inl ⟨by kernel_rfl, fun w' hS => by go_simp; rfl⟩) hS1 ?_
          refine wpAnyU_take2 (i := 7) (v := _) rfl (by kernel_rfl) (by kernel_rfl) (by kernel_rfl) (by kernel_rfl) (fun _ _ _ h => h) (.inl ⟨by kernel_rfl, fun w' hS => by have s_ := cellFr l1 hS; go_simp; rfl⟩) hS1 ?_
          refine wpAnyU_take2 (i := 8) (v := _) rfl (by kernel_rfl) (by kernel_rfl) (by kernel_rfl) (by kernel_rfl) (fun _ _ _ h => h) (.inl ⟨by kernel_rfl, fun w' hS => by go_simp; rfl⟩) hS1 ?_
          refine wpAnyU_take2 (i := 9) (v := _) rfl (by kernel_rfl) (by kernel_rfl) (by kernel_rfl) (by kernel_rfl) (fun _ _ _ h => h) (.inl ⟨by kernel_rfl, fun w' hS => by have s_ := cellFr v4 hS; go_simp; rfl⟩) hS1 ?_
          refine wpAnyU_take2 (i := 10) (v := _) rfl (by kernel_rfl) (by kernel_rfl) (by kernel_rfl) (by kernel_rfl) (fun _ _ _ h => h) (.inl ⟨by kernel_rfl, fun w' hS => by go_simp; rfl⟩) hS1 ?_
          refine wpAnyU_take2 (i := 11) (v := _) rfl (by kernel_rfl) (by kernel_rfl) (by kernel_rfl) (by kernel_rfl) (fun _ _ _ h => h) (.inl ⟨by kernel_rfl, fun w' hS => by go_simp; rfl⟩) hS1 ?_
          refine wpAnyU_take2 (i := 12) (v := _) rfl (by kernel_rfl) (by kernel_rfl) (by kernel_rfl) (by kernel_rfl) (fun _ _ _ h => h) (.inl ⟨by kernel_rfl, fun w' hS => by go_simp; rfl⟩) hS1 ?_
          refine wpAnyU_take2 (i := 13) (v := _) rfl (by kernel_rfl) (by kernel_rfl) (by kernel_rfl) (by kernel_rfl) (fun _ _ _ h => h) (.inl ⟨by kernel_rfl, fun w' hS => by have s_ := cellFr e0 hS; go_simp; rfl⟩) hS1 ?_
          refine wpAnyU_take2 (i := 14) (v := _) rfl (by kernel_rfl) (by kernel_rfl) (by kernel_rfl) (by kernel_rfl) (fun _ _ _ h => h) (.inl ⟨by kernel_rfl, fun w' hS => by go_simp; rfl⟩) hS1 ?_
          have y0 := BH1.out.frozen 0
          have y1 := BH1.out.frozen 1
          have y2 := BH1.out.frozen 2
          have c0 : w1.cell? ⟨w.heap.size + 1, 0, none⟩ = some (.int .i64 0) := BH1.out.cell' rfl
          have c1 : w1.cell? ⟨w.heap.size + 1, 1, none⟩ = some (.int .i64 0) := BH1.out.cell' rfl
          have c2 : w1.cell? ⟨w.heap.size + 1, 2, none⟩ = some (.string nilS) := BH1.out.cell' rfl
          refine wpAnyU_one7 (i := 15) rfl (by kernel_rfl) (by kernel_rfl) ?_
          go_simp
          clear y0 y1 y2 c0 c1 c2 v4 e0 l1 hi3 hi4 hkm hi0 hi1
          obtain ⟨qb, qf⟩ := box3h BH1.out (.int .i64 page) (.int .i64 l.2) (.string q.1)
          obtain ⟨w2, hw2⟩ : ∃ z, z = (((w1.setCell ⟨w.heap.size + 1, 0, none⟩ (.int .i64 page)).setCell ⟨w.heap.size + 1, 1, none⟩ (.int .i64 l.2)).setCell ⟨w.heap.size + 1, 2, none⟩ (.string q.1)).drew := ⟨_, rfl⟩
          have qb2 : Blk w2 (w.heap.size + 1) 41 #[.int .i64 page, .int .i64 l.2, .string q.1] := by rw [hw2]; exact qb.drew
          have qf2 : Fr (only (w.heap.size + 1)) w1 w2 := by rw [hw2]; exact qf.drew
          rw [← hw2]
          clear hw2 qb qf
          have q0 := qb2.cell' (i := 0) rfl
          have q1 := qb2.cell' (i := 1) rfl
          have q2 := qb2.cell' (i := 2) rfl
          refine wpAnyU_one7 (i := 16) rfl (by kernel_rfl) (by kernel_rfl) ?_
          go_simp
          refine wpAnyU_done (by kernel_rfl) ?_ _
          go_wp2_with fail
          have hqk : V.ents[(k - 1) + 1]? = some q := by rw [show k - 1 + 1 = k by omega]; exact HQ.out
          refine bodyPost_ret (v := .tuple #[.agg #[.int .i64 page, .int .i64 l.2, .string q.1], .nilIface]) ?_ rfl ⟨.inr ⟨page, l.2, q.1, .inr ⟨k - 1, l, q, HL.out, hqk, HP.out, by rw [show k - 1 + 1 = k by omega]; exact HNB.out, by rw [HP.out]⟩, rfl⟩, (F0.out.then_none G1.out).then_only qf2 (.inr (by omega))⟩
          simp [results, Try.results102, go_sem, q0, q1, q2]
        · have hd1 : (q.2 == page) = false := by simpa using hp
          have HX := hid_ (HNB.out.next HQ.out hp)
          clear hp
          go_wp2_with fail
          go_roundw
          case rel => exact ⟨k + 1, by omega, by go_num, rfl, HX.out, FR.out.alloc _⟩
          case measure => simp [intOf]; omega
    · obtain rfl : k = V.ents.length := by omega
      have BR := hid_ (BH.out.fr FR.out id)
      have y0 := BR.out.frozen 0
      have y1 := BR.out.frozen 1
      have y2 := BR.out.frozen 2
      have c0 : wr.cell? ⟨w.heap.size + 1, 0, none⟩ = some (.int .i64 0) := BR.out.cell' rfl
      have c1 : wr.cell? ⟨w.heap.size + 1, 1, none⟩ = some (.int .i64 0) := BR.out.cell' rfl
      have c2 : wr.cell? ⟨w.heap.size + 1, 2, none⟩ = some (.string nilS) := BR.out.cell' rfl
      go_wp2_with fail
      clear y0 y1 y2 c0 c1 c2
      obtain ⟨qb, qf⟩ := box3h BR.out (.int .i64 0) (.int .i64 0) (.string nilS)
      have q0 := qb.cell' (i := 0) rfl
      have q1 := qb.cell' (i := 1) rfl
      have q2 := qb.cell' (i := 2) rfl
      refine bodyPost_ret (v := .tuple #[.agg #[.int .i64 0, .int .i64 0, .string nilS], errV 6]) ?_ rfl ⟨.inl ⟨.inl ⟨HNB.out, rfl⟩, rfl⟩, (F0.out.then_none FR.out).then_only qf (.inr (by omega))⟩
      simp [results, Try.results102, go_sem, q0, q1, q2]
end Go.Proofs.Ytpjbncbmdfmlpaa
namespace Go.Proofs.Ytpjbncbmdfmlpaa
open Go.RowKit Go.BigFrame
set_option maxRecDepth 100000
set_option linter.unusedVariables false

set_option maxHeartbeats 2000000 in
theorem before_ok (a b : ByteArray) (w : World) (ha : a.size ≤ 9000000000000000000) (hb : b.size ≤ 9000000000000000000) :
    Calls Try.prog 74 #[.string a, .string b] w fun e w' => e = .returned (.bool (ltS a b)) ∧ ∃ n, w' = w.drewN n := by
  go_enter Try.func74, Try.ntmps74
  go_wp2_with fail
  go_loopw [5] (fun i wr => ∃ k : Nat, k ≤ a.size ∧ k ≤ b.size ∧ i = .int .i64 k ∧ (∀ j, j < k → a.data.toList[j]? = b.data.toList[j]?) ∧ ∃ q, wr = w.drewN q) (fun i _ => b.size - (intOf i).toNat)
  case atStart => exact ⟨0, Nat.zero_le _, Nat.zero_le _, rfl, fun j hj => by omega, 0, rfl⟩
  case round =>
    obtain ⟨k, hka', hkb', rfl, hall, q, rfl⟩ := hrel
    have HA := hid_ hall
    have hi0 : (0 : Int) ≤ (k : Int) := Int.natCast_nonneg _
    clear hall
    by_cases hlb : k < b.size
    · have hib : (k : Int) < (b.size : Int) := by omega
      by_cases hla : k = a.size
      · have hz : ((k : Int) == (a.size : Int)) = true := beq_iff_eq.2 (by omega)
        have HE : Hid (ltS a b = true) := hid_ (lt_of_end (by rw [ba_len]; exact (cpL_is HA.out (by rw [ba_len]; omega) (by rw [ba_len]; omega) (.inl (by rw [ba_len]; exact hla))).trans hla) (by rw [ba_len, ba_len]; omega))
        clear hla
        go_wp2_with fail
        go_ret
        refine ⟨by rw [HE.out]; rfl, ?_⟩
        first | exact ⟨_, rfl⟩ | exact ⟨_, drewN_drewN _ _ _⟩
      · have hz : ((k : Int) == (a.size : Int)) = false := beq_eq_false_iff_ne.2 (by omega)
        have hka : k < a.size := by omega
        have hkb : k < b.size := hlb
        have hia : (k : Int) < (a.size : Int) := by omega
        clear hla
        by_cases he : a[k] = b[k]
        · have hne : ((a[k].toNat : Int) != (b[k].toNat : Int)) = false := by rw [he]; simp
          have HS : Hid (∀ j, j < k + 1 → a.data.toList[j]? = b.data.toList[j]?) := hid_ (fun j hj => by
            rcases Nat.lt_succ_iff_lt_or_eq.1 hj with h | rfl
            · exact HA.out j h
            · rw [ba_get hka, ba_get hkb, he])
          clear he
          go_wp2_with fail
          go_quiet (fail)
          go_wp2_with fail
          go_roundw
          case rel => exact ⟨k + 1, by omega, by omega, by go_num, HS.out, _, by first | rfl | exact drewN_drewN _ _ _⟩
          case measure => simp [intOf]; omega
        · have hne : ((a[k].toNat : Int) != (b[k].toNat : Int)) = true := by
            rw [bne_iff_ne]
            intro e
            exact he (u8_eq (by omega))
          have hcp : cpL a.data.toList b.data.toList = k := cpL_is HA.out (by rw [ba_len]; omega) (by rw [ba_len]; omega) (.inr (.inr ⟨a[k], b[k], ba_get hka, ba_get hkb, he⟩))
          have HE : Hid (decide (a[k].toNat < b[k].toNat) = ltS a b) := hid_ (by
            by_cases hlt : a[k].toNat < b[k].toNat
            · have : ltS a b = true := lt_of_stop (a := a[k]) (b := b[k]) (by rw [hcp]; exact ba_get hka) (by rw [hcp]; exact ba_get hkb) hlt
              rw [this]; simp [hlt]
            · have h2 : b[k].toNat < a[k].toNat := by
                have : a[k].toNat ≠ b[k].toNat := fun e => he (u8_eq e)
                omega
              have : ltS b a = true := lt_of_stop (a := b[k]) (b := a[k]) (by rw [cp_comm, hcp]; exact ba_get hkb) (by rw [cp_comm, hcp]; exact ba_get hka) h2
              rw [ltS_asymm this]; simp [hlt])
          clear he hcp
          go_wp2_with fail
          go_quiet (fail)
          go_wp2_with fail
          go_quiet (fail)
          go_wp2_with fail
          go_ret
          refine ⟨by rw [← HE.out]; rfl, ?_⟩
          first | exact ⟨_, rfl⟩ | exact ⟨_, drewN_drewN _ _ _⟩ | (simp only [drewN_drewN]; exact ⟨_, rfl⟩)
    · obtain rfl : k = b.size := by omega
      have HE : Hid (ltS a b = false) := hid_ (by
        cases h : ltS a b with
        | false => rfl
        | true =>
          have hcp : cpL a.data.toList b.data.toList = b.size := cpL_is HA.out (by rw [ba_len]; omega) (by rw [ba_len]; omega) (.inr (.inl (by rw [ba_len])))
          rcases Nat.lt_or_ge b.size a.size with h1 | h1
          · have : ltS b a = true := lt_of_end (by rw [cp_comm, hcp, ba_len]) (by rw [ba_len, ba_len]; exact h1)
            rw [ltS_asymm this] at h; cases h
          · have he : a = b := ba_eq (eq_of_cp (by rw [hcp, ba_len]; omega) (by rw [hcp, ba_len]))
            rw [he, ltS_irrefl] at h; cases h)
      go_wp2_with fail
      go_ret
      refine ⟨by rw [HE.out]; rfl, ?_⟩
      first | exact ⟨_, rfl⟩ | exact ⟨_, drewN_drewN _ _ _⟩
set_option maxHeartbeats 1000000 in
theorem rin_ok (low high : ByteArray) (unb : Bool) (key : ByteArray) (w : World) (h1 : low.size ≤ 9000000000000000000) (h2 : high.size ≤ 9000000000000000000) (h3 : key.size ≤ 9000000000000000000) :
    Calls Try.prog 73 #[.string low, .string high, .bool unb, .string key] w fun e w' => e = .returned (.bool (inS low high unb key)) ∧ ∃ n, w' = w.drewN n := by
  have HE : ∀ b, ltS key low = b → inS low high unb key = (!b && (unb || ltS key high)) := fun b hb => by rw [← hb]; rfl
  have H := hid_ HE
  clear HE
  cases ha : ltS key low with
  | true =>
    have HA := hid_ ha
    clear ha
    go_enter Try.func73, Try.ntmps73
    go_wp2_with fail
    refine (before_ok key low _ h3 h1).mono ?_
    rintro e w1 ⟨rfl, q, rfl⟩
    rw [HA.out]
    go_wp2_with fail
    go_ret
    exact ⟨by rw [H.out true HA.out]; rfl, _, rfl⟩
  | false =>
    have HA := hid_ ha
    clear ha
    cases unb with
    | true =>
      go_enter Try.func73, Try.ntmps73
      go_wp2_with fail
      refine (before_ok key low _ h3 h1).mono ?_
      rintro e w1 ⟨rfl, q, rfl⟩
      rw [HA.out]
      go_wp2_with fail
      go_ret
      exact ⟨by rw [H.out false HA.out]; rfl, _, rfl⟩
    | false =>
      go_enter Try.func73, Try.ntmps73
      go_wp2_with fail
      refine (before_ok key low _ h3 h1).mono ?_
      rintro e w1 ⟨rfl, q, rfl⟩
      rw [HA.out]
      go_wp2_with fail
      refine (before_ok key high _ h3 h2).mono ?_
      rintro e w2 ⟨rfl, q2, rfl⟩
      go_wp2_with fail
      go_ret
      exact ⟨by rw [H.out false HA.out]; simp, _, by first | rfl | exact drewN_drewN _ _ _⟩
theorem rvin_ok (V : Vw) (ve : Value) (key : ByteArray) (w : World) (h1 : SzOk V.low) (h2 : SzOk V.high) (h3 : SzOk key) :
    Calls Try.prog 98 #[vwV V ve, .string key] w fun e w' => e = .returned (.bool (inS V.low V.high V.unb key)) ∧ Fr none_ w w' := by
  have F0 := hid_ ((Fr.refl none_ w).alloc (.cells (vwA V ve) 66))
  have H := hid_ (And.intro h1 (And.intro h2 h3))
  clear h1 h2 h3
  go_enter Try.func98, Try.ntmps98
  go_wp2_with fail
  refine (rin_ok V.low V.high V.unb key _ H.out.1.le H.out.2.1.le H.out.2.2.le).mono ?_
  rintro e w1 ⟨rfl, q, rfl⟩
  go_wp2
  go_ret
  exact ⟨rfl, F0.out.drewN q⟩
/-- Do the keys rise? -/
def Rising (L : List Et) : Prop := ∀ (j : Nat) (p q : Et), L[j]? = some p → L[j + 1]? = some q → ltS p.1 q.1 = true
/-- At's answer. -/
def AtIs (L : List Et) (key : ByteArray) (k : Int) : Prop := (∃ (i : Nat) (p : Et), k = (i : Int) ∧ L[i]? = some p ∧ p.1 = key) ∨ (k = -1 ∧ ∀ (i : Nat) (p : Et), L[i]? = some p → p.1 ≠ key)
set_option maxHeartbeats 2000000 in
theorem rat_ok (V : Vw) (A : Option Addr) (c : Nat) (key : ByteArray) (w : World) (h : VwIn w V A c) : Calls Try.prog 75 #[vwV V (.slice A V.ents.length c), .string key] w fun e w' => ∃ k : Int, e = .returned (.int .i64 k) ∧ AtIs V.ents key k ∧ Fr none_ w w' := by
  obtain ⟨w0, hw0⟩ : ∃ z, z = w.alloc (.cells (vwA V (.slice A V.ents.length c)) 66) := ⟨_, rfl⟩
  have f0 : Fr none_ w w0 := by rw [hw0]; exact (Fr.refl none_ w).alloc _
  have BV : Hid (Blk w0 w.heap.size 66 (vwA V (.slice A V.ents.length c))) := hid_ (by rw [hw0]; exact Blk.new w _ _)
  have F0 := hid_ f0
  have HI := hid_ (h.keep f0)
  have h1000 := h.ok.ents.1
  clear h f0
  go_enter Try.func75, Try.ntmps75
  go_upto_region 1 with fail
  change Code.wp _ _ _ _ (w.alloc (.cells (vwA V (.slice A V.ents.length c)) 66))
  rw [← hw0]
  clear hw0
  go_wp2_with fail
  go_loopw [5] (fun i wr => ∃ k : Nat, k ≤ V.ents.length ∧ i = .int .i64 k ∧ (∀ (j : Nat) (p : Et), j < k → V.ents[j]? = some p → p.1 ≠ key) ∧ w0 = wr) (fun i _ => V.ents.length - (intOf i).toNat)
  case atStart => exact ⟨0, Nat.zero_le _, rfl, fun j p hj => by omega, rfl⟩
  case round =>
    obtain ⟨k, hk, rfl, hall, rfl⟩ := hrel
    have HA := hid_ hall
    have hi0 : (0 : Int) ≤ (k : Int) := Int.natCast_nonneg _
    have v4 : w0.cell? ⟨w.heap.size, 4, none⟩ = some (.slice A V.ents.length c) := BV.out.cell' rfl
    clear hall
    by_cases hlt : k < V.ents.length
    · obtain ⟨q, hq⟩ : ∃ q, V.ents[k]? = some q := ⟨_, List.getElem?_eq_getElem hlt⟩
      have HQ := hid_ hq
      obtain ⟨b, off, rfl, hb, d0, d1⟩ := et_at HI.out.rd hq
      have hi1 : (k : Int) < (V.ents.length : Int) := by omega
      clear hq d1
      cases hc : sEq q.1 key with
      | true =>
        have hd : (q.1.toList == key.toList) = true := hc
        have HC := hid_ (sEq_iff.1 hc)
        clear hc
        go_wp2_with fail
        go_ret
        exact ⟨(k : Int), rfl, .inl ⟨k, q, rfl, HQ.out, HC.out⟩, F0.out⟩
      | false =>
        have hd : (q.1.toList == key.toList) = false := hc
        have HC : Hid (q.1 ≠ key) := hid_ (fun e => by rw [sEq_iff.2 e] at hc; cases hc)
        clear hc
        go_wp2_with fail
        go_roundw
        case rel =>
          refine ⟨k + 1, by omega, by go_num, fun j p hj hp => ?_, by first | rfl | trivial⟩
          rcases Nat.lt_succ_iff_lt_or_eq.1 hj with h | rfl
          · exact HA.out j p h hp
          · obtain rfl := Option.some.inj (HQ.out.symm.trans hp)
            exact HC.out
        case measure => simp [intOf]; omega
    · have hi1 : ¬ (k : Int) < (V.ents.length : Int) := by omega
      go_wp2_with fail
      go_ret
      exact ⟨-1, rfl, .inr ⟨rfl, fun j p hp => HA.out j p (by have := (List.getElem?_eq_some_iff.1 hp).1; omega) hp⟩, F0.out⟩
/-- How many entries ahead are not behind a key. -/
def rdN : List Et → ByteArray → Nat
  | [], _ => 0
  | p :: t, key => if ltS key p.1 = false then rdN t key + 1 else 0
theorem rdN_is : ∀ {L : List Et} {key : ByteArray} {k : Nat}, k ≤ L.length → (∀ (j : Nat) (p : Et), j < k → L[j]? = some p → ltS key p.1 = false) → (∀ p, L[k]? = some p → ltS key p.1 = true) → rdN L key = k
  | [], key, k, hk, _, _ => by simp at hk; simp [rdN, hk]
  | q :: t, key, 0, _, _, h => by simp [rdN, h q rfl]
  | q :: t, key, k + 1, hk, h1, h2 => by
    rw [rdN, if_pos (h1 0 q (by omega) rfl), rdN_is (k := k) (by simpa using hk) (fun j p hj hp => h1 (j + 1) p (by omega) (by simpa using hp)) (fun p hp => h2 p (by simpa using hp))]
theorem Rising.tail {q : Et} {t : List Et} (h : Rising (q :: t)) : Rising t := fun j p r hp hr => h (j + 1) p r (by simpa using hp) (by simpa using hr)
theorem Rising.behind {q : Et} : ∀ {t : List Et}, Rising (q :: t) → ∀ p ∈ t, ltS q.1 p.1 = true
  | [], _, p, hp => by cases hp
  | r :: t, h, p, hp => by
    have h0 : ltS q.1 r.1 = true := h 0 q r rfl rfl
    rcases List.mem_cons.1 hp with rfl | hp
    · exact h0
    · exact ltS_trans h0 (Rising.behind h.tail p hp)
/-- Where keys rise, both ways of looking tell the same. -/
theorem ndN_rising : ∀ {L : List Et} {key : ByteArray}, Rising L → ndN L key = rdN L key
  | [], key, _ => rfl
  | q :: t, key, h => by
    have ih := ndN_rising (key := key) h.tail
    unfold ndN at ih ⊢
    rw [rdN, plN]
    rcases ltS_total q.1 key with h1 | h1 | h1
    · rw [if_pos h1, if_pos (ltS_asymm h1)]
      have ha : atB (q :: t) key = atB t key := by
        unfold atB
        rw [plN, if_pos h1]
        simp
      rw [ha]
      omega
    · subst h1
      have h0 : ltS q.1 q.1 = false := ltS_irrefl _
      have hat : atB (q :: t) q.1 = true := by
        have hz : plN (q :: t) q.1 = 0 := by rw [plN, if_neg (by rw [h0]; simp)]
        rw [atB_some (p := q) (by rw [hz]; rfl)]
        exact sEq_iff.2 rfl
      have hr : rdN t q.1 = 0 := by
        cases t with
        | nil => rfl
        | cons r t => rw [rdN, if_neg (by rw [h.behind r (by simp)]; simp)]
      rw [h0, hat, hr]
      simp
    · have h2 := ltS_asymm h1
      have hz : plN (q :: t) key = 0 := by rw [plN, if_neg (by rw [h2]; simp)]
      have hat : atB (q :: t) key = false := by
        rw [atB_some (p := q) (by rw [hz]; rfl)]
        cases hs : sEq q.1 key with
        | false => rfl
        | true => rw [sEq_iff.1 hs, ltS_irrefl] at h1; cases h1
      simp [hat, h1, h2]
theorem at_mem : ∀ {L : List Et}, Rising L → ∀ {p : Et}, p ∈ L → atB L p.1 = true
  | [], _, p, hp => by cases hp
  | q :: t, h, p, hp => by
    rcases List.mem_cons.1 hp with rfl | hp
    · have hz : plN (p :: t) p.1 = 0 := by rw [plN, if_neg (by rw [ltS_irrefl]; simp)]
      rw [atB_some (p := p) (by rw [hz]; rfl)]
      exact sEq_iff.2 rfl
    · have h1 := h.behind p hp
      have ih := at_mem h.tail hp
      have ha : atB (q :: t) p.1 = atB t p.1 := by
        unfold atB
        rw [plN, if_pos h1]
        simp
      rw [ha]; exact ih
theorem at_rising {L : List Et} {key : ByteArray} {k : Int} (h : Rising L) (ha : AtIs L key k) : atB L key = decide (0 ≤ k) := by
  rcases ha with ⟨i, p, rfl, hp, rfl⟩ | ⟨rfl, hno⟩
  · have : (decide ((0 : Int) ≤ (i : Int))) = true := by simp
    rw [this]
    exact at_mem h (List.mem_of_getElem? hp)
  · show atB L key = false
    cases hc : atB L key with
    | false => rfl
    | true =>
      have hlt := atB_lt hc
      obtain ⟨p, hp⟩ : ∃ p, L[plN L key]? = some p := ⟨_, List.getElem?_eq_getElem hlt⟩
      rw [atB_some hp] at hc
      exact absurd (sEq_iff.1 hc) (hno _ p hp)
end Go.Proofs.Ytpjbncbmdfmlpaa
namespace Go.Proofs.Ytpjbncbmdfmlpaa
open Go.RowKit Go.BigFrame Go.ChangeShapes Go.WideShapes
set_option maxRecDepth 100000
set_option linter.unusedVariables false

def RHoldPost (V : Vw) (page : Int) (w : World) (e : Ending) (w' : World) : Prop :=
  ((HoldIs V page none ∧ e = .returned (.tuple #[.agg #[.int .i64 0, .int .i64 0, .string nilS], .int .i64 6])) ∨
   ∃ a b c, HoldIs V page (some (a, b, c)) ∧ e = .returned (.tuple #[.agg #[.int .i64 a, .int .i64 b, .string c], .int .i64 0])) ∧ Fr none_ w w'
set_option maxHeartbeats 4000000 in
theorem rhold_ok (V : Vw) (page : Int) (A : Option Addr) (c : Nat) (w : World) (h : VwIn w V A c) (hl : V.ents.length ≤ 1000) :
    Calls Try.prog 76 #[vwV V (.slice A V.ents.length c), .int .i64 page] w (RHoldPost V page w) := by
  obtain ⟨w0, hw0⟩ : ∃ z, z = (w.alloc (.cells (vwA V (.slice A V.ents.length c)) 66)).alloc (.cells #[.int .i64 0, .int .i64 0, .string nilS] 41) := ⟨_, rfl⟩
  have f0 : Fr none_ w w0 := by rw [hw0]; exact ((Fr.refl none_ w).alloc _).alloc _
  have BV : Hid (Blk w0 w.heap.size 66 (vwA V (.slice A V.ents.length c))) := hid_ (by rw [hw0]; exact (Blk.new w _ _).alloc _)
  have BH : Hid (Blk w0 (w.heap.size + 1) 41 #[.int .i64 0, .int .i64 0, .string nilS]) := hid_ (by rw [hw0]; exact Blk.new7 _ _ (by simp))
  have F0 := hid_ f0
  have HI := hid_ (h.keep f0)
  clear f0 h
  go_enter Try.func76, Try.ntmps76
  go_upto_region 1 with fail
  change Code.wp _ _ _ _ ((w.alloc (.cells (vwA V (.slice A V.ents.length c)) 66)).alloc (.cells #[.int .i64 0, .int .i64 0, .string nilS] 41))
  rw [← hw0]
  clear hw0
  go_wp2_with fail
  go_loopw [6] (fun i wr => ∃ k : Nat, 1 ≤ k ∧ k ≤ V.ents.length + 1 ∧ i = .int .i64 k ∧ NB V page k ∧ w0 = wr) (fun i _ => V.ents.length + 1 - (intOf i).toNat)
  case atStart => exact ⟨1, Nat.le_refl _, by omega, rfl, NB.one V page (Nat.le_refl _), rfl⟩
  case round =>
    obtain ⟨k, hk1, hk, rfl, hnb, rfl⟩ := hrel
    have HNB := hid_ hnb
    have hi0 : (0 : Int) ≤ (k : Int) := Int.natCast_nonneg _
    have v4 : w0.cell? ⟨w.heap.size, 4, none⟩ = some (.slice A V.ents.length c) := BV.out.cell' rfl
    clear hnb
    by_cases hlt : k < V.ents.length
    · obtain ⟨q, hq⟩ : ∃ q, V.ents[k]? = some q := ⟨_, List.getElem?_eq_getElem hlt⟩
      have HQ := hid_ hq
      obtain ⟨b, off, rfl, hb, d0, d1⟩ := et_at HI.out.rd hq
      have hi1 : (k : Int) < (V.ents.length : Int) := by omega
      clear hq
      by_cases hp : q.2 = page
      · have hd1 : (q.2 == page) = true := by simpa using hp
        have HP := hid_ hp
        have hkm : IntKind.i64.wrap ((k : Int) - 1) = ((k - 1 : Nat) : Int) := by rw [IntWalk.i64_in _ (by omega)]; omega
        obtain ⟨l, hl2⟩ : ∃ l, V.ents[k - 1]? = some l := ⟨_, List.getElem?_eq_getElem (by omega)⟩
        have HL := hid_ hl2
        obtain ⟨b', off', e', hb', l0, l1⟩ := et_at HI.out.rd hl2
        cases e'
        have hi3 : ((k - 1 : Nat) : Int) < (V.ents.length : Int) := by omega
        have hi4 : (0 : Int) ≤ ((k - 1 : Nat) : Int) := Int.natCast_nonneg _
        clear hp hl2 l0
        go_upto_region 5 with fail
        clear hd1 d1
        have hS1 : (fun w' : World => Fr none_ w0 w') w0.drew := (Fr.refl none_ w0).drew
        refine wp_region_U (m := 15) (S := fun w' : World => Fr none_ w0 w') (by kernel_rfl) ?_
        refine wpAnyU_take2 (i := 0) (v := _) rfl (by kernel_rfl) (by kernel_rfl) (by kernel_rfl) (by kernel_rfl) (fun _ _ _ h => h) (.inl ⟨by kernel_rfl, fun w' hS => by go_simp; rfl⟩) hS1 ?_
        refine wpAnyU_take2 (i := 1) (v := _) rfl (by kernel_rfl) (by kernel_rfl) (by kernel_rfl) (by kernel_rfl) (fun _ _ _ h => h) (.inl ⟨by kernel_rfl, fun w' hS => by go_simp; rfl⟩) hS1 ?_
        refine wpAnyU_take2 (i := 2) (v := _) rfl (by kernel_rfl) (by kernel_rfl) (by kernel_rfl) (by kernel_rfl) (fun _ _ _ h => h) (.inl ⟨by kernel_rfl, fun w' hS => by have s_ := cellFr v4 hS; go_simp; rfl⟩) hS1 ?_
        refine wpAnyU_take2 (i := 3) (v := _) rfl (by kernel_rfl) (by kernel_rfl) (by kernel_rfl) (by kernel_rfl) (fun _ _ _ h => h) (.inl ⟨by kernel_rfl, fun w' hS => by go_simp; rfl⟩) hS1 ?_
        refine wpAnyU_take2 (i := 4) (v := _) rfl (by kernel_rfl) (by kernel_rfl) (by kernel_rfl) (by kernel_rfl) (fun _ _ _ h => h) (.inl ⟨by kernel_rfl, fun w' hS => by go_simp; rfl⟩) hS1 ?_
        refine wpAnyU_take2 (i := 5) (v := _) rfl (by kernel_rfl) (by kernel_rfl) (by kernel_rfl) (by kernel_rfl) (fun _ _ _ h => h) (.inl ⟨by kernel_rfl, fun w' hS => by go_simp; rfl⟩) hS1 ?_
        refine wpAnyU_take2 (i := 6) (v := _) rfl (by kernel_rfl) (by kernel_rfl) (by kernel_rfl) (by kernel_rfl) (fun _ _ _ h => h) (.inl ⟨by kernel_rfl, fun w' hS => by go_simp; rfl⟩) hS1 ?_
        refine wpAnyU_take2 (i := 7) (v := _) rfl (by kernel_rfl) (by kernel_rfl) (by kernel_rfl) (by kernel_rfl) (fun _ _ _ h => h) (.inl ⟨by kernel_rfl, fun w' hS => by have s_ := cellFr l1 hS; go_simp; rfl⟩) hS1 ?_
        refine wpAnyU_take2 (i := 8) (v := _) rfl (by kernel_rfl) (by kernel_rfl) (by kernel_rfl) (by kernel_rfl) (fun _ _ _ h => h) (.inl ⟨by kernel_rfl, fun w' hS => by go_simp; rfl⟩) hS1 ?_
        refine wpAnyU_take2 (i := 9) (v := _) rfl (by kernel_rfl) (by kernel_rfl) (by kernel_rfl) (by kernel_rfl) (fun _ _ _ h => h) (.inl ⟨by kernel_rfl, fun w' hS => by have s_ := cellFr v4 hS; go_simp; rfl⟩) hS1 ?_
        refine wpAnyU_take2 (i := 10) (v := _) rfl (by kernel_rfl) (by kernel_rfl) (by kernel_rfl) (by kernel_rfl) (fun _ _ _ h => h) (.inl ⟨by kernel_rfl, fun w' hS => by go_simp; rfl⟩) hS1 ?_
        refine wpAnyU_take2 (i := 11) (v := _) rfl (by kernel_rfl) (by kernel_rfl) (by kernel_rfl) (by kernel_rfl) (fun _ _ _ h => h) (.inl ⟨by kernel_rfl, fun w' hS => by go_simp; rfl⟩) hS1 ?_
        refine wpAnyU_take2 (i := 12) (v := _) rfl (by kernel_rfl) (by kernel_rfl) (by kernel_rfl) (by kernel_rfl) (fun _ _ _ h => h) (.inl ⟨by kernel_rfl, fun w' hS => by go_simp; rfl⟩) hS1 ?_
        refine wpAnyU_take2 (i := 13) (v := _) rfl (by kernel_rfl) (by kernel_rfl) (by kernel_rfl) (by kernel_rfl) (fun _ _ _ h => h) (.inl ⟨by kernel_rfl, fun w' hS => by have s_ := cellFr d0 hS; go_simp; rfl⟩) hS1 ?_
        refine wpAnyU_take2 (i := 14) (v := _) rfl (by kernel_rfl) (by kernel_rfl) (by kernel_rfl) (by kernel_rfl) (fun _ _ _ h => h) (.inl ⟨by kernel_rfl, fun w' hS => by go_simp; rfl⟩) hS1 ?_
        have y0 := BH.out.frozen 0
        have y1 := BH.out.frozen 1
        have y2 := BH.out.frozen 2
        have c0 : w0.cell? ⟨w.heap.size + 1, 0, none⟩ = some (.int .i64 0) := BH.out.cell' rfl
        have c1 : w0.cell? ⟨w.heap.size + 1, 1, none⟩ = some (.int .i64 0) := BH.out.cell' rfl
        have c2 : w0.cell? ⟨w.heap.size + 1, 2, none⟩ = some (.string nilS) := BH.out.cell' rfl
        refine wpAnyU_one7 (i := 15) rfl (by kernel_rfl) (by kernel_rfl) ?_
        go_simp
        clear y0 y1 y2 c0 c1 c2 v4 d0 l1 hi3 hi4 hkm hi0 hi1
        obtain ⟨qb, qf⟩ := box3h BH.out (.int .i64 page) (.int .i64 l.2) (.string q.1)
        obtain ⟨w2, hw2⟩ : ∃ z, z = (((w0.setCell ⟨w.heap.size + 1, 0, none⟩ (.int .i64 page)).setCell ⟨w.heap.size + 1, 1, none⟩ (.int .i64 l.2)).setCell ⟨w.heap.size + 1, 2, none⟩ (.string q.1)).drew := ⟨_, rfl⟩
        have qb2 : Blk w2 (w.heap.size + 1) 41 #[.int .i64 page, .int .i64 l.2, .string q.1] := by rw [hw2]; exact qb.drew
        have qf2 : Fr (only (w.heap.size + 1)) w0 w2 := by rw [hw2]; exact qf.drew
        rw [← hw2]
        clear hw2 qb qf
        have q0 := qb2.cell' (i := 0) rfl
        have q1 := qb2.cell' (i := 1) rfl
        have q2 := qb2.cell' (i := 2) rfl
        refine wpAnyU_one7 (i := 16) rfl (by kernel_rfl) (by kernel_rfl) ?_
        go_simp
        refine wpAnyU_done (by kernel_rfl) ?_ _
        go_wp2_with fail
        have hqk : V.ents[(k - 1) + 1]? = some q := by rw [show k - 1 + 1 = k by omega]; exact HQ.out
        refine bodyPost_ret (v := .tuple #[.agg #[.int .i64 page, .int .i64 l.2, .string q.1], .int .i64 0]) ?_ rfl ⟨.inr ⟨page, l.2, q.1, .inr ⟨k - 1, l, q, HL.out, hqk, HP.out, by rw [show k - 1 + 1 = k by omega]; exact HNB.out, by rw [HP.out]⟩, rfl⟩, F0.out.then_only qf2 (.inr (by omega))⟩
        simp [results, Try.results76, go_sem, q0, q1, q2]
      · have hd1 : (q.2 == page) = false := by simpa using hp
        have HX := hid_ (HNB.out.next HQ.out hp)
        clear hp
        go_wp2_with fail
        go_roundw
        case rel => exact ⟨k + 1, by omega, by omega, by go_num, HX.out, by first | rfl | trivial⟩
        case measure => simp [intOf]; omega
    · have hi1 : ¬ (k : Int) < (V.ents.length : Int) := by omega
      have HNL : Hid (NB V page V.ents.length) := hid_ (fun j p h1 h2 hj => HNB.out j p h1 (by omega) hj)
      have y0 := BH.out.frozen 0
      have y1 := BH.out.frozen 1
      have y2 := BH.out.frozen 2
      have c0 : w0.cell? ⟨w.heap.size + 1, 0, none⟩ = some (.int .i64 0) := BH.out.cell' rfl
      have c1 : w0.cell? ⟨w.heap.size + 1, 1, none⟩ = some (.int .i64 0) := BH.out.cell' rfl
      have c2 : w0.cell? ⟨w.heap.size + 1, 2, none⟩ = some (.string nilS) := BH.out.cell' rfl
      go_wp2_with fail
      clear y0 y1 y2 c0 c1 c2
      obtain ⟨qb, qf⟩ := box3h BH.out (.int .i64 0) (.int .i64 0) (.string nilS)
      have q0 := qb.cell' (i := 0) rfl
      have q1 := qb.cell' (i := 1) rfl
      have q2 := qb.cell' (i := 2) rfl
      have q0' := BH.out.cell' (i := 0) rfl
      have q1' := BH.out.cell' (i := 1) rfl
      have q2' := BH.out.cell' (i := 2) rfl
      first
      | (refine bodyPost_ret (v := .tuple #[.agg #[.int .i64 0, .int .i64 0, .string nilS], .int .i64 6]) ?_ rfl ⟨.inl ⟨.inl ⟨HNL.out, rfl⟩, rfl⟩, F0.out.then_only qf (.inr (by omega))⟩
         simp [results, Try.results76, go_sem, q0, q1, q2])
      | (refine bodyPost_ret (v := .tuple #[.agg #[.int .i64 0, .int .i64 0, .string nilS], .int .i64 6]) ?_ rfl ⟨.inl ⟨.inl ⟨HNL.out, rfl⟩, rfl⟩, F0.out⟩
         simp [results, Try.results76, go_sem, q0', q1', q2'])
def rchildM (V : Vw) (key : ByteArray) : Option Et := if inS V.low V.high V.unb key = true ∧ rdN V.ents key ≠ 0 then V.ents[rdN V.ents key - 1]? else none
theorem rchild_rising {V : Vw} {key : ByteArray} (h : Rising V.ents) : rchildM V key = childM V key := by unfold rchildM childM; rw [ndN_rising h]
def RChildPost (V : Vw) (key : ByteArray) (w : World) (e : Ending) (w' : World) : Prop :=
  ((∃ p : Et, rchildM V key = some p ∧ e = .returned (.tuple #[.agg #[.string p.1, .int .i64 p.2], .int .i64 0])) ∨ (rchildM V key = none ∧ e = .returned (.tuple #[.agg #[.string nilS, .int .i64 0], .int .i64 2]))) ∧ Fr none_ w w'
/-- What stands in the loop's box. -/
def outAt (L : List Et) : Nat → Et
  | 0 => (nilS, 0)
  | k + 1 => L.getD k (nilS, 0)
set_option maxHeartbeats 8000000 in
theorem rchild_ok (V : Vw) (A : Option Addr) (c : Nat) (key : ByteArray) (w : World) (h : VwIn w V A c) (hk : SzOk key) :
    Calls Try.prog 77 #[vwV V (.slice A V.ents.length c), .string key] w (RChildPost V key w) := by
  have h1000 := h.ok.ents.1
  have HOL := hid_ (fun (h0 : 0 < V.ents.length) => h.rd.old (by decide) h0)
  obtain ⟨w0, hw0⟩ : ∃ z, z = ((w.alloc (.cells (vwA V (.slice A V.ents.length c)) 66)).alloc (.cells #[.string nilS, .int .i64 0] 64)).alloc (.cells #[.string nilS, .int .i64 0] 64) := ⟨_, rfl⟩
  have f0 : Fr none_ w w0 := by rw [hw0]; exact (((Fr.refl none_ w).alloc _).alloc _).alloc _
  have BV : Hid (Blk w0 w.heap.size 66 (vwA V (.slice A V.ents.length c))) := hid_ (by rw [hw0]; exact ((Blk.new w _ _).alloc _).alloc _)
  have BO : Hid (Blk w0 (w.heap.size + 1) 64 #[.string nilS, .int .i64 0]) := hid_ (by rw [hw0]; exact (Blk.new7 _ _ (by simp)).alloc _)
  have BX : Hid (Blk w0 (w.heap.size + 1 + 1) 64 #[.string nilS, .int .i64 0]) := hid_ (by rw [hw0]; exact Blk.new7 _ _ (by simp))
  have F0 := hid_ f0
  have HI := hid_ (h.keep f0)
  have HK := hid_ hk
  have HSZ := hid_ h.ok
  clear f0 h hk
  go_enter Try.func77, Try.ntmps77
  go_upto_region 2 with fail
  first
  | change Code.wp _ _ _ _ (((w.alloc (.cells (vwA V (.slice A V.ents.length c)) 66)).alloc (.cells #[.string nilS, .int .i64 0] 64)).alloc (.cells #[.string nilS, .int .i64 0] 64))
  | trace_state
  rw [← hw0]
  clear hw0
  go_wp2_with fail
  go_loopw [7, 8] (fun f i wr => ∃ k : Nat, k ≤ V.ents.length ∧ i = .int .i64 k ∧ f = .bool (decide (0 < k)) ∧ (∀ (j : Nat) (p : Et), j < k → V.ents[j]? = some p → ltS key p.1 = false) ∧ Blk wr (w.heap.size + 1 + 1) 64 #[.string (outAt V.ents k).1, .int .i64 (outAt V.ents k).2] ∧ Fr (only (w.heap.size + 1 + 1)) w0 wr) (fun _ i _ => V.ents.length - (intOf i).toNat)
  case atStart => exact ⟨0, Nat.zero_le _, rfl, rfl, fun j p hj => by omega, BX.out, Fr.refl _ _⟩
  case round =>
    obtain ⟨k, hk, rfl, rfl, hall, hbx, hfr⟩ := hrel
    have HA := hid_ hall
    have FR := hid_ hfr
    have BR := hid_ hbx
    have hi0 : (0 : Int) ≤ (k : Int) := Int.natCast_nonneg _
    have BVr := hid_ (BV.out.fr hfr (only_ne (by omega)))
    have BOr := hid_ (BO.out.fr hfr (only_ne (by omega)))
    have v4 : wr.cell? ⟨w.heap.size, 4, none⟩ = some (.slice A V.ents.length c) := BVr.out.cell' rfl
    have FW := hid_ (F0.out.then_only hfr (.inr (by omega)))
    clear hall hfr hbx
    have last : ∀ (w9 : World), Fr none_ wr w9 → rdN V.ents key = k → True := fun _ _ _ => trivial
    clear last
    by_cases hgo : ∃ q, V.ents[k]? = some q ∧ ltS key q.1 = false
    · obtain ⟨q, hq, hlt0⟩ := hgo
      have hlt : k < V.ents.length := (List.getElem?_eq_some_iff.1 hq).1
      have HQ := hid_ (And.intro hq hlt0)
      have hsz : SzOk q.1 := HSZ.out.ents.2 q (List.mem_of_getElem? hq)
      have HZ := hid_ hsz
      have HT := hid_ (HI.out.rd.fr FR.out (fun ad had => only_ne (by have := HOL.out (by omega) ad had; omega)))
      obtain ⟨b, off, rfl, hb, d0, d1⟩ := et_at HT.out hq
      have hi1 : (k : Int) < (V.ents.length : Int) := by omega
      clear hq hlt0 hsz
      go_wp2_with fail
      refine (before_ok key q.1 _ HK.out.le HZ.out.le).mono ?_
      rintro e w5 ⟨rfl, nq, rfl⟩
      rw [HQ.out.2]
      have y0 := BR.out.frozen 0
      have y1 := BR.out.frozen 1
      have z0 : wr.cell? ⟨w.heap.size + 1 + 1, 0, none⟩ = some (.string (outAt V.ents k).1) := BR.out.cell' rfl
      have z1 : wr.cell? ⟨w.heap.size + 1 + 1, 1, none⟩ = some (.int .i64 (outAt V.ents k).2) := BR.out.cell' rfl
      go_wp2_with fail
      have ho : outAt V.ents (k + 1) = q := by simp [outAt, HQ.out.1]
      obtain ⟨qb, qf⟩ := box2e BR.out (.string q.1) (.int .i64 q.2)
      go_roundw
      case rel =>
        refine ⟨k + 1, by omega, by go_num, by simp, fun j p hj hp => ?_, ?_, ?_⟩
        · rcases Nat.lt_succ_iff_lt_or_eq.1 hj with h | rfl
          · exact HA.out j p h hp
          · obtain rfl := Option.some.inj (HQ.out.1.symm.trans hp)
            exact HQ.out.2
        · rw [ho]; exact qb.drewN nq
        · exact FR.out.trans (qf.drewN nq) (fun _ _ => id) (fun _ _ => id)
      case measure => simp [intOf]; omega
    · have hrd : rdN V.ents key = k := rdN_is hk HA.out (fun p hp => by
        cases h : ltS key p.1 with
        | true => rfl
        | false => exact absurd ⟨p, hp, h⟩ hgo)
      have HRD := hid_ hrd
      by_cases hlt : k < V.ents.length
      · obtain ⟨q, hq⟩ : ∃ q, V.ents[k]? = some q := ⟨_, List.getElem?_eq_getElem hlt⟩
        have HL := hid_ (show ltS key q.1 = true from (by
          cases h : ltS key q.1 with
          | true => rfl
          | false => exact absurd ⟨q, hq, h⟩ hgo))
        have HZ := hid_ (HSZ.out.ents.2 q (List.mem_of_getElem? hq))
        have HT := hid_ (HI.out.rd.fr FR.out (fun ad had => only_ne (by have := HOL.out (by omega) ad had; omega)))
        obtain ⟨b, off, rfl, hb, d0, d1⟩ := et_at HT.out hq
        have hi1 : (k : Int) < (V.ents.length : Int) := by omega
        clear hq hgo d1
        rcases Nat.eq_zero_or_pos k with hk0 | hk0
        · have hdk : decide (0 < k) = false := by simp [hk0]
          have HC := hid_ (show rchildM V key = none from if_neg (by rw [HRD.out]; simp [hk0]))
          rw [hdk]
          clear hdk hk0
          go_wp2_with fail
          refine (before_ok key q.1 _ HK.out.le HZ.out.le).mono ?_
          rintro e w5 ⟨rfl, nq, rfl⟩
          rw [HL.out]
          clear d0
          have y0 := BOr.out.frozen 0
          have y1 := BOr.out.frozen 1
          have z0 : wr.cell? ⟨w.heap.size + 1, 0, none⟩ = some (.string nilS) := BOr.out.cell' rfl
          have z1 : wr.cell? ⟨w.heap.size + 1, 1, none⟩ = some (.int .i64 0) := BOr.out.cell' rfl
          go_wp2_with fail
          clear y0 y1 z0 z1
          obtain ⟨qb, qf⟩ := box2e (BOr.out.drewN nq) (.string nilS) (.int .i64 0)
          have q0 := qb.cell' (i := 0) rfl
          have q1 := qb.cell' (i := 1) rfl
          have q0' := BOr.out.cell' (i := 0) rfl
          have q1' := BOr.out.cell' (i := 1) rfl
          first
          | (refine bodyPost_ret (v := .tuple #[.agg #[.string nilS, .int .i64 0], .int .i64 2]) ?_ rfl ⟨.inr ⟨HC.out, rfl⟩, (FW.out.drewN nq).then_only qf (.inr (by omega))⟩
             simp [results, Try.results77, go_sem, q0, q1])
          | (refine bodyPost_ret (v := .tuple #[.agg #[.string nilS, .int .i64 0], .int .i64 2]) ?_ rfl ⟨.inr ⟨HC.out, rfl⟩, FW.out.drewN nq⟩
             simp [results, Try.results77, go_sem, q0', q1'])
        · have hdk : decide (0 < k) = true := by simp [hk0]
          have HK0 := hid_ hk0
          rw [hdk]
          clear hdk hk0
          have v0 : wr.cell? ⟨w.heap.size, 0, none⟩ = some (.string V.low) := BVr.out.cell' rfl
          have v1 : wr.cell? ⟨w.heap.size, 1, none⟩ = some (.string V.high) := BVr.out.cell' rfl
          have v2 : wr.cell? ⟨w.heap.size, 2, none⟩ = some (.bool V.unb) := BVr.out.cell' rfl
          have v3 : wr.cell? ⟨w.heap.size, 3, none⟩ = some (.int .i64 V.right) := BVr.out.cell' rfl
          have v5 : wr.cell? ⟨w.heap.size, 5, none⟩ = some (.bool V.held) := BVr.out.cell' rfl
          have v6 : wr.cell? ⟨w.heap.size, 6, none⟩ = some (.int .i64 V.hp) := BVr.out.cell' rfl
          have v7 : wr.cell? ⟨w.heap.size, 7, none⟩ = some (.int .i64 V.hl) := BVr.out.cell' rfl
          have v8 : wr.cell? ⟨w.heap.size, 8, none⟩ = some (.string V.hk) := BVr.out.cell' rfl
          go_wp2_with fail
          refine (before_ok key q.1 _ HK.out.le HZ.out.le).mono ?_
          rintro e w5 ⟨rfl, nq, rfl⟩
          rw [HL.out]
          clear d0
          go_wp2_with fail
          refine (rvin_ok V _ key _ HSZ.out.low HSZ.out.high HK.out).mono ?_
          rintro e w6 ⟨rfl, hf6⟩
          have G6 : Hid (Fr none_ wr w6) := hid_ (((Fr.refl none_ wr).drewN nq).then_none hf6)
          have GW := hid_ (FW.out.then_none G6.out)
          have BO6 := hid_ (BOr.out.fr G6.out id)
          clear hf6 v0 v1 v2 v3 v4 v5 v6 v7 v8
          cases hin : inS V.low V.high V.unb key with
          | false =>
            have HC := hid_ (show rchildM V key = none from if_neg (by rw [hin]; simp))
            clear hin
            have y0 := BO6.out.frozen 0
            have y1 := BO6.out.frozen 1
            have z0 : w6.cell? ⟨w.heap.size + 1, 0, none⟩ = some (.string nilS) := BO6.out.cell' rfl
            have z1 : w6.cell? ⟨w.heap.size + 1, 1, none⟩ = some (.int .i64 0) := BO6.out.cell' rfl
            go_wp2_with fail
            clear y0 y1 z0 z1
            obtain ⟨qb, qf⟩ := box2e BO6.out (.string nilS) (.int .i64 0)
            have q0 := qb.cell' (i := 0) rfl
            have q1 := qb.cell' (i := 1) rfl
            have q0' := BO6.out.cell' (i := 0) rfl
            have q1' := BO6.out.cell' (i := 1) rfl
            first
            | (refine bodyPost_ret (v := .tuple #[.agg #[.string nilS, .int .i64 0], .int .i64 2]) ?_ rfl ⟨.inr ⟨HC.out, rfl⟩, (GW.out).then_only qf (.inr (by omega))⟩
               simp [results, Try.results77, go_sem, q0, q1])
            | (refine bodyPost_ret (v := .tuple #[.agg #[.string nilS, .int .i64 0], .int .i64 2]) ?_ rfl ⟨.inr ⟨HC.out, rfl⟩, GW.out⟩
               simp [results, Try.results77, go_sem, q0', q1'])
          | true =>
            obtain ⟨q9, hq9⟩ : ∃ q, V.ents[k - 1]? = some q := ⟨_, List.getElem?_eq_getElem (by have := HK0.out; omega)⟩
            have HC : Hid (rchildM V key = some q9) := hid_ (by
              unfold rchildM
              rw [if_pos ⟨hin, by rw [HRD.out]; have := HK0.out; omega⟩, HRD.out, hq9])
            have ho : outAt V.ents k = q9 := by
              obtain ⟨k', rfl⟩ : ∃ k', k = k' + 1 := ⟨k - 1, by have := HK0.out; omega⟩
              simp only [Nat.add_sub_cancel] at hq9
              simp [outAt, hq9]
            have x0 : w6.cell? ⟨w.heap.size + 1 + 1, 0, none⟩ = some (.string q9.1) := by rw [← ho]; exact (BR.out.fr G6.out id).cell' rfl
            have x1 : w6.cell? ⟨w.heap.size + 1 + 1, 1, none⟩ = some (.int .i64 q9.2) := by rw [← ho]; exact (BR.out.fr G6.out id).cell' rfl
            have y0 := BO6.out.frozen 0
            have y1 := BO6.out.frozen 1
            have z0 : w6.cell? ⟨w.heap.size + 1, 0, none⟩ = some (.string nilS) := BO6.out.cell' rfl
            have z1 : w6.cell? ⟨w.heap.size + 1, 1, none⟩ = some (.int .i64 0) := BO6.out.cell' rfl
            clear hin hq9 ho
            go_wp2_with fail
            obtain ⟨qb, qf⟩ := box2e BO6.out (.string q9.1) (.int .i64 q9.2)
            have q0 := qb.cell' (i := 0) rfl
            have q1 := qb.cell' (i := 1) rfl
            refine bodyPost_ret (v := .tuple #[.agg #[.string q9.1, .int .i64 q9.2], .int .i64 0]) ?_ rfl ⟨.inl ⟨q9, HC.out, rfl⟩, GW.out.then_only qf (.inr (by omega))⟩
            simp [results, Try.results77, go_sem, q0, q1]
      · have hi1 : ¬ (k : Int) < (V.ents.length : Int) := by omega
        clear hgo
        rcases Nat.eq_zero_or_pos k with hk0 | hk0
        · have hdk : decide (0 < k) = false := by simp [hk0]
          have HC := hid_ (show rchildM V key = none from if_neg (by rw [HRD.out]; simp [hk0]))
          rw [hdk]
          clear hdk hk0
          skip
          have y0 := BOr.out.frozen 0
          have y1 := BOr.out.frozen 1
          have z0 : wr.cell? ⟨w.heap.size + 1, 0, none⟩ = some (.string nilS) := BOr.out.cell' rfl
          have z1 : wr.cell? ⟨w.heap.size + 1, 1, none⟩ = some (.int .i64 0) := BOr.out.cell' rfl
          go_wp2_with fail
          clear y0 y1 z0 z1
          obtain ⟨qb, qf⟩ := box2e BOr.out (.string nilS) (.int .i64 0)
          have q0 := qb.cell' (i := 0) rfl
          have q1 := qb.cell' (i := 1) rfl
          have q0' := BOr.out.cell' (i := 0) rfl
          have q1' := BOr.out.cell' (i := 1) rfl
          first
          | (refine bodyPost_ret (v := .tuple #[.agg #[.string nilS, .int .i64 0], .int .i64 2]) ?_ rfl ⟨.inr ⟨HC.out, rfl⟩, (FW.out).then_only qf (.inr (by omega))⟩
             simp [results, Try.results77, go_sem, q0, q1])
          | (refine bodyPost_ret (v := .tuple #[.agg #[.string nilS, .int .i64 0], .int .i64 2]) ?_ rfl ⟨.inr ⟨HC.out, rfl⟩, FW.out⟩
             simp [results, Try.results77, go_sem, q0', q1'])
        · have hdk : decide (0 < k) = true := by simp [hk0]
          have HK0 := hid_ hk0
          rw [hdk]
          clear hdk hk0
          have v0 : wr.cell? ⟨w.heap.size, 0, none⟩ = some (.string V.low) := BVr.out.cell' rfl
          have v1 : wr.cell? ⟨w.heap.size, 1, none⟩ = some (.string V.high) := BVr.out.cell' rfl
          have v2 : wr.cell? ⟨w.heap.size, 2, none⟩ = some (.bool V.unb) := BVr.out.cell' rfl
          have v3 : wr.cell? ⟨w.heap.size, 3, none⟩ = some (.int .i64 V.right) := BVr.out.cell' rfl
          have v5 : wr.cell? ⟨w.heap.size, 5, none⟩ = some (.bool V.held) := BVr.out.cell' rfl
          have v6 : wr.cell? ⟨w.heap.size, 6, none⟩ = some (.int .i64 V.hp) := BVr.out.cell' rfl
          have v7 : wr.cell? ⟨w.heap.size, 7, none⟩ = some (.int .i64 V.hl) := BVr.out.cell' rfl
          have v8 : wr.cell? ⟨w.heap.size, 8, none⟩ = some (.string V.hk) := BVr.out.cell' rfl
          skip
          go_wp2_with fail
          refine (rvin_ok V _ key _ HSZ.out.low HSZ.out.high HK.out).mono ?_
          rintro e w6 ⟨rfl, hf6⟩
          have G6 : Hid (Fr none_ wr w6) := hid_ (hf6)
          have GW := hid_ (FW.out.then_none G6.out)
          have BO6 := hid_ (BOr.out.fr G6.out id)
          clear hf6 v0 v1 v2 v3 v4 v5 v6 v7 v8
          cases hin : inS V.low V.high V.unb key with
          | false =>
            have HC := hid_ (show rchildM V key = none from if_neg (by rw [hin]; simp))
            clear hin
            have y0 := BO6.out.frozen 0
            have y1 := BO6.out.frozen 1
            have z0 : w6.cell? ⟨w.heap.size + 1, 0, none⟩ = some (.string nilS) := BO6.out.cell' rfl
            have z1 : w6.cell? ⟨w.heap.size + 1, 1, none⟩ = some (.int .i64 0) := BO6.out.cell' rfl
            go_wp2_with fail
            clear y0 y1 z0 z1
            obtain ⟨qb, qf⟩ := box2e BO6.out (.string nilS) (.int .i64 0)
            have q0 := qb.cell' (i := 0) rfl
            have q1 := qb.cell' (i := 1) rfl
            have q0' := BO6.out.cell' (i := 0) rfl
            have q1' := BO6.out.cell' (i := 1) rfl
            first
            | (refine bodyPost_ret (v := .tuple #[.agg #[.string nilS, .int .i64 0], .int .i64 2]) ?_ rfl ⟨.inr ⟨HC.out, rfl⟩, (GW.out).then_only qf (.inr (by omega))⟩
               simp [results, Try.results77, go_sem, q0, q1])
            | (refine bodyPost_ret (v := .tuple #[.agg #[.string nilS, .int .i64 0], .int .i64 2]) ?_ rfl ⟨.inr ⟨HC.out, rfl⟩, GW.out⟩
               simp [results, Try.results77, go_sem, q0', q1'])
          | true =>
            obtain ⟨q9, hq9⟩ : ∃ q, V.ents[k - 1]? = some q := ⟨_, List.getElem?_eq_getElem (by have := HK0.out; omega)⟩
            have HC : Hid (rchildM V key = some q9) := hid_ (by
              unfold rchildM
              rw [if_pos ⟨hin, by rw [HRD.out]; have := HK0.out; omega⟩, HRD.out, hq9])
            have ho : outAt V.ents k = q9 := by
              obtain ⟨k', rfl⟩ : ∃ k', k = k' + 1 := ⟨k - 1, by have := HK0.out; omega⟩
              simp only [Nat.add_sub_cancel] at hq9
              simp [outAt, hq9]
            have x0 : w6.cell? ⟨w.heap.size + 1 + 1, 0, none⟩ = some (.string q9.1) := by rw [← ho]; exact (BR.out.fr G6.out id).cell' rfl
            have x1 : w6.cell? ⟨w.heap.size + 1 + 1, 1, none⟩ = some (.int .i64 q9.2) := by rw [← ho]; exact (BR.out.fr G6.out id).cell' rfl
            have y0 := BO6.out.frozen 0
            have y1 := BO6.out.frozen 1
            have z0 : w6.cell? ⟨w.heap.size + 1, 0, none⟩ = some (.string nilS) := BO6.out.cell' rfl
            have z1 : w6.cell? ⟨w.heap.size + 1, 1, none⟩ = some (.int .i64 0) := BO6.out.cell' rfl
            clear hin hq9 ho
            go_wp2_with fail
            obtain ⟨qb, qf⟩ := box2e BO6.out (.string q9.1) (.int .i64 q9.2)
            have q0 := qb.cell' (i := 0) rfl
            have q1 := qb.cell' (i := 1) rfl
            refine bodyPost_ret (v := .tuple #[.agg #[.string q9.1, .int .i64 q9.2], .int .i64 0]) ?_ rfl ⟨.inl ⟨q9, HC.out, rfl⟩, GW.out.then_only qf (.inr (by omega))⟩
            simp [results, Try.results77, go_sem, q0, q1]
end Go.Proofs.Ytpjbncbmdfmlpaa
namespace Go.Proofs.Ytpjbncbmdfmlpaa
open Go.RowKit
set_option linter.unusedVariables false
/-- wpAnyU, closed to the unifier. -/
structure UwA (P : Program) (md : Region.Mode) (ops : Array Oper) (Q : Exit → Act → World → Prop) (S : World → Prop) (m fuel : Nat) (listed : Array Bool) (a : Act) (w : World) : Prop where
  h : wpAnyU P md ops Q S m fuel listed a w
section
variable {P : Program} {md : Region.Mode} {ops : Array Oper} {Q : Exit → Act → World → Prop} {S : World → Prop} {m fuel : Nat} {listed : Array Bool} {a : Act} {w : World} {oi : Oper}
theorem u_take (i : Nat) (d : Option Tmp) (v : Value) (hi : ops[i]? = some oi) (hd : oi.dst = d) (hs : Region.noSelect ops = true) (hf : Region.free md ops listed i = true) (hr : (Region.ready md ops listed).contains i = true)
    (hm : ((List.range ops.size).all (fun j => !decide (m ≤ j) || decide (j = i) || waitsB md ops ops.size j i) && closedB md ops listed) = true)
    (hQ : ∀ c a w, Q (.panic c) (a.put oi.dst v) w → Q (.panic c) a w) (hy : YieldsIf P ops S oi v a) (hS : S w)
    (h : UwA P md ops Q S m fuel (listed.setIfInBounds i true) (a.put d v) w) : UwA P md ops Q S m (fuel + 1) listed a w := by
  subst hd
  exact ⟨wpAnyU_take2 hi hs hf hr hm hQ hy hS h.h⟩
theorem y_val {v : Value} (hw : Region.wanted oi (yielded ops a.tmps) = true) (hx : ∀ w, S w → (execOp a.eval oi).run P w = .ok (.value v) w) : YieldsIf P ops S oi v a := .inl ⟨hw, hx⟩
theorem y_skip (hw : Region.wanted oi (yielded ops a.tmps) = false) : YieldsIf P ops S oi undef a := .inr ⟨hw, rfl⟩
theorem run_loadAt_cellU (w : World) (ad : Addr) (ty : TypeId) (v : Value) (d : TypeDesc) (hc : w.cell? ad = some v) (hu : P.underlying ty = some d) (hd : d.isRow = false) :
    (Instr.loadAt ty (.pointer (some ad))).run P w = .ok v w := by
  have hagg : (isAgg ty).run P w = .ok false w := by
    unfold isAgg
    rw [Sem.run_bind, run_underlying hu w]
    cases d <;> simp_all
  have hl : (load ad).run P w = .ok v w := by
    rw [run_load, hc]
  simp only [Instr.loadAt, Instr.sureAddr, loadVar, Sem.run_bind, Sem.run_pure, Result.andThen_ok, hagg, Bool.false_eq_true, if_false, hl]
theorem y_cell {v : Value} (ty : TypeId) (x : Operand) (ad : Addr) (td : TypeDesc) (hw : Region.wanted oi (yielded ops a.tmps) = true) (ho : oi.op = .load ty x) (hx : a.eval x = .pointer (some ad)) (hc : ∀ w, S w → w.cell? ad = some v) (hu : P.underlying ty = some td) (hr : td.isRow = false) : YieldsIf P ops S oi v a :=
  .inl ⟨hw, fun w hS => by
    unfold execOp
    simp only [ho, hx, Sem.run_bind, Sem.run_pure, Result.andThen_ok, run_loadAt_cellU w ad ty v td (hc w hS) hu hr]⟩
theorem u_one (i : Nat) (hi : ops[i]? = some oi) (hw : Region.wanted oi (yielded ops a.tmps) = true) (hr : Region.ready md ops listed = [i])
    (h : Oper.wp P oi a w (fun a' w' => (m ≤ i ∨ S w') ∧ UwA P md ops Q S m fuel (listed.setIfInBounds i true) a' w') Q) : UwA P md ops Q S m (fuel + 1) listed a w := by
  refine ⟨wpAnyU_all hr (by simp) (fun j hj => ?_)⟩
  obtain rfl : j = i := by simpa using hj
  refine wpOp_mono (K := fun a' w' => (m ≤ j ∨ S w') ∧ UwA P md ops Q S m fuel (listed.setIfInBounds j true) a' w') (fun a' w' h' => ⟨h'.1, h'.2.h⟩) ?_
  unfold wpOp
  simp only [hi, hw, if_true]
  exact .inl h
/-- The one operation that is ready calls a function, whose value is known. -/
theorem u_call (i : Nat) (d : Option Tmp) (f : FuncId) (vs : Array Value) (v : Value) (F : World → Prop) (hi : ops[i]? = some oi) (hd : oi.dst = d) (hw : Region.wanted oi (yielded ops a.tmps) = true) (hr : Region.ready md ops listed = [i])
    (hx : (execOp a.eval oi).run P w = .ok (.enter f vs) w) (hc : Calls P f vs w (fun e w' => e = .returned v ∧ F w'))
    (h : ∀ w', F w' → S w' ∧ UwA P md ops Q S m fuel (listed.setIfInBounds i true) (a.put d v) w') : UwA P md ops Q S m (fuel + 1) listed a w := by
  subst hd
  refine u_one i hi hw hr ?_
  unfold Oper.wp
  rw [hx, Oper.upon_enter]
  refine hc.mono ?_
  rintro e w' ⟨rfl, hF⟩
  exact ⟨.inr (h w' hF).1, (h w' hF).2⟩
/-- The one operation that is ready stores a whole struct. -/
theorem u_store (i : Nat) (ty : TypeId) (x y : Operand) (b o : Nat) (cells : Array Value) (hi : ops[i]? = some oi) (hd : oi.dst = none) (hw : Region.wanted oi (yielded ops a.tmps) = true) (hr : Region.ready md ops listed = [i])
    (ho : oi.op = .store ty x y) (hx : a.eval x = .pointer (some ⟨b, o, none⟩)) (hy : a.eval y = .agg cells) (ht : w.there b o cells.size) (hz : (P.info? ty).map (·.size) = some cells.size) (h1 : cells.all (·.oneCell') = true)
    (h : ∀ w', w' = w.setCells b o cells.toList → S w' ∧ UwA P md ops Q S m fuel (listed.setIfInBounds i true) a w') : UwA P md ops Q S m (fuel + 1) listed a w := by
  refine u_one i hi hw hr ?_
  refine wp_store_mid ty x y ho b o cells hx hy ht hz h1 ?_
  rw [hd]
  exact ⟨.inr (h _ rfl).1, (h _ rfl).2⟩
theorem u_done (hr : Region.ready md ops listed = []) (h : Q .normal a w) : UwA P md ops Q S m fuel listed a w := ⟨wpAnyU_done hr h fuel⟩
theorem wp_region_u (m : Nat) (S : World → Prop) {id : Nat} (hm : P.follows .mixedOrders = true)
    (h : UwA P .any ops Q S m ops.size (Array.replicate ops.size false) a w.drew) : (Code.region id ops true).wp P Q a w := wp_region_U hm h.h
end
end Go.Proofs.Ytpjbncbmdfmlpaa
namespace Go.Proofs.Ytpjbncbmdfmlpaa
open Go.RowKit Go.BigFrame
set_option maxRecDepth 100000
set_option linter.unusedVariables false

set_option maxHeartbeats 2000000 in
theorem rkright_ok (k : ByteArray) (w : World) (h : SzOk k) : Calls Try.prog 114 #[.string k] w fun e w' => e = .returned (.bool (decide (1 ≤ k.size) && decide (k.size ≤ 16))) ∧ Fr none_ w w' := by
  have hl := h.le
  clear h
  go_enter Try.func114, Try.ntmps114
  by_cases h1 : 1 ≤ k.size
  · have e1 : decide ((0 : Int) < (k.size : Int)) = true := decide_eq_true (by omega)
    have H1 := hid_ h1
    by_cases h2 : k.size ≤ 16
    · have e2 : decide ((k.size : Int) < 17) = true := decide_eq_true (by omega)
      have H2 := hid_ h2
      clear h1 h2
      go_wp2
      go_ret
      exact ⟨by simp [H1.out, H2.out], Fr.refl _ _⟩
    · have e2 : decide ((k.size : Int) < 17) = false := decide_eq_false (by omega)
      have H2 := hid_ h2
      clear h1 h2
      go_wp2
      go_ret
      exact ⟨by simp [H1.out, H2.out], Fr.refl _ _⟩
  · have e1 : decide ((0 : Int) < (k.size : Int)) = false := decide_eq_false (by omega)
    have H1 := hid_ h1
    clear h1
    go_wp2
    go_ret
    exact ⟨by simp [H1.out], Fr.refl _ _⟩
set_option maxHeartbeats 2000000 in
theorem rfits_ok (p : Rw) (w : World) (h1 : SzOk p.1) (h2 : SzOk p.2) : Calls Try.prog 92 #[rwV p] w fun e w' => e = .returned (.bool (fitsR p)) ∧ Fr none_ w w' := by
  have hl := h2.le
  have H1 := hid_ h1
  obtain ⟨w0, hw0⟩ : ∃ z, z = w.alloc (.cells #[.string p.1, .string p.2] 62) := ⟨_, rfl⟩
  have f0 : Fr none_ w w0 := by rw [hw0]; exact (Fr.refl none_ w).alloc _
  have B0 : Hid (Blk w0 w.heap.size 62 #[.string p.1, .string p.2]) := hid_ (by rw [hw0]; exact Blk.new w _ _)
  have F0 := hid_ f0
  clear h1 h2 f0
  go_enter Try.func92, Try.ntmps92
  go_upto_region 1 with fail
  change Code.wp _ _ _ _ (w.alloc (.cells #[.string p.1, .string p.2] 62))
  rw [← hw0]
  clear hw0
  have c0 : w0.cell? ⟨w.heap.size, 0, none⟩ = some (.string p.1) := B0.out.cell' rfl
  go_wp2_with fail
  refine (rkright_ok p.1 _ H1.out).mono ?_
  rintro e w1 ⟨rfl, hf⟩
  have c1 : w1.cell? ⟨w.heap.size, 1, none⟩ = some (.string p.2) := (B0.out.fr hf id).cell' rfl
  replace F0 := hid_ (F0.out.then_none hf)
  clear c0 hf
  obtain ⟨b, hb⟩ : ∃ b, (decide (1 ≤ p.1.size) && decide (p.1.size ≤ 16)) = b := ⟨_, rfl⟩
  rw [hb]
  have HB := hid_ hb
  clear hb
  cases b with
  | false =>
    go_wp2
    go_ret
    exact ⟨by simp [fitsR, HB.out], F0.out⟩
  | true =>
    by_cases h2 : p.2.size ≤ 16
    · have e2 : decide ((p.2.size : Int) ≤ 16) = true := by simp; omega
      have H2 := hid_ h2
      clear h2
      go_wp2
      go_ret
      exact ⟨by simp [fitsR, HB.out, H2.out], F0.out⟩
    · have e2 : decide ((p.2.size : Int) ≤ 16) = false := by simp; omega
      have H2 := hid_ h2
      clear h2
      go_wp2
      go_ret
      exact ⟨by simp [fitsR, HB.out, H2.out], F0.out⟩
set_option maxHeartbeats 4000000 in
theorem rfind_ok (L : List Rw) (A : Option Addr) (c : Nat) (key : ByteArray) (w : World) (h : Reads w 2 A L.length (rwFlat L)) (ho : RwsOk L) (hk : SzOk key) :
    Calls Try.prog 115 #[.slice A L.length c, .string key] w fun e w' => e = .returned (.tuple #[.int .i64 (plR L key : Nat), .bool (atR L key)]) ∧ Fr none_ w w' := by
  have H0 := hid_ h
  have hle := plR_le L key
  have h1000 := ho.1
  have HSZ := hid_ (And.intro ho.2 hk)
  clear h ho hk
  go_enter Try.func115, Try.ntmps115
  go_wp2_with fail
  go_loopw [6] (fun i wr => ∃ k : Nat, k ≤ plR L key ∧ i = .int .i64 k ∧ Fr none_ w wr) (fun i _ => plR L key - (intOf i).toNat)
  case atStart => exact ⟨0, Nat.zero_le _, rfl, Fr.refl _ _⟩
  case round =>
    obtain ⟨k, hk, rfl, hF⟩ := hrel
    have H := hid_ (H0.out.none_fr hF)
    have F := hid_ hF
    clear hF
    have hi0 : (0 : Int) ≤ (k : Int) := Int.natCast_nonneg _
    by_cases hlt : k < plR L key
    · have hkl : k < L.length := by omega
      have hi1 : (k : Int) < (L.length : Int) := by omega
      have hd1 : decide ((k : Int) < (L.length : Int)) = true := by simp; omega
      obtain ⟨p, hp⟩ : ∃ p, L[k]? = some p := ⟨_, List.getElem?_eq_getElem hkl⟩
      obtain ⟨b, off, rfl, hb, c0, c1⟩ := rw_at H.out hp
      have hcmp : ltS p.1 key = true := plR_in hlt hp
      have hsz := (HSZ.out.1 p (List.mem_of_getElem? hp)).1
      have HCMP := hid_ hcmp
      clear hp hcmp c1
      go_wp2_with fail
      refine (before_ok p.1 key _ hsz.le HSZ.out.2.le).mono ?_
      rintro e w1 ⟨rfl, q, rfl⟩
      rw [HCMP.out]
      have FQ := hid_ (F.out.drewN q)
      clear c0
      go_wp2_with fail
      go_roundw
      case rel => exact ⟨k + 1, by omega, by go_num, FQ.out⟩
      case measure => simp [intOf]; omega
    · obtain rfl : k = plR L key := by omega
      by_cases hl : plR L key < L.length
      · obtain ⟨p, hp⟩ : ∃ p, L[plR L key]? = some p := ⟨_, List.getElem?_eq_getElem hl⟩
        obtain ⟨b, off, rfl, hb, c0, c1⟩ := rw_at H.out hp
        have hcmp : ltS p.1 key = false := plR_at hp
        have hat : atR L key = sEq p.1 key := atR_some hp
        have HAT := hid_ hat
        have hsz := (HSZ.out.1 p (List.mem_of_getElem? hp)).1
        obtain ⟨n, hn⟩ : ∃ n, n = plR L key := ⟨_, rfl⟩
        have hi1 : (n : Int) < (L.length : Int) := by omega
        have hd1 : decide ((n : Int) < (L.length : Int)) = true := by simp; omega
        rw [← hn] at c0 c1 hi0
        rw [← hn]
        have HCMP := hid_ hcmp
        have HN := hid_ hn
        clear hp hcmp c1 hl hlt hn hk hle hat
        go_wp2_with fail
        refine (before_ok p.1 key _ hsz.le HSZ.out.2.le).mono ?_
        rintro e w1 ⟨rfl, q, rfl⟩
        rw [HCMP.out]
        have FQ := hid_ (F.out.drewN q)
        go_wp2_with fail
        go_quiet (fail)
        go_wp2_with fail
        go_ret2
        exact ⟨by rw [HAT.out, ← HN.out]; rfl, by repeat (first | exact F.out | apply Fr.drewN | apply Fr.drew)⟩
      · have he : plR L key = L.length := by omega
        have HE := hid_ he
        have hat : atR L key = false := atR_none he
        have HAT := hid_ hat
        have hd1 : decide ((L.length : Int) < (L.length : Int)) = false := by simp
        rw [he]
        clear he hl hlt hk hle hat
        go_wp2_with fail
        go_ret2
        exact ⟨by rw [HAT.out, HE.out]; rfl, F.out⟩
set_option maxHeartbeats 4000000 in
theorem rright_ok (L : List Rw) (A : Option Addr) (c : Nat) (w : World) (h : Reads w 2 A L.length (rwFlat L)) (ho : RwsOk L) :
    Calls Try.prog 113 #[.slice A L.length c] w (RightPost L w) := by
  have H1 := hid_ h
  have OK := hid_ ho
  have h1000 := ho.1
  clear h ho
  go_enter Try.func113, Try.ntmps113
  go_wp2_with fail
  go_loopw [3] (fun i wr => ∃ k : Nat, k ≤ L.length ∧ i = .int .i64 k ∧ RightTo L k ∧ Fr none_ w wr) (fun i _ => L.length - (intOf i).toNat)
  case atStart => exact ⟨0, Nat.zero_le _, rfl, ⟨fun j p hj => by omega, fun j p q hj => by omega⟩, Fr.refl _ _⟩
  case round =>
    obtain ⟨k, hk, rfl, hst, hF⟩ := hrel
    have ST := hid_ hst
    have H := hid_ (H1.out.none_fr hF)
    have F := hid_ hF
    clear hst hF
    have hi0 : (0 : Int) ≤ (k : Int) := Int.natCast_nonneg _
    by_cases hlt : k < L.length
    · have hi1' : (k : Int) < (L.length : Int) := by omega
      obtain ⟨p, hp⟩ : ∃ p, L[k]? = some p := ⟨_, List.getElem?_eq_getElem hlt⟩
      obtain ⟨b, off, rfl, hb2, c0, c1⟩ := rw_at H.out hp
      have HP := hid_ hp
      have hpk := OK.out.2 p (List.mem_of_getElem? hp)
      have HPK := hid_ hpk
      clear hp hpk
      go_wp2_with fail
      refine (rfits_ok p wr HPK.out.1 HPK.out.2).mono ?_
      rintro e w1 ⟨rfl, hf1⟩
      replace H := hid_ (H.out.none_fr hf1)
      replace F := hid_ (F.out.then_none hf1)
      clear c0 c1 hf1
      cases hfit : fitsR p with
      | false =>
        have hns : ¬ RightR L := fun hS => by
          have h := hS.fit p (List.mem_of_getElem? HP.out)
          rw [hfit] at h
          cases h
        have HNS := hid_ hns
        clear hns hfit
        go_wp2_with fail
        go_ret
        exact ⟨false, rfl, ⟨(fun h => by cases h), fun h => absurd h HNS.out⟩, F.out⟩
      | true =>
      have HFIT := hid_ hfit
      clear hfit
      go_upto_region 6 with fail
      go_cut [32] (fun v wq => ∃ bb : Bool, v = .bool bb ∧ (bb = false ↔ (∀ q, 0 < k → L[k - 1]? = some q → ltS q.1 p.1 = true)) ∧ Fr none_ w1 wq)
      case first =>
        by_cases hk0 : 0 < k
        · obtain ⟨q, hq⟩ : ∃ q, L[k - 1]? = some q := ⟨_, List.getElem?_eq_getElem (by omega)⟩
          obtain ⟨b3, off3, hA, hb3, d0, d1⟩ := rw_at H.out hq
          obtain ⟨rfl, rfl⟩ : b = b3 ∧ off = off3 := by injection hA with hA; injection hA with e1 e2; exact ⟨e1, e2⟩
          obtain ⟨b4, off4, hA4, hb4, g0, g1⟩ := rw_at H.out HP.out
          obtain ⟨rfl, rfl⟩ : b = b4 ∧ off = off4 := by injection hA4 with hA4; injection hA4 with e1 e2; exact ⟨e1, e2⟩
          have e0 : ∀ x : Wx w1, x.to.cell? ⟨b, off + (k - 1) * 2, none⟩ = some (.string q.1) := fun x => x.cell d0
          have e1 : ∀ x : Wx w1, x.to.cell? ⟨b, off + k * 2, none⟩ = some (.string p.1) := fun x => x.cell g0
          have hqk := (OK.out.2 q (List.mem_of_getElem? hq)).1
          have HQK := hid_ hqk
          have HQ := hid_ hq
          have HQ' : Hid ((∀ q', 0 < k → L[k - 1]? = some q' → ltS q'.1 p.1 = true) ↔ ltS q.1 p.1 = true) := hid_ ⟨fun h => h q hk0 hq, fun h q' _ hq' => by rw [hq] at hq'; cases hq'; exact h⟩
          have HC2 : Hid (∀ x : Wx w1, Calls Try.prog 74 #[.string q.1, .string p.1] x.to fun e w' => e = .returned (.bool (ltS q.1 p.1)) ∧ Fr none_ x.to w') := hid_ (fun x => (before_ok q.1 p.1 x.to HQK.out.le HPK.out.1.le).mono (by rintro e w' ⟨rfl, n, rfl⟩; exact ⟨rfl, (Fr.refl none_ _).drewN n⟩))
          have hw1 : IntKind.i64.wrap ((k : Int) - 1) = ((k - 1 : Nat) : Int) := by rw [show (k : Int) - 1 = ((k - 1 : Nat) : Int) by omega]; exact IntWalk.i64_in _ (by omega)
          have hdk : decide (0 < k) = true := decide_eq_true hk0
          have hj0 : (0 : Int) ≤ ((k - 1 : Nat) : Int) := Int.natCast_nonneg _
          have hj1 : ((k - 1 : Nat) : Int) < (L.length : Int) := by omega
          obtain ⟨j, hj⟩ : ∃ j, j = k - 1 := ⟨_, rfl⟩
          rw [← hj] at e0 hw1 hj0 hj1
          have HJ := hid_ hj
          clear hq hA hA4 d0 d1 g0 g1 hqk hj hk0
          refine wp_region_quiet_x (by kernel_rfl) (by kernel_rfl) ?_
          repeat (first | go_big_quiet_step ((go_at_call 74; exact Calls.quiet_x (HC2.out _))) | quiet_step ((go_at_call 74; exact Calls.quiet_x (HC2.out _))))
          refine wpQuiet_nil ?_
          intro _ hw'
          obtain ⟨xq, hw''⟩ := hw'
          subst hw''
          go_wp2
          go_meet
          case rel => exact ⟨_, rfl, by
            rw [HQ'.out]
            cases ltS q.1 p.1 <;> simp, xq.fr⟩
        · have hdk : decide (0 < k) = false := decide_eq_false hk0
          have hk0' : k = 0 := by omega
          have HK0 := hid_ hk0'
          clear hk0 hk0'
          refine wp_region_quiet_x (by kernel_rfl) (by kernel_rfl) ?_
          repeat (first | go_big_quiet_step (fail) | quiet_step (fail))
          refine wpQuiet_nil ?_
          intro _ hw'
          obtain ⟨xq, hw''⟩ := hw'
          subst hw''
          go_wp2
          go_meet
          case rel => exact ⟨false, rfl, ⟨fun _ q h => by have := HK0.out; omega, fun _ => rfl⟩, xq.fr⟩
      case rest =>
      obtain ⟨bb, rfl, hbb, hf⟩ := hcut
      have F3 := hid_ (F.out.then_none hf)
      have HB := hid_ hbb
      clear hf hbb H F
      cases bb with
      | true =>
        have hns : ¬ RightR L := fun hS => by
          have h := HB.out.2 fun q h0 hq => hS.ris (k - 1) q p hq (by rw [show k - 1 + 1 = k by omega]; exact HP.out)
          cases h
        have HNS := hid_ hns
        clear hns
        go_wp2_with fail
        go_ret
        exact ⟨false, rfl, ⟨(fun h => by cases h), fun h => absurd h HNS.out⟩, F3.out⟩
      | false =>
        have hst : RightTo L (k + 1) := by
          have h := HB.out.1 rfl
          refine ⟨fun j p' hj hp' => ?_, fun j p' q hj hp' hq => ?_⟩
          · rcases Nat.lt_succ_iff_lt_or_eq.1 hj with hj | rfl
            · exact ST.out.1 j p' hj hp'
            · rw [HP.out] at hp'; cases hp'; exact HFIT.out
          · rcases Nat.lt_succ_iff_lt_or_eq.1 hj with hj | hj
            · exact ST.out.2 j p' q hj hp' hq
            · rw [hj, HP.out] at hq
              cases hq
              exact h p' (by omega) (by rw [show k - 1 = j by omega]; exact hp')
        have HST := hid_ hst
        clear hst
        go_wp2_with fail
        go_roundw
        case rel => exact ⟨k + 1, by omega, by go_num, HST.out, F3.out⟩
        case measure => simp [intOf]; omega
    · obtain rfl : k = L.length := by omega
      have hS : RightR L := ⟨fun p hp => by obtain ⟨j, hj, e⟩ := List.mem_iff_getElem.1 hp; exact ST.out.1 j p hj (by rw [List.getElem?_eq_getElem hj, e]), fun j p q hp hq => ST.out.2 j p q (List.getElem?_eq_some_iff.1 hq).1 hp hq⟩
      have HS := hid_ hS
      clear hS
      go_wp2_with fail
      go_ret
      exact ⟨true, rfl, ⟨fun _ => HS.out, fun _ => rfl⟩, F.out⟩
end Go.Proofs.Ytpjbncbmdfmlpaa
namespace Go.Proofs.Ytpjbncbmdfmlpaa
open Go.RowKit Go.BigFrame
set_option maxRecDepth 100000
set_option linter.unusedVariables false

theorem reads_blk7 {w : World} {t : TypeId} {cs : List Value} {b : Nat} (h : Blk w b t cs.toArray) : Reads w cs.length (some ⟨b, 0, none⟩) 1 cs :=
  ⟨by simp, fun _ => ⟨_, rfl, fun j u hu => by rw [add_lit, Nat.zero_add]; exact h.cell' (by simpa using hu)⟩⟩
def RPutPost (L : List Rw) (p : Rw) (w : World) (e : Ending) (w' : World) : Prop :=
  ∃ A c, e = .returned (.tuple #[.slice A (putR L p).length c, .bool (atR L p.1)]) ∧ w'.ownsRow w.heap.size 62 2 (.slice A (putR L p).length c) (putR L p).length (rwFlat (putR L p)) ∧ Fr none_ w w'
set_option maxHeartbeats 4000000 in
theorem rput_ok (L : List Rw) (A : Option Addr) (c : Nat) (p : Rw) (w : World) (h : Reads w 2 A L.length (rwFlat L)) (ho : RwsOk L) (hc : L.length ≤ c) (hm : c ≤ maxLen) (hp : SzOk p.1 ∧ SzOk p.2) :
    Calls Try.prog 94 #[.slice A L.length c, rwV p] w (RPutPost L p w) := by
  obtain ⟨i0, hi0, hz0, hs0, hb0⟩ := info_parts row_info
  have Hi := hid_ (And.intro hi0 (And.intro hz0 (And.intro hs0 hb0)))
  clear hi0 hz0 hs0 hb0
  have HK := hid_ hp
  have HO := hid_ ho
  have hpl := plR_le L p.1
  have h3 := ho.1
  unfold maxLen at hm
  obtain ⟨w0, hw0⟩ : ∃ z, z = w.alloc (.cells #[.string p.1, .string p.2] 62) := ⟨_, rfl⟩
  have f0 : Fr none_ w w0 := by rw [hw0]; exact (Fr.refl none_ w).alloc _
  have B0 : Hid (Blk w0 w.heap.size 62 #[.string p.1, .string p.2]) := hid_ (by rw [hw0]; exact Blk.new w _ _)
  have F0 := hid_ f0
  have H := hid_ (h.none_fr f0)
  clear h ho hp f0
  go_enter Try.func94, Try.ntmps94
  go_upto_region 1 with fail
  change Code.wp _ _ _ _ (w.alloc (.cells #[.string p.1, .string p.2] 62))
  rw [← hw0]
  clear hw0
  have c0 : w0.cell? ⟨w.heap.size, 0, none⟩ = some (.string p.1) := B0.out.cell' rfl
  go_wp2_with fail
  refine (rfind_ok L A c p.1 w0 H.out HO.out HK.out.1).mono ?_
  rintro e w2 ⟨rfl, hf2⟩
  clear c0
  replace F0 := hid_ (F0.out.then_none hf2)
  replace B0 := hid_ (B0.out.fr hf2 id)
  replace H := hid_ (H.out.none_fr hf2)
  clear hf2
  obtain ⟨n, hn⟩ : ∃ n, n = plR L p.1 := ⟨_, rfl⟩
  obtain ⟨b, hb⟩ : ∃ b, b = atR L p.1 := ⟨_, rfl⟩
  rw [← hn, ← hb]
  rw [← hn] at hpl
  have hlt : b = true → n < L.length := fun h => by rw [hn]; exact atR_lt (by rw [← hb]; exact h)
  have HPUT : Hid (putR L p = L.take n ++ [p] ++ L.drop (n + if b then 1 else 0)) := hid_ (by rw [putR, ← hn, ← hb])
  have HB := hid_ hb
  have HN := hid_ hn
  have HLT := hid_ hlt
  clear hn hb hlt
  have hi0 : (0 : Int) ≤ (n : Int) := Int.natCast_nonneg _
  have hi1 : (n : Int) ≤ (L.length : Int) := by omega
  have hcl : (L.length : Int) ≤ (c : Int) := by omega
  have hi2 : (n : Int) ≤ (c : Int) := by omega
  have CAP := hid_ hc
  have FL := hid_ (rwFlat_take L n)
  have hF0s := F0.out.size
  go_upto_region 2 with fail
  go_cut [8] (fun v wq => ∃ A' c', v = .slice A' (n + 1) c' ∧ wq.ownsRow w.heap.size 62 2 (.slice A' (n + 1) c') (n + 1) (rwFlat (L.take n) ++ [.string p.1, .string p.2]) ∧ Fr none_ w2 wq)
  case first =>
    have c0 : w2.cell? ⟨w.heap.size, 0, none⟩ = some (.string p.1) := B0.out.cell' rfl
    have c1 : w2.cell? ⟨w.heap.size, 1, none⟩ = some (.string p.2) := B0.out.cell' rfl
    have hS0 : (fun w' : World => Fr none_ w2 w') w2.drew := (Fr.refl none_ w2).drew
    refine wp_region_U (m := 9) (S := fun w' : World => Fr none_ w2 w') (by kernel_rfl) ?_
    refine wpAnyU_take2 (i := 1) (v := _) rfl (by kernel_rfl) (by kernel_rfl) (by kernel_rfl) (by kernel_rfl) (fun _ _ _ h => h) (.inl ⟨by kernel_rfl, fun w' hS => by go_simp; rfl⟩) hS0 ?_
    refine wpAnyU_take2 (i := 2) (v := _) rfl (by kernel_rfl) (by kernel_rfl) (by kernel_rfl) (by kernel_rfl) (fun _ _ _ h => h) (.inl ⟨by kernel_rfl, fun w' hS => by go_simp; rfl⟩) hS0 ?_
    refine wpAnyU_take2 (i := 3) (v := _) rfl (by kernel_rfl) (by kernel_rfl) (by kernel_rfl) (by kernel_rfl) (fun _ _ _ h => h) (.inl ⟨by kernel_rfl, fun w' hS => by go_simp; rfl⟩) hS0 ?_
    refine wpAnyU_take2 (i := 5) (v := _) rfl (by kernel_rfl) (by kernel_rfl) (by kernel_rfl) (by kernel_rfl) (fun _ _ _ h => h) (.inl ⟨by kernel_rfl, fun w' hS => by have s_c0 := cellFr c0 hS; have s_c1 := cellFr c1 hS; go_simp; rfl⟩) hS0 ?_
    clear c0 c1 hS0
    obtain ⟨y1, hy1⟩ : ∃ z, z = w2.drew := ⟨_, rfl⟩
    have F2 : Hid (Fr none_ w2 y1) := hid_ (by rw [hy1]; exact (Fr.refl none_ w2).drew)
    rw [← hy1]
    clear hy1
    refine wpAnyU_two7 (i := 0) (j := 6) rfl rfl (by kernel_rfl) (by kernel_rfl) (by kernel_rfl) ?_ ?_
    · skip
      go_simp
      obtain ⟨y3, hy3⟩ : ∃ z, z = y1.alloc (.cells #[] 62) := ⟨_, rfl⟩
      have sy3 : y1.heap.size < y3.heap.size := by rw [hy3]; simp [World.size_alloc]
      have f5 : Fr none_ y1 y3 := by rw [hy3]; exact (Fr.refl none_ _).alloc _
      have OE : Hid (y3.ownsRow w2.heap.size 62 2 (.slice (some ⟨y1.heap.size, 0, none⟩) 0 0) 0 []) := hid_ (by rw [hy3]; exact own_empty _ _ _ _ (by have := F2.out.size; omega))
      have F4 := hid_ (F2.out.then_none f5)
      change _ ∧ wpAnyU _ _ _ _ _ _ _ _ _ (y1.alloc (.cells #[] 62))
      rw [← hy3]
      refine ⟨F4.out, ?_⟩
      clear hy3 f5
      refine wpAnyU_two7 (i := 4) (j := 6) rfl rfl (by kernel_rfl) (by kernel_rfl) (by kernel_rfl) ?_ ?_
      · skip
        refine wp_append_any _ (.tmp 16) (.tmp 19) 36 rfl w2.heap.size 62 i0 _ 2 32 Try.underlying36 Hi.out.1 Hi.out.2.1 Hi.out.2.2.1 Hi.out.2.2.2 rfl (by omega) (.slice (some ⟨y1.heap.size, 0, none⟩) 0 0) (0) ([]) rfl OE.out (A) (n) (c) (rwFlat (L.take n)) rfl (by rw [FL.out]; exact (H.out.upto hpl).none_fr F4.out) (rwFlat_one _) (by simp only [maxLen]; omega) (by omega) (by have := F4.out.size; omega) ?_
        intro A8 c9 y6 hown hgr
        simp only [Nat.zero_add, List.nil_append] at hown ⊢
        have sy6 := hgr.size
        have F7 := hid_ (F4.out.grown hgr (fun k hk => .inr (by have := (OE.out.lt k hk).1; omega)))
        have O10 := hid_ hown
        refine ⟨.inr F7.out, ?_⟩
        clear hown hgr OE
        have O4 := O10
        clear O10
        refine wpAnyU_one7 (i := 6) rfl (by kernel_rfl) (by kernel_rfl) ?_
        go_simp
        obtain ⟨y11, hy11⟩ : ∃ z, z = y6.alloc (.cells #[.string p.1, .string p.2] 62) := ⟨_, rfl⟩
        have sy11 : y6.heap.size < y11.heap.size := by rw [hy11]; simp [World.size_alloc]
        have f13 : Fr none_ y6 y11 := by rw [hy11]; exact (Fr.refl none_ _).alloc _
        replace O4 := hid_ (own_none O4.out f13)
        have BE : Hid (Blk y11 y6.heap.size 62 #[.string p.1, .string p.2]) := hid_ (by rw [hy11]; exact Blk.new _ _ _)
        have F12 := hid_ (F7.out.then_none f13)
        change _ ∧ wpAnyU _ _ _ _ _ _ _ _ _ (y6.alloc (.cells #[.string p.1, .string p.2] 62))
        rw [← hy11]
        refine ⟨F12.out, ?_⟩
        clear hy11 f13
        refine wpAnyU_one7 (i := 7) rfl (by kernel_rfl) (by kernel_rfl) ?_
        refine wp_append_any _ (.tmp 20) (.tmp 22) 36 rfl w2.heap.size 62 i0 _ 2 32 Try.underlying36 Hi.out.1 Hi.out.2.1 Hi.out.2.2.1 Hi.out.2.2.2 rfl (by omega) (.slice A8 (n) c9) (n) (rwFlat (L.take n)) rfl O4.out (some ⟨y6.heap.size, 0, none⟩) (1) (1) ([.string p.1, .string p.2]) rfl (reads_blk7 (cs := [.string p.1, .string p.2]) BE.out) (by simp [Value.oneCell']) (by simp only [maxLen]; omega) (by omega) (by have := F12.out.size; omega) ?_
        intro A16 c17 y14 hown hgr
        have sy14 := hgr.size
        have F15 := hid_ (F12.out.grown hgr (fun k hk => .inr (by have := (O4.out.lt k hk).1; omega)))
        clear BE
        have O18 := hid_ hown
        refine ⟨.inr F15.out, ?_⟩
        clear hown hgr O4
        have O7 := O18
        clear O18
        refine wpAnyU_one7 (i := 8) rfl (by kernel_rfl) (by kernel_rfl) ?_
        go_simp
        refine ⟨F15.out, ?_⟩
        refine wpAnyU_done (by kernel_rfl) ?_ _
        go_wp2_with fail
        go_meet
        case rel => exact ⟨_, _, rfl, own_base O7.out hF0s, F15.out⟩
      · skip
        go_simp
        obtain ⟨y19, hy19⟩ : ∃ z, z = y3.alloc (.cells #[.string p.1, .string p.2] 62) := ⟨_, rfl⟩
        have sy19 : y3.heap.size < y19.heap.size := by rw [hy19]; simp [World.size_alloc]
        have f21 : Fr none_ y3 y19 := by rw [hy19]; exact (Fr.refl none_ _).alloc _
        replace OE := hid_ (own_none OE.out f21)
        have BE : Hid (Blk y19 y3.heap.size 62 #[.string p.1, .string p.2]) := hid_ (by rw [hy19]; exact Blk.new _ _ _)
        have F20 := hid_ (F4.out.then_none f21)
        change _ ∧ wpAnyU _ _ _ _ _ _ _ _ _ (y3.alloc (.cells #[.string p.1, .string p.2] 62))
        rw [← hy19]
        refine ⟨F20.out, ?_⟩
        clear hy19 f21
        refine wpAnyU_one7 (i := 4) rfl (by kernel_rfl) (by kernel_rfl) ?_
        refine wp_append_any _ (.tmp 16) (.tmp 19) 36 rfl w2.heap.size 62 i0 _ 2 32 Try.underlying36 Hi.out.1 Hi.out.2.1 Hi.out.2.2.1 Hi.out.2.2.2 rfl (by omega) (.slice (some ⟨y1.heap.size, 0, none⟩) 0 0) (0) ([]) rfl OE.out (A) (n) (c) (rwFlat (L.take n)) rfl (by rw [FL.out]; exact (H.out.upto hpl).none_fr F20.out) (rwFlat_one _) (by simp only [maxLen]; omega) (by omega) (by have := F20.out.size; omega) ?_
        intro A24 c25 y22 hown hgr
        simp only [Nat.zero_add, List.nil_append] at hown ⊢
        have sy22 := hgr.size
        have F23 := hid_ (F20.out.grown hgr (fun k hk => .inr (by have := (OE.out.lt k hk).1; omega)))
        replace BE := hid_ (BE.out.fr (Fr.grown (S := fun b => (Value.slice (some ⟨y1.heap.size, 0, none⟩) 0 0).ownBlock = some b) (Fr.refl _ _) hgr (fun k hk => .inl hk)) (fun hk => by simp [Value.ownBlock] at hk; omega))
        have O26 := hid_ hown
        refine ⟨.inr F23.out, ?_⟩
        clear hown hgr OE
        have O4 := O26
        clear O26
        refine wpAnyU_one7 (i := 7) rfl (by kernel_rfl) (by kernel_rfl) ?_
        refine wp_append_any _ (.tmp 20) (.tmp 22) 36 rfl w2.heap.size 62 i0 _ 2 32 Try.underlying36 Hi.out.1 Hi.out.2.1 Hi.out.2.2.1 Hi.out.2.2.2 rfl (by omega) (.slice A24 (n) c25) (n) (rwFlat (L.take n)) rfl O4.out (some ⟨y3.heap.size, 0, none⟩) (1) (1) ([.string p.1, .string p.2]) rfl (reads_blk7 (cs := [.string p.1, .string p.2]) BE.out) (by simp [Value.oneCell']) (by simp only [maxLen]; omega) (by omega) (by have := F23.out.size; omega) ?_
        intro A29 c30 y27 hown hgr
        have sy27 := hgr.size
        have F28 := hid_ (F23.out.grown hgr (fun k hk => .inr (by have := (O4.out.lt k hk).1; omega)))
        clear BE
        have O31 := hid_ hown
        refine ⟨.inr F28.out, ?_⟩
        clear hown hgr O4
        have O7 := O31
        clear O31
        refine wpAnyU_one7 (i := 8) rfl (by kernel_rfl) (by kernel_rfl) ?_
        go_simp
        refine ⟨F28.out, ?_⟩
        refine wpAnyU_done (by kernel_rfl) ?_ _
        go_wp2_with fail
        go_meet
        case rel => exact ⟨_, _, rfl, own_base O7.out hF0s, F28.out⟩
    · skip
      go_simp
      obtain ⟨y32, hy32⟩ : ∃ z, z = y1.alloc (.cells #[.string p.1, .string p.2] 62) := ⟨_, rfl⟩
      have sy32 : y1.heap.size < y32.heap.size := by rw [hy32]; simp [World.size_alloc]
      have f34 : Fr none_ y1 y32 := by rw [hy32]; exact (Fr.refl none_ _).alloc _
      have BE : Hid (Blk y32 y1.heap.size 62 #[.string p.1, .string p.2]) := hid_ (by rw [hy32]; exact Blk.new _ _ _)
      have F33 := hid_ (F2.out.then_none f34)
      change _ ∧ wpAnyU _ _ _ _ _ _ _ _ _ (y1.alloc (.cells #[.string p.1, .string p.2] 62))
      rw [← hy32]
      refine ⟨F33.out, ?_⟩
      clear hy32 f34
      refine wpAnyU_one7 (i := 0) rfl (by kernel_rfl) (by kernel_rfl) ?_
      go_simp
      obtain ⟨y35, hy35⟩ : ∃ z, z = y32.alloc (.cells #[] 62) := ⟨_, rfl⟩
      have sy35 : y32.heap.size < y35.heap.size := by rw [hy35]; simp [World.size_alloc]
      have f37 : Fr none_ y32 y35 := by rw [hy35]; exact (Fr.refl none_ _).alloc _
      replace BE := hid_ (BE.out.fr f37 id)
      have OE : Hid (y35.ownsRow w2.heap.size 62 2 (.slice (some ⟨y32.heap.size, 0, none⟩) 0 0) 0 []) := hid_ (by rw [hy35]; exact own_empty _ _ _ _ (by have := F33.out.size; omega))
      have F36 := hid_ (F33.out.then_none f37)
      change _ ∧ wpAnyU _ _ _ _ _ _ _ _ _ (y32.alloc (.cells #[] 62))
      rw [← hy35]
      refine ⟨F36.out, ?_⟩
      clear hy35 f37
      refine wpAnyU_one7 (i := 4) rfl (by kernel_rfl) (by kernel_rfl) ?_
      refine wp_append_any _ (.tmp 16) (.tmp 19) 36 rfl w2.heap.size 62 i0 _ 2 32 Try.underlying36 Hi.out.1 Hi.out.2.1 Hi.out.2.2.1 Hi.out.2.2.2 rfl (by omega) (.slice (some ⟨y32.heap.size, 0, none⟩) 0 0) (0) ([]) rfl OE.out (A) (n) (c) (rwFlat (L.take n)) rfl (by rw [FL.out]; exact (H.out.upto hpl).none_fr F36.out) (rwFlat_one _) (by simp only [maxLen]; omega) (by omega) (by have := F36.out.size; omega) ?_
      intro A40 c41 y38 hown hgr
      simp only [Nat.zero_add, List.nil_append] at hown ⊢
      have sy38 := hgr.size
      have F39 := hid_ (F36.out.grown hgr (fun k hk => .inr (by have := (OE.out.lt k hk).1; omega)))
      replace BE := hid_ (BE.out.fr (Fr.grown (S := fun b => (Value.slice (some ⟨y32.heap.size, 0, none⟩) 0 0).ownBlock = some b) (Fr.refl _ _) hgr (fun k hk => .inl hk)) (fun hk => by simp [Value.ownBlock] at hk; omega))
      have O42 := hid_ hown
      refine ⟨.inr F39.out, ?_⟩
      clear hown hgr OE
      have O4 := O42
      clear O42
      refine wpAnyU_one7 (i := 7) rfl (by kernel_rfl) (by kernel_rfl) ?_
      refine wp_append_any _ (.tmp 20) (.tmp 22) 36 rfl w2.heap.size 62 i0 _ 2 32 Try.underlying36 Hi.out.1 Hi.out.2.1 Hi.out.2.2.1 Hi.out.2.2.2 rfl (by omega) (.slice A40 (n) c41) (n) (rwFlat (L.take n)) rfl O4.out (some ⟨y1.heap.size, 0, none⟩) (1) (1) ([.string p.1, .string p.2]) rfl (reads_blk7 (cs := [.string p.1, .string p.2]) BE.out) (by simp [Value.oneCell']) (by simp only [maxLen]; omega) (by omega) (by have := F39.out.size; omega) ?_
      intro A45 c46 y43 hown hgr
      have sy43 := hgr.size
      have F44 := hid_ (F39.out.grown hgr (fun k hk => .inr (by have := (O4.out.lt k hk).1; omega)))
      clear BE
      have O47 := hid_ hown
      refine ⟨.inr F44.out, ?_⟩
      clear hown hgr O4
      have O7 := O47
      clear O47
      refine wpAnyU_one7 (i := 8) rfl (by kernel_rfl) (by kernel_rfl) ?_
      go_simp
      refine ⟨F44.out, ?_⟩
      refine wpAnyU_done (by kernel_rfl) ?_ _
      go_wp2_with fail
      go_meet
      case rel => exact ⟨_, _, rfl, own_base O7.out hF0s, F44.out⟩
  case rest =>
  obtain ⟨A2, c2, rfl, hown, hf⟩ := hcut
  have O := hid_ hown
  have F := hid_ (F0.out.then_none hf)
  replace H := hid_ (H.out.none_fr hf)
  clear hown hf FL
  obtain ⟨m, hm7⟩ : ∃ m, m = (n + if b then 1 else 0) := ⟨_, rfl⟩
  rw [← hm7] at HPUT
  have hml : m ≤ L.length := by
    cases b with
    | false => simp at hm7; omega
    | true => have := HLT.out rfl; simp at hm7; omega
  obtain ⟨A5, hA5⟩ : ∃ A5, (if c = m then A else Option.map (fun x => x.add (m * 2)) A) = A5 := ⟨_, rfl⟩
  have R2 := H.out.cut hml CAP.out
  rw [hA5] at R2
  have R2' := hid_ R2
  clear R2
  have hdl : (L.drop m).length = L.length - m := by simp
  have hi3 : (0 : Int) ≤ (m : Int) := Int.natCast_nonneg _
  have hi4 : (m : Int) ≤ (L.length : Int) := by omega
  have hi5 : (m : Int) ≤ (c : Int) := by omega
  have hsF := F.out.size
  have HLEN : Hid ((putR L p).length = n + 1 + (L.length - m) ∧ rwFlat (putR L p) = rwFlat (L.take n) ++ [.string p.1, .string p.2] ++ (rwFlat L).drop (m * 2)) := hid_ (by
    rw [HPUT.out]
    refine ⟨by simp; omega, ?_⟩
    rw [rwFlat_app, rwFlat_app, rwFlat_single, rwFlat_drop])
  cases b with
  | false =>
    obtain rfl : n = m := by simpa using hm7.symm
    clear hm7
    go_wp2_with (at_builtin; refine wpList_append_any _ rfl (.tmp 27) (.tmp 30) 36 rfl w.heap.size 62 i0 _ 2 32 Try.underlying36 Hi.out.1 Hi.out.2.1 Hi.out.2.2.1 Hi.out.2.2.2 rfl (by omega) (.slice A2 (n + 1) c2) (n + 1) _ rfl O.out A5 (L.length - n) (c - n) ((rwFlat L).drop (n * 2)) rfl R2'.out (fun u hu => rwFlat_one L u (List.mem_of_mem_drop hu)) (by simp only [maxLen]; omega) (by omega) (by omega) ?_; intro A3 c3 w3 hown3 hgr3)
    have F3 := hid_ (F.out.grown hgr3 (fun k hk => .inr (O.out.lt k hk).1))
    have O3 := hid_ hown3
    clear hown3 hgr3
    go_wp2_with fail
    go_ret2
    refine ⟨A3, c3, ?_, ?_, F3.out⟩
    · rw [HLEN.out.1, ← HB.out]; rfl
    · rw [HLEN.out.1, HLEN.out.2]; exact O3.out
  | true =>
    obtain rfl : m = n + 1 := by simpa using hm7
    clear hm7
    have hw1 : IntKind.i64.wrap ((n : Int) + 1) = ((n + 1 : Nat) : Int) := by rw [show (n : Int) + 1 = ((n + 1 : Nat) : Int) by omega]; exact IntWalk.i64_in _ (by omega)
    go_wp2_with (at_builtin; refine wpList_append_any _ rfl (.tmp 27) (.tmp 30) 36 rfl w.heap.size 62 i0 _ 2 32 Try.underlying36 Hi.out.1 Hi.out.2.1 Hi.out.2.2.1 Hi.out.2.2.2 rfl (by omega) (.slice A2 (n + 1) c2) (n + 1) _ rfl O.out A5 (L.length - (n + 1)) (c - (n + 1)) ((rwFlat L).drop ((n + 1) * 2)) rfl R2'.out (fun u hu => rwFlat_one L u (List.mem_of_mem_drop hu)) (by simp only [maxLen]; omega) (by omega) (by omega) ?_; intro A3 c3 w3 hown3 hgr3)
    have F3 := hid_ (F.out.grown hgr3 (fun k hk => .inr (O.out.lt k hk).1))
    have O3 := hid_ hown3
    clear hown3 hgr3
    go_wp2_with fail
    go_ret2
    refine ⟨A3, c3, ?_, ?_, F3.out⟩
    · rw [show (putR L p).length = L.length by rw [HLEN.out.1]; omega, ← HB.out]; rfl
    · rw [HLEN.out.1, HLEN.out.2]; exact O3.out
def RDropPost (L : List Rw) (A0 : Option Addr) (c0 : Nat) (key : ByteArray) (w : World) (e : Ending) (w' : World) : Prop :=
  ∃ A c, e = .returned (.tuple #[.slice A (dropR L key).length c, .bool (atR L key)]) ∧ Reads w' 2 A (dropR L key).length (rwFlat (dropR L key)) ∧ (dropR L key).length ≤ c ∧ c ≤ maxLen ∧ ((A = A0 ∧ c = c0 ∧ dropR L key = L) ∨ w'.ownsRow w.heap.size 62 2 (.slice A (dropR L key).length c) (dropR L key).length (rwFlat (dropR L key))) ∧ Fr none_ w w'
set_option maxHeartbeats 4000000 in
theorem rdrop_ok (L : List Rw) (A : Option Addr) (c : Nat) (key : ByteArray) (w : World) (h : Reads w 2 A L.length (rwFlat L)) (ho : RwsOk L) (hc : L.length ≤ c) (hm : c ≤ maxLen) (hk : SzOk key) :
    Calls Try.prog 95 #[.slice A L.length c, .string key] w (RDropPost L A c key w) := by
  obtain ⟨i0, hi0, hz0, hs0, hb0⟩ := info_parts row_info
  have Hi := hid_ (And.intro hi0 (And.intro hz0 (And.intro hs0 hb0)))
  clear hi0 hz0 hs0 hb0
  have HM := hid_ hm
  have HK := hid_ hk
  have HO := hid_ ho
  have hpl := plR_le L key
  have h3 := ho.1
  unfold maxLen at hm
  have H := hid_ h
  clear h ho hk
  go_enter Try.func95, Try.ntmps95
  go_wp2_with fail
  refine (rfind_ok L A c key w H.out HO.out HK.out).mono ?_
  rintro e w2 ⟨rfl, hf2⟩
  have F0 := hid_ hf2
  replace H := hid_ (H.out.none_fr hf2)
  clear hf2
  obtain ⟨n, hn⟩ : ∃ n, n = plR L key := ⟨_, rfl⟩
  cases hb : atR L key with
  | false =>
    have HB := hid_ hb
    have HD : Hid (dropR L key = L) := hid_ (by unfold dropR; rw [hb]; rfl)
    have CAP := hid_ hc
    rw [← hn]
    rw [← hn] at hpl
    clear hb hn
    go_wp2_with fail
    go_ret2
    refine ⟨A, c, ?_, ?_, ?_, HM.out, .inl ⟨rfl, rfl, HD.out⟩, F0.out⟩
    · rw [HD.out, HB.out]; rfl
    · rw [HD.out]; exact H.out
    · rw [HD.out]; exact CAP.out
  | true =>
    have hlt : n < L.length := by rw [hn]; exact atR_lt hb
    have HD : Hid (dropR L key = L.take n ++ L.drop (n + 1)) := hid_ (by unfold dropR; rw [hb, ← hn]; rfl)
    have HB := hid_ hb
    rw [← hn]
    rw [← hn] at hpl
    clear hb hn
    have hi0 : (0 : Int) ≤ (n : Int) := Int.natCast_nonneg _
    have hi1 : (n : Int) ≤ (L.length : Int) := by omega
    have hcl : (L.length : Int) ≤ (c : Int) := by omega
    have hi2 : (n : Int) ≤ (c : Int) := by omega
    have hw1 : IntKind.i64.wrap ((n : Int) + 1) = ((n + 1 : Nat) : Int) := by rw [show (n : Int) + 1 = ((n + 1 : Nat) : Int) by omega]; exact IntWalk.i64_in _ (by omega)
    have hi3 : (0 : Int) ≤ (n : Int) + 1 := by omega
    have hi4 : (n : Int) + 1 ≤ (L.length : Int) := by omega
    have hi5 : (n : Int) + 1 ≤ (c : Int) := by omega
    have CAP := hid_ hc
    have FL := hid_ (rwFlat_take L n)
    have hF0s := F0.out.size
    obtain ⟨A5, hA5⟩ : ∃ A5, (if c = n + 1 then A else Option.map (fun x => x.add ((n + 1) * 2)) A) = A5 := ⟨_, rfl⟩
    have R2 := H.out.cut (show n + 1 ≤ L.length by omega) CAP.out
    rw [hA5] at R2
    have R2' := hid_ R2
    clear R2
    go_upto_region 4 with fail
    have hS0 : (fun w' : World => Fr none_ w2 w') w2.drew := (Fr.refl none_ w2).drew
    refine wp_region_U (m := 12) (S := fun w' : World => Fr none_ w2 w') (by kernel_rfl) ?_
    refine wpAnyU_take2 (i := 1) (v := _) rfl (by kernel_rfl) (by kernel_rfl) (by kernel_rfl) (by kernel_rfl) (fun _ _ _ h => h) (.inl ⟨by kernel_rfl, fun w' hS => by go_simp; rfl⟩) hS0 ?_
    refine wpAnyU_take2 (i := 2) (v := _) rfl (by kernel_rfl) (by kernel_rfl) (by kernel_rfl) (by kernel_rfl) (fun _ _ _ h => h) (.inl ⟨by kernel_rfl, fun w' hS => by go_simp; rfl⟩) hS0 ?_
    refine wpAnyU_take2 (i := 3) (v := _) rfl (by kernel_rfl) (by kernel_rfl) (by kernel_rfl) (by kernel_rfl) (fun _ _ _ h => h) (.inl ⟨by kernel_rfl, fun w' hS => by go_simp; rfl⟩) hS0 ?_
    refine wpAnyU_take2 (i := 5) (v := _) rfl (by kernel_rfl) (by kernel_rfl) (by kernel_rfl) (by kernel_rfl) (fun _ _ _ h => h) (.inl ⟨by kernel_rfl, fun w' hS => by go_simp; rfl⟩) hS0 ?_
    refine wpAnyU_take2 (i := 6) (v := _) rfl (by kernel_rfl) (by kernel_rfl) (by kernel_rfl) (by kernel_rfl) (fun _ _ _ h => h) (.inl ⟨by kernel_rfl, fun w' hS => by go_simp; rfl⟩) hS0 ?_
    refine wpAnyU_take2 (i := 7) (v := _) rfl (by kernel_rfl) (by kernel_rfl) (by kernel_rfl) (by kernel_rfl) (fun _ _ _ h => h) (.inl ⟨by kernel_rfl, fun w' hS => by go_simp; rfl⟩) hS0 ?_
    refine wpAnyU_take2 (i := 8) (v := _) rfl (by kernel_rfl) (by kernel_rfl) (by kernel_rfl) (by kernel_rfl) (fun _ _ _ h => h) (.inl ⟨by kernel_rfl, fun w' hS => by go_simp; rfl⟩) hS0 ?_
    clear hS0
    obtain ⟨y1, hy1⟩ : ∃ z, z = w2.drew := ⟨_, rfl⟩
    have F2 : Hid (Fr none_ w2 y1) := hid_ (by rw [hy1]; exact (Fr.refl none_ w2).drew)
    rw [← hy1]
    clear hy1
    refine wpAnyU_one7 (i := 0) rfl (by kernel_rfl) (by kernel_rfl) ?_
    go_simp
    obtain ⟨y3, hy3⟩ : ∃ z, z = y1.alloc (.cells #[] 62) := ⟨_, rfl⟩
    have sy3 : y1.heap.size < y3.heap.size := by rw [hy3]; simp [World.size_alloc]
    have f5 : Fr none_ y1 y3 := by rw [hy3]; exact (Fr.refl none_ _).alloc _
    have OE : Hid (y3.ownsRow w2.heap.size 62 2 (.slice (some ⟨y1.heap.size, 0, none⟩) 0 0) 0 []) := hid_ (by rw [hy3]; exact own_empty _ _ _ _ (by have := F2.out.size; omega))
    have F4 := hid_ (F2.out.then_none f5)
    change _ ∧ wpAnyU _ _ _ _ _ _ _ _ _ (y1.alloc (.cells #[] 62))
    rw [← hy3]
    refine ⟨F4.out, ?_⟩
    clear hy3 f5
    refine wpAnyU_one7 (i := 4) rfl (by kernel_rfl) (by kernel_rfl) ?_
    refine wp_append_any _ (.tmp 17) (.tmp 20) 36 rfl w2.heap.size 62 i0 _ 2 32 Try.underlying36 Hi.out.1 Hi.out.2.1 Hi.out.2.2.1 Hi.out.2.2.2 rfl (by omega) (.slice (some ⟨y1.heap.size, 0, none⟩) 0 0) (0) ([]) rfl OE.out (A) (n) (c) (rwFlat (L.take n)) rfl (by rw [FL.out]; exact (H.out.upto hpl).none_fr F4.out) (rwFlat_one _) (by simp only [maxLen]; omega) (by omega) (by have := F4.out.size; omega) ?_
    intro A8 c9 y6 hown hgr
    simp only [Nat.zero_add, List.nil_append] at hown ⊢
    have sy6 := hgr.size
    have F7 := hid_ (F4.out.grown hgr (fun k hk => .inr (by have := (OE.out.lt k hk).1; omega)))
    have O10 := hid_ hown
    refine ⟨.inr F7.out, ?_⟩
    clear hown hgr OE
    have O4 := O10
    clear O10
    refine wpAnyU_one7 (i := 9) rfl (by kernel_rfl) (by kernel_rfl) ?_
    refine wp_append_any _ (.tmp 21) (.tmp 25) 36 rfl w2.heap.size 62 i0 _ 2 32 Try.underlying36 Hi.out.1 Hi.out.2.1 Hi.out.2.2.1 Hi.out.2.2.2 rfl (by omega) (.slice A8 (n) c9) (n) (rwFlat (L.take n)) rfl O4.out (A5) (L.length - (n + 1)) (c - (n + 1)) ((rwFlat L).drop ((n + 1) * 2)) rfl (R2'.out.none_fr F7.out) (fun u hu => rwFlat_one L u (List.mem_of_mem_drop hu)) (by simp only [maxLen]; omega) (by omega) (by have := F7.out.size; omega) ?_
    intro A13 c14 y11 hown hgr
    have sy11 := hgr.size
    have F12 := hid_ (F7.out.grown hgr (fun k hk => .inr (by have := (O4.out.lt k hk).1; omega)))
    have O15 := hid_ hown
    refine ⟨.inr F12.out, ?_⟩
    clear hown hgr O4
    have O9 := O15
    clear O15
    refine wpAnyU_one7 (i := 10) rfl (by kernel_rfl) (by kernel_rfl) ?_
    go_simp
    refine ⟨F12.out, ?_⟩
    refine wpAnyU_one7 (i := 11) rfl (by kernel_rfl) (by kernel_rfl) ?_
    go_simp
    refine ⟨F12.out, ?_⟩
    refine wpAnyU_done (by kernel_rfl) ?_ _
    go_wp2_with fail
    go_ret2
    have hlen : (dropR L key).length = n + (L.length - (n + 1)) := by rw [HD.out]; simp; omega
    have hfl : rwFlat (dropR L key) = rwFlat (L.take n) ++ (rwFlat L).drop ((n + 1) * 2) := by rw [HD.out, rwFlat_app, rwFlat_drop]
    refine ⟨A13, c14, ?_, ?_, ?_, ?_, .inr ?_, F0.out.then_none F12.out⟩
    · rw [hlen, HB.out]; rfl
    · rw [hlen, hfl]; exact Reads.of_own O9.out
    · obtain ⟨A', c', e, h1, h2, _⟩ := own_parts O9.out
      injection e with e1 e2 e3
      rw [hlen, e3]; exact h1
    · obtain ⟨A', c', e, h1, h2, _⟩ := own_parts O9.out
      injection e with e1 e2 e3
      rw [e3]; exact h2
    · rw [hlen, hfl]; exact own_base O9.out hF0s
def SndCut (high : ByteArray) (unb : Bool) (L : List Rw) (bb : Bool) : Prop := bb = false ↔ ((unb = true → high = nilS) ∧ RightR L)
set_option maxHeartbeats 4000000 in
theorem rsound_ok (L : List Rw) (A : Option Addr) (c : Nat) (low high : ByteArray) (unb : Bool) (w : World) (h : Reads w 2 A L.length (rwFlat L)) (ho : RwsOk L) (h1 : SzOk low) (h2 : SzOk high) :
    Calls Try.prog 91 #[.slice A L.length c, .string low, .string high, .bool unb] w (SoundLPost low high unb L w) := by
  have H0 := hid_ h
  have HO := hid_ ho
  have HS := hid_ (And.intro h1 h2)
  have h3 := ho.1
  clear h ho h1 h2
  go_enter Try.func91, Try.ntmps91
  go_upto_region 1 with fail
  go_cut [19] (fun u wq => ∃ bb : Bool, u = .bool bb ∧ SndCut high unb L bb ∧ Fr none_ w wq)
  case first =>
    go_wp2_with fail
    refine (rright_ok L A c _ H0.out HO.out).mono ?_
    rintro e w1 ⟨b, rfl, hb, hf⟩
    have HB := hid_ hb
    have F1 := hid_ hf
    clear hb hf
    cases b with
    | false =>
      cases unb with
      | false =>
        go_wp2_with fail
        go_meet
        case rel => exact ⟨true, rfl, ⟨(fun h => by cases h), fun h => by have := HB.out.2 h.2; cases this⟩, F1.out⟩
      | true =>
        go_wp2_with fail
        go_meet
        case rel => exact ⟨true, rfl, ⟨(fun h => by cases h), fun h => by have := HB.out.2 h.2; cases this⟩, F1.out⟩
    | true =>
      cases unb with
      | false =>
        go_wp2_with fail
        go_meet
        case rel => exact ⟨false, rfl, ⟨fun _ => ⟨(fun h => by cases h), HB.out.1 (by simp)⟩, fun _ => rfl⟩, F1.out⟩
      | true =>
        by_cases hb : high = nilS
        · subst hb
          go_wp2_with fail
          go_meet
          case rel => exact ⟨false, rfl, ⟨fun _ => ⟨fun _ => rfl, HB.out.1 (by simp)⟩, fun _ => rfl⟩, F1.out⟩
        · have hh : high.toList.isEmpty = false := by
            cases e : high.toList.isEmpty with
            | false => rfl
            | true => exact absurd (ba_eq (by rw [← ba_toList, List.isEmpty_iff.1 e])) hb
          have hh2 : (!high.toList.isEmpty) = true := by rw [hh]; rfl
          have HH := hid_ hb
          clear hb
          go_wp2_with fail
          go_meet
          case rel => exact ⟨true, rfl, ⟨(fun h => by cases h), fun h => absurd (h.1 rfl) HH.out⟩, F1.out⟩
  case rest =>
    obtain ⟨bb, rfl, hbb, hf⟩ := hcut
    have HB := hid_ hbb
    have F1 := hid_ hf
    have H1 := hid_ (H0.out.none_fr hf)
    clear hbb hf
    cases bb with
    | true =>
      go_wp2_with fail
      go_ret
      exact ⟨false, rfl, ⟨(fun h => by cases h), fun h => by have := HB.out.2 ⟨h.hi, h.right⟩; cases this⟩, F1.out⟩
    | false =>
      go_wp2_with fail
      go_loopw [9] (fun i wr => ∃ k : Nat, k ≤ L.length ∧ i = .int .i64 k ∧ (∀ (j : Nat) (p : Rw), j < k → L[j]? = some p → inS low high unb p.1 = true) ∧ Fr none_ w wr) (fun i _ => L.length - (intOf i).toNat)
      case atStart => exact ⟨0, Nat.zero_le _, rfl, fun j p hj => by omega, F1.out⟩
      case round =>
        obtain ⟨k, hk, rfl, hst, hF⟩ := hrel
        have ST := hid_ hst
        have H := hid_ (H0.out.none_fr hF)
        have F := hid_ hF
        clear hst hF
        have hi0 : (0 : Int) ≤ (k : Int) := Int.natCast_nonneg _
        by_cases hlt : k < L.length
        · have hi1' : (k : Int) < (L.length : Int) := by omega
          obtain ⟨p, hp⟩ : ∃ p, L[k]? = some p := ⟨_, List.getElem?_eq_getElem hlt⟩
          obtain ⟨b, off, rfl, hb2, c0, c1⟩ := rw_at H.out hp
          have HP := hid_ hp
          have hpk := (HO.out.2 p (List.mem_of_getElem? hp)).1
          have HPK := hid_ hpk
          clear hp hpk c1
          go_wp2_with fail
          refine (rin_ok low high unb p.1 wr HS.out.1.le HS.out.2.le HPK.out.le).mono ?_
          rintro e w1 ⟨rfl, q, rfl⟩
          have FQ := hid_ (F.out.drewN q)
          clear c0
          cases hin : inS low high unb p.1 with
          | false =>
            have hns : ¬ SoundR low high unb L := fun hS => by
              have h := hS.inn p (List.mem_of_getElem? HP.out)
              rw [hin] at h
              cases h
            have HNS := hid_ hns
            clear hns hin
            go_wp2_with fail
            go_ret
            exact ⟨false, rfl, ⟨(fun h => by cases h), fun h => absurd h HNS.out⟩, FQ.out⟩
          | true =>
            have hst : ∀ (j : Nat) (p : Rw), j < k + 1 → L[j]? = some p → inS low high unb p.1 = true := by
              intro j p' hj hp'
              rcases Nat.lt_succ_iff_lt_or_eq.1 hj with hj | rfl
              · exact ST.out j p' hj hp'
              · rw [HP.out] at hp'; cases hp'; exact hin
            have HST := hid_ hst
            clear hst hin
            go_wp2_with fail
            go_roundw
            case rel => exact ⟨k + 1, by omega, by go_num, HST.out, FQ.out⟩
            case measure => simp [intOf]; omega
        · obtain rfl : k = L.length := by omega
          have hS : SoundR low high unb L := ⟨(HB.out.1 rfl).1, (HB.out.1 rfl).2, fun p hp => by obtain ⟨j, hj, e⟩ := List.mem_iff_getElem.1 hp; exact ST.out j p hj (by rw [List.getElem?_eq_getElem hj, e])⟩
          have HSS := hid_ hS
          clear hS
          go_wp2_with fail
          go_ret
          exact ⟨true, rfl, ⟨fun _ => HSS.out, fun _ => rfl⟩, F.out⟩
/-- The rows ahead of a key. -/
def ahR (L : List Rw) (key : ByteArray) : List Rw := L.filter fun p => ltS p.1 key
theorem ahR_le (L : List Rw) (key : ByteArray) : (ahR L key).length ≤ L.length := List.length_filter_le _ _
theorem ahR_take {L : List Rw} {key : ByteArray} {k : Nat} {p : Rw} (hp : L[k]? = some p) : ahR (L.take (k + 1)) key = if ltS p.1 key = true then ahR (L.take k) key ++ [p] else ahR (L.take k) key := by
  unfold ahR
  rw [List.take_add_one, hp]
  simp only [Option.toList_some, List.filter_append, List.filter_cons, List.filter_nil]
  split <;> simp
set_option maxHeartbeats 4000000 in
theorem rahead_ok (L : List Rw) (A : Option Addr) (c : Nat) (key : ByteArray) (w : World) (h : Reads w 2 A L.length (rwFlat L)) (ho : RwsOk L) (hk : SzOk key) :
    Calls Try.prog 96 #[.slice A L.length c, .string key] w (JoinPostR w (ahR L key)) := by
  obtain ⟨i0, hi0, hz0, hs0, hb0⟩ := info_parts row_info
  have Hi := hid_ (And.intro hi0 (And.intro hz0 (And.intro hs0 hb0)))
  clear hi0 hz0 hs0 hb0
  have H0 := hid_ h
  have HO := hid_ ho
  have HK := hid_ hk
  have h3 := ho.1
  clear h ho hk
  go_enter Try.func96, Try.ntmps96
  go_wp2_with fail
  go_loopw [5, 6] (fun v i wr => ∃ k : Nat, k ≤ L.length ∧ i = .int .i64 k ∧ wr.ownsRow w.heap.size 62 2 v (ahR (L.take k) key).length (rwFlat (ahR (L.take k) key)) ∧ Fr none_ w wr) (fun _ i _ => L.length - (intOf i).toNat)
  case atStart => exact ⟨0, Nat.zero_le _, rfl, World.ownsRow_nil _ _ _ _, Fr.refl _ _⟩
  case round =>
    obtain ⟨k, hk, rfl, hown, hF⟩ := hrel
    obtain ⟨A1, c1, rfl⟩ := hown.shape
    have O := hid_ hown
    have H := hid_ (H0.out.none_fr hF)
    have F := hid_ hF
    clear hown hF
    have hi0 : (0 : Int) ≤ (k : Int) := Int.natCast_nonneg _
    by_cases hlt : k < L.length
    · have hi1' : (k : Int) < (L.length : Int) := by omega
      obtain ⟨p, hp⟩ : ∃ p, L[k]? = some p := ⟨_, List.getElem?_eq_getElem hlt⟩
      obtain ⟨b, off, rfl, hb2, d0, d1⟩ := rw_at H.out hp
      have HT := hid_ (ahR_take (key := key) hp)
      have hle := ahR_le (L.take k) key
      rw [List.length_take] at hle
      have hpk := (HO.out.2 p (List.mem_of_getElem? hp)).1
      have HPK := hid_ hpk
      have hfs := F.out.size
      clear hp hpk
      go_wp2_with fail
      refine (before_ok p.1 key wr HPK.out.le HK.out.le).mono ?_
      rintro e w1 ⟨rfl, q, hw1⟩
      have f1 : Fr none_ wr w1 := by rw [hw1]; exact (Fr.refl none_ wr).drewN q
      replace O := hid_ (own_none O.out f1)
      replace F := hid_ (F.out.then_none f1)
      replace d0 := cellFr d0 f1
      replace d1 := cellFr d1 f1
      have hs1 := f1.size
      clear f1 hw1
      obtain ⟨n, hn⟩ : ∃ n, n = (ahR (L.take k) key).length := ⟨_, rfl⟩
      rw [← hn] at O hle ⊢
      cases hlt2 : ltS p.1 key with
      | false =>
        have HTT : Hid (ahR (L.take (k + 1)) key = ahR (L.take k) key) := hid_ (by rw [HT.out, hlt2]; rfl)
        have HN := hid_ hn
        clear hlt2 hn d0 d1
        go_wp2_with fail
        go_roundw
        case rel => exact ⟨k + 1, by omega, by go_num, by rw [HTT.out, ← HN.out]; exact O.out, F.out⟩
        case measure => simp [intOf]; omega
      | true =>
        have HTT : Hid (ahR (L.take (k + 1)) key = ahR (L.take k) key ++ [p]) := hid_ (by rw [HT.out, hlt2]; rfl)
        have HN := hid_ hn
        clear hlt2 hn
        go_wp2_with (at_builtin; refine wpList_append_any _ rfl (.tmp 20) (.tmp 25) 36 rfl w.heap.size 62 i0 _ 2 32 Try.underlying36 Hi.out.1 Hi.out.2.1 Hi.out.2.2.1 Hi.out.2.2.2 rfl (by omega) (.slice A1 n c1) n (rwFlat (ahR (L.take k) key)) rfl (own_none O.out ((Fr.refl none_ _).alloc _)) (some ⟨w1.heap.size, 0, none⟩) 1 1 [.string p.1, .string p.2] rfl (reads_new w1 _ [.string p.1, .string p.2] _ rfl) (by simp [Value.oneCell']) (by simp only [maxLen]; omega) (by omega) (by simp [World.size_alloc]; omega) ?_; intro A3 c3 w3 hown3 hgr3)
        have F3 := hid_ ((F.out.alloc (.cells #[.string p.1, .string p.2] 62)).grown hgr3 (fun k hk => .inr (O.out.lt k hk).1))
        have O3 := hid_ hown3
        clear hown3 hgr3 d0 d1
        go_wp2_with fail
        go_roundw
        case rel => exact ⟨k + 1, by omega, by go_num, by
          rw [HTT.out, List.length_append, List.length_singleton, ← HN.out, rwFlat_app, rwFlat_single]
          exact O3.out, F3.out⟩
        case measure => simp [intOf]; omega
    · obtain rfl : k = L.length := by omega
      have o := O.out
      have f := F.out
      rw [List.take_length] at o
      go_wp2
      go_ret
      rw [List.take_length]
      exact ⟨A1, c1, rfl, o, f⟩
end Go.Proofs.Ytpjbncbmdfmlpaa
namespace Go.Proofs.Ytpjbncbmdfmlpaa
open Go.RowKit Go.BigFrame
set_option maxRecDepth 100000
set_option linter.unusedVariables false

/-- The rows of records are rows that may be. -/
def RwOkL (L : List Ch) : Prop := ∀ C ∈ L, SzOk C.R.val ∧ RwsOk C.R.rows ∧ C.R.rows.length ≤ 500
/-- The view in its box, behind the records from k on. -/
structure FoldStL (w : World) (L : List Ch) (X k : Nat) (V : Lw) (A : Option Addr) (c : Nat) (wr : World) : Prop where
  fo : foldL ((L.drop k).map (·.R)) = some V
  bx : Blk wr X 38 (lwA V (.slice A V.rows.length c))
  bo : Blk wr w.heap.size 38 lwZ
  vin : LwIn w.heap.size wr V A c
  len : V.rows.length ≤ (L.length - k) * 501
  fr : Fr none_ w wr
def FoldCutL (w : World) (L : List Ch) (X j : Nat) (bb : Bool) (wq : World) : Prop :=
  (bb = true ∧ ∃ (V : Lw) (A : Option Addr) (c : Nat), FoldStL w L X j V A c wq) ∨ (bb = false ∧ foldL ((L.drop j).map (·.R)) = none ∧ Blk wq w.heap.size 38 lwZ ∧ Fr none_ w wq)
def FoldPostL (l : List Rc) (w : World) (e : Ending) (w' : World) : Prop :=
  (∃ V A c, (∀ R ∈ l, KindL R) ∧ foldL l = some V ∧ e = .returned (.tuple #[lwV V (.slice A V.rows.length c), .nilIface]) ∧ LwIn w.heap.size w' V A c ∧ Fr none_ w w') ∨
  (∃ k : Int, ((k = 9 ∧ ∃ R ∈ l, ¬ KindL R) ∨ (k = 10 ∧ (∀ R ∈ l, KindL R) ∧ foldL l = none)) ∧ e = .returned (.tuple #[lwV Lw.zero (.slice none 0 0), errV k]) ∧ Fr none_ w w')
theorem box3 {w1 : World} {b : Nat} {t : TypeId} {c0 c1 c2 : Value} (h : Blk w1 b t #[c0, c1, c2]) (x0 x1 x2 : Value) :
    Blk (((w1.setCell ⟨b, 0, none⟩ x0).setCell ⟨b, 1, none⟩ x1).setCell ⟨b, 2, none⟩ x2) b t #[x0, x1, x2] ∧ Fr (only b) w1 (((w1.setCell ⟨b, 0, none⟩ x0).setCell ⟨b, 1, none⟩ x1).setCell ⟨b, 2, none⟩ x2) := by
  refine ⟨?_, frOnly7 (frOnly7 (frOnly7 (Fr.refl _ w1) _) _) _⟩
  have e := (((h.set_ 0 x0).set_ 1 x1).set_ 2 x2)
  simp only [List.setIfInBounds_toArray, List.set_cons_zero, List.set_cons_succ] at e
  exact e
set_option maxHeartbeats 4000000 in
theorem spanL_ok (V : Lw) (vr : Value) (w : World) : Calls Try.prog 86 #[lwV V vr] w fun e w' => e = .returned (.agg #[.string V.low, .string V.high, .bool V.unb]) ∧ Fr none_ w w' := by
  obtain ⟨w0, hw0⟩ : ∃ z, z = (w.alloc (.cells (lwA V vr) 38)).alloc (.cells #[.string ⟨#[]⟩, .string ⟨#[]⟩, .bool false] 175) := ⟨_, rfl⟩
  have f0 : Fr none_ w w0 := by rw [hw0]; exact ((Fr.refl none_ w).alloc _).alloc _
  have BV : Hid (Blk w0 w.heap.size 38 (lwA V vr)) := hid_ (by rw [hw0]; exact (Blk.new w _ _).alloc _)
  have BS : Hid (Blk w0 (w.heap.size + 1) 175 #[.string ⟨#[]⟩, .string ⟨#[]⟩, .bool false]) := hid_ (by rw [hw0]; exact Blk.new7 _ _ (by simp))
  have F0 := hid_ f0
  clear f0
  go_enter Try.func86, Try.ntmps86
  go_upto_region 1 with fail
  change Code.wp _ _ _ _ ((w.alloc (.cells (lwA V vr) 38)).alloc (.cells #[.string ⟨#[]⟩, .string ⟨#[]⟩, .bool false] 175))
  rw [← hw0]
  clear hw0
  have v0 : w0.cell? ⟨w.heap.size, 0, none⟩ = some (.string V.low) := BV.out.cell' rfl
  have v1 : w0.cell? ⟨w.heap.size, 1, none⟩ = some (.string V.high) := BV.out.cell' rfl
  have v2 : w0.cell? ⟨w.heap.size, 2, none⟩ = some (.bool V.unb) := BV.out.cell' rfl
  have s0 : w0.cell? ⟨w.heap.size + 1, 0, none⟩ = some (.string ⟨#[]⟩) := BS.out.cell' rfl
  have s1 : w0.cell? ⟨w.heap.size + 1, 1, none⟩ = some (.string ⟨#[]⟩) := BS.out.cell' rfl
  have s2 : w0.cell? ⟨w.heap.size + 1, 2, none⟩ = some (.bool false) := BS.out.cell' rfl
  have z0 := BS.out.frozen 0
  have z1 := BS.out.frozen 1
  have z2 := BS.out.frozen 2
  go_wp2_with fail
  clear v0 v1 v2 s0 s1 s2 z0 z1 z2
  obtain ⟨qb, qf⟩ := box3 BS.out (.string V.low) (.string V.high) (.bool V.unb)
  have q0 := qb.cell' (i := 0) rfl
  have q1 := qb.cell' (i := 1) rfl
  have q2 := qb.cell' (i := 2) rfl
  refine bodyPost_ret (v := .agg #[.string V.low, .string V.high, .bool V.unb]) ?_ rfl ⟨rfl, F0.out.then_only qf (.inr (by omega))⟩
  simp [results, Try.results86, go_sem, q0, q1, q2]
set_option maxHeartbeats 8000000 in
theorem foldL_ok (A : Option Addr) (n cap : Nat) (L : List Ch) (w : World) (h : ChReads w A n L) (hn : n ≤ 400) (hs : RwOkL L) :
    Calls Try.prog 59 #[.slice A n cap] w (FoldPostL (L.map (·.R)) w) := by
  have hln := h.1
  obtain ⟨w0, hw0⟩ : ∃ w0, w0 = w.alloc (.cells lwZ 38) := ⟨_, rfl⟩
  have f0 : Fr none_ w w0 := by rw [hw0]; exact (Fr.refl none_ w).alloc _
  have BO : Hid (Blk w0 w.heap.size 38 lwZ) := hid_ (by rw [hw0]; exact Blk.new w _ _)
  have F0 := hid_ f0
  have H := hid_ h
  have HS := hid_ hs
  have hsz0 : w.heap.size < w0.heap.size := BO.out.lt
  clear h f0 hs
  go_enter Try.func59, Try.ntmps59
  go_wp2_with fail
  change Code.wp _ _ _ _ (w.alloc (.cells lwZ 38))
  rw [← hw0]
  clear hw0
  go_loopw [13] (fun i wr => ∃ k : Nat, k ≤ n ∧ i = .int .i64 k ∧ (∀ (j : Nat) C, j < k → L[j]? = some C → KindL C.R) ∧ Fr none_ w0 wr) (fun i _ => n - (intOf i).toNat)
  case atStart => exact ⟨0, Nat.zero_le _, rfl, fun j C hj => by omega, Fr.refl _ _⟩
  case round =>
    obtain ⟨k, hk, rfl, hall, hF⟩ := hrel
    have HA := hid_ hall
    have F := hid_ hF
    clear hall hF
    have hi0 : (0 : Int) ≤ (k : Int) := Int.natCast_nonneg _
    by_cases hlt : k < n
    · obtain ⟨C, hC⟩ : ∃ C, L[k]? = some C := ⟨_, List.getElem?_eq_getElem (by omega)⟩
      obtain ⟨b, off, rfl, hb, hR, hO⟩ := (H.out.keep (F0.out.then_none F.out)).at_ hC
      have hi1 : (k : Int) < (n : Int) := by omega
      have HR := hid_ hR
      have HC := hid_ hC
      clear hR hO hC
      go_upto_region 4 with (first | (refine wpList_load_mid rfl 58 (.tmp 15) rfl b (off + k * 15) rfl (recL C) _ HR.out Try.underlying58 rfl rec_size8 ?_) | (refine wpList_store_mid rfl 58 (.tmp 5) (.tmp 16) rfl wr.heap.size 0 (recL C).toArray rfl rfl (new_there wr _ recZ8) rec_size8 (rec_one C) ?_; obtain ⟨w1, hw1⟩ : ∃ w1, w1 = (wr.alloc (.cells recZ8 58)).setCells wr.heap.size 0 (recL C) := ⟨_, rfl⟩; change wpList _ _ _ _ _ ((wr.alloc (.cells recZ8 58)).setCells wr.heap.size 0 (recL C)); rw [← hw1]; have P1 : Hid (Blk w1 wr.heap.size 58 (recL C).toArray ∧ Fr none_ wr w1) := hid_ (by rw [hw1]; exact new_copy wr _ recZ8 _ rfl); clear hw1))
      have BO1 := hid_ (BO.out.fr (F.out.then_none P1.out.2) id)
      have F1 := hid_ (F0.out.then_none (F.out.then_none P1.out.2))
      have c0 : w1.cell? ⟨wr.heap.size, 0, none⟩ = some (.int .i64 C.R.kind) := P1.out.1.cell' rfl
      have s0 : w1.cell? ⟨w.heap.size, 0, none⟩ = some (.string nilS) := BO1.out.cell' rfl
      have z0 := BO1.out.frozen 0
      have s1 : w1.cell? ⟨w.heap.size, 1, none⟩ = some (.string nilS) := BO1.out.cell' rfl
      have z1 := BO1.out.frozen 1
      have s2 : w1.cell? ⟨w.heap.size, 2, none⟩ = some (.bool false) := BO1.out.cell' rfl
      have z2 := BO1.out.frozen 2
      have s3 : w1.cell? ⟨w.heap.size, 3, none⟩ = some (.int .i64 0) := BO1.out.cell' rfl
      have z3 := BO1.out.frozen 3
      have s4 : w1.cell? ⟨w.heap.size, 4, none⟩ = some (.slice none 0 0) := BO1.out.cell' rfl
      have z4 := BO1.out.frozen 4
      have s5 : w1.cell? ⟨w.heap.size, 5, none⟩ = some (.bool false) := BO1.out.cell' rfl
      have z5 := BO1.out.frozen 5
      by_cases h7 : C.R.kind < 1
      · have hno : ∃ R ∈ L.map (·.R), ¬ KindL R := ⟨C.R, List.mem_map.2 ⟨C, List.mem_of_getElem? HC.out, rfl⟩, fun hh => by have := hh.1; omega⟩
        have HNO := hid_ hno
        clear hno
        go_wp2_with fail
        clear s0 z0 s1 z1 s2 z2 s3 z3 s4 z4 s5 z5
        obtain ⟨qb, qf⟩ := box6 BO1.out (.string nilS) (.string nilS) (.bool false) (.int .i64 0) (.slice none 0 0) (.bool false)
        have q0 := qb.cell' (i := 0) rfl
        have q1 := qb.cell' (i := 1) rfl
        have q2 := qb.cell' (i := 2) rfl
        have q3 := qb.cell' (i := 3) rfl
        have q4 := qb.cell' (i := 4) rfl
        have q5 := qb.cell' (i := 5) rfl
        refine bodyPost_ret (v := .tuple #[lwV Lw.zero (.slice none 0 0), errV 9]) ?_ rfl (.inr ⟨9, .inl ⟨rfl, HNO.out⟩, rfl, F1.out.then_only qf (.inr (Nat.le_refl _))⟩)
        simp [results, Try.results59, go_sem, Lw.zero, q0, q1, q2, q3, q4, q5]
      by_cases h11 : 6 < C.R.kind
      · have hno : ∃ R ∈ L.map (·.R), ¬ KindL R := ⟨C.R, List.mem_map.2 ⟨C, List.mem_of_getElem? HC.out, rfl⟩, fun hh => by have := hh.2; omega⟩
        have HNO := hid_ hno
        clear hno
        go_wp2_with fail
        clear s0 z0 s1 z1 s2 z2 s3 z3 s4 z4 s5 z5
        obtain ⟨qb, qf⟩ := box6 BO1.out (.string nilS) (.string nilS) (.bool false) (.int .i64 0) (.slice none 0 0) (.bool false)
        have q0 := qb.cell' (i := 0) rfl
        have q1 := qb.cell' (i := 1) rfl
        have q2 := qb.cell' (i := 2) rfl
        have q3 := qb.cell' (i := 3) rfl
        have q4 := qb.cell' (i := 4) rfl
        have q5 := qb.cell' (i := 5) rfl
        refine bodyPost_ret (v := .tuple #[lwV Lw.zero (.slice none 0 0), errV 9]) ?_ rfl (.inr ⟨9, .inl ⟨rfl, HNO.out⟩, rfl, F1.out.then_only qf (.inr (Nat.le_refl _))⟩)
        simp [results, Try.results59, go_sem, Lw.zero, q0, q1, q2, q3, q4, q5]
      go_wp2_with fail
      go_roundw
      case rel => exact ⟨k + 1, by omega, by go_num, fun j C' hj hC' => by
        rcases Nat.lt_succ_iff_lt_or_eq.1 hj with hj | rfl
        · exact HA.out j C' hj hC'
        · rw [HC.out] at hC'; cases hC'; exact ⟨by omega, by omega⟩, F.out.then_none P1.out.2⟩
      case measure => simp [intOf]; omega
    · obtain rfl : k = n := by omega
      have HK : Hid (∀ R ∈ L.map (·.R), KindL R) := hid_ (fun R hR => by
        obtain ⟨C, hC, rfl⟩ := List.mem_map.1 hR
        obtain ⟨j, hj, e⟩ := List.mem_iff_getElem.1 hC
        exact HA.out j C (by omega) (by rw [List.getElem?_eq_getElem hj, e]))
      have F1 := hid_ (F0.out.then_none F.out)
      have BO1 := hid_ (BO.out.fr F.out id)
      have hsz1 := F.out.size
      clear HA hlt hi0 BO F0
      have s0 : wr.cell? ⟨w.heap.size, 0, none⟩ = some (.string nilS) := BO1.out.cell' rfl
      have z0 := BO1.out.frozen 0
      have s1 : wr.cell? ⟨w.heap.size, 1, none⟩ = some (.string nilS) := BO1.out.cell' rfl
      have z1 := BO1.out.frozen 1
      have s2 : wr.cell? ⟨w.heap.size, 2, none⟩ = some (.bool false) := BO1.out.cell' rfl
      have z2 := BO1.out.frozen 2
      have s3 : wr.cell? ⟨w.heap.size, 3, none⟩ = some (.int .i64 0) := BO1.out.cell' rfl
      have z3 := BO1.out.frozen 3
      have s4 : wr.cell? ⟨w.heap.size, 4, none⟩ = some (.slice none 0 0) := BO1.out.cell' rfl
      have z4 := BO1.out.frozen 4
      have s5 : wr.cell? ⟨w.heap.size, 5, none⟩ = some (.bool false) := BO1.out.cell' rfl
      have z5 := BO1.out.frozen 5
      by_cases hk0 : k = 0
      · have hno : foldL (L.map (·.R)) = none := by rw [List.eq_nil_of_length_eq_zero (by omega : L.length = 0)]; rfl
        have HNO := hid_ hno
        subst hk0
        clear hno
        go_wp2_with fail
        clear s0 z0 s1 z1 s2 z2 s3 z3 s4 z4 s5 z5
        obtain ⟨qb, qf⟩ := box6 BO1.out (.string nilS) (.string nilS) (.bool false) (.int .i64 0) (.slice none 0 0) (.bool false)
        have q0 := qb.cell' (i := 0) rfl
        have q1 := qb.cell' (i := 1) rfl
        have q2 := qb.cell' (i := 2) rfl
        have q3 := qb.cell' (i := 3) rfl
        have q4 := qb.cell' (i := 4) rfl
        have q5 := qb.cell' (i := 5) rfl
        refine bodyPost_ret (v := .tuple #[lwV Lw.zero (.slice none 0 0), errV 10]) ?_ rfl (.inr ⟨10, .inr ⟨rfl, HK.out, HNO.out⟩, rfl, F1.out.then_only qf (.inr (Nat.le_refl _))⟩)
        simp [results, Try.results59, go_sem, Lw.zero, q0, q1, q2, q3, q4, q5]
      obtain ⟨m, rfl⟩ : ∃ m, k = m + 1 := ⟨k - 1, by omega⟩
      obtain ⟨D, hD⟩ : ∃ D, L[m]? = some D := ⟨_, List.getElem?_eq_getElem (by omega)⟩
      obtain ⟨b, off, rfl, hb, hR, hO⟩ := (H.out.keep F1.out).at_ hD
      have HD := hid_ hD
      have HR := hid_ hR
      have HO := hid_ hO
      have HDS := hid_ (HS.out D (List.mem_of_getElem? hD))
      have hDs := HDS.out.2.2
      have hDm : (L.map (·.R))[m]? = some D.R := by rw [List.getElem?_map, hD]; rfl
      have hLD : (L.map (·.R)).drop m = [D.R] := foldU_last (by rw [List.length_map]; omega) hDm
      have HLD := hid_ hLD
      have hi0 : (0 : Int) ≤ (m : Int) := Int.natCast_nonneg _
      have hi1 : (m : Int) < ((m + 1 : Nat) : Int) := by omega
      have hi2 : (m : Int) < (m : Int) + 1 := by omega
      have hw1 : IntKind.i64.wrap ((m : Int) + 1 - 1) = (m : Int) := by rw [show (m : Int) + 1 - 1 = (m : Int) by omega]; exact IntWalk.i64_in _ (by omega)
      have k0 : wr.cell? ⟨b, off + m * 15, none⟩ = some (.int .i64 D.R.kind) := HR.out 0 _ rfl
      clear hD hR hO hDm hLD hk0
      by_cases h7 : D.R.kind = 1
      case neg =>
        have hno : foldL (L.map (·.R)) = none := by
          have := foldL_none (l := L.map (·.R)) (j := m) (by rw [List.length_map]; omega) (by rw [HLD.out]; exact foldL_one_no _ (fun h => h7 h.1)) 0 (Nat.zero_le _)
          simpa using this
        have HNO := hid_ hno
        have h7' : (D.R.kind != 1) = true := by simpa using h7
        clear hno h7
        go_wp2_with fail
        clear s0 z0 s1 z1 s2 z2 s3 z3 s4 z4 s5 z5
        obtain ⟨qb, qf⟩ := box6 BO1.out (.string nilS) (.string nilS) (.bool false) (.int .i64 0) (.slice none 0 0) (.bool false)
        have q0 := qb.cell' (i := 0) rfl
        have q1 := qb.cell' (i := 1) rfl
        have q2 := qb.cell' (i := 2) rfl
        have q3 := qb.cell' (i := 3) rfl
        have q4 := qb.cell' (i := 4) rfl
        have q5 := qb.cell' (i := 5) rfl
        refine bodyPost_ret (v := .tuple #[lwV Lw.zero (.slice none 0 0), errV 10]) ?_ rfl (.inr ⟨10, .inr ⟨rfl, HK.out, HNO.out⟩, rfl, F1.out.then_only qf (.inr (Nat.le_refl _))⟩)
        simp [results, Try.results59, go_sem, Lw.zero, q0, q1, q2, q3, q4, q5]
      have h7' : (D.R.kind != 1) = false := by simpa using h7
      have H7 := hid_ h7
      clear h7
      go_upto_region 11 with (first | (refine wpList_load_mid rfl 58 (.tmp 45) rfl b (off + m * 15) rfl (recL D) _ HR.out Try.underlying58 rfl rec_size8 ?_) | (refine wpList_store_mid rfl 58 (.tmp 7) (.tmp 46) rfl wr.heap.size 0 (recL D).toArray rfl rfl (new_there wr _ recZ8) rec_size8 (rec_one D) ?_; obtain ⟨w1, hw1⟩ : ∃ w1, w1 = (wr.alloc (.cells recZ8 58)).setCells wr.heap.size 0 (recL D) := ⟨_, rfl⟩; change wpList _ _ _ _ _ ((wr.alloc (.cells recZ8 58)).setCells wr.heap.size 0 (recL D)); rw [← hw1]; have P1 : Hid (Blk w1 wr.heap.size 58 (recL D).toArray ∧ Fr none_ wr w1) := hid_ (by rw [hw1]; exact new_copy wr _ recZ8 _ rfl); clear hw1))
      go_frame
      have BO2 := hid_ (BO1.out.fr P1.out.2 id)
      have F2 := hid_ (F1.out.then_none P1.out.2)
      have RD2 := hid_ (HO.out.rd.r.none_fr P1.out.2)
      have hsz2 := P1.out.2.size
      clear s0 z0 s1 z1 s2 z2 s3 z3 s4 z4 s5 z5
      go_cut [8] (fun v wq => ∃ X A' c', v = .pointer (some ⟨X, 0, none⟩) ∧ w.heap.size < X ∧ Blk wq X 38 (lwA (baseL D.R) (.slice A' D.R.rows.length c')) ∧ LwIn w.heap.size wq (baseL D.R) A' c' ∧ Fr none_ w1 wq)
      case first =>
        have g1 : w1.cell? ⟨wr.heap.size, 1, none⟩ = some (.string D.R.low) := P1.out.1.cell' rfl
        have g2 : w1.cell? ⟨wr.heap.size, 2, none⟩ = some (.string D.R.high) := P1.out.1.cell' rfl
        have g3 : w1.cell? ⟨wr.heap.size, 3, none⟩ = some (.bool D.R.unb) := P1.out.1.cell' rfl
        have g4 : w1.cell? ⟨wr.heap.size, 4, none⟩ = some (.int .i64 D.R.right) := P1.out.1.cell' rfl
        have g5 : w1.cell? ⟨wr.heap.size, 5, none⟩ = some (.slice D.A D.R.rows.length D.c) := P1.out.1.cell' rfl
        have hS0 : (fun w' : World => Fr none_ w1 w') w1.drew := (Fr.refl none_ w1).drew
        refine wp_region_U (m := 13) (S := fun w' : World => Fr none_ w1 w') (by kernel_rfl) ?_
        refine wpAnyU_take2 (i := 0) (v := _) rfl (by kernel_rfl) (by kernel_rfl) (by kernel_rfl) (by kernel_rfl) (fun _ _ _ h => h) (.inl ⟨by kernel_rfl, fun w' hS => by have s_g1 := cellFr g1 hS; have s_g2 := cellFr g2 hS; have s_g3 := cellFr g3 hS; have s_g4 := cellFr g4 hS; have s_g5 := cellFr g5 hS; go_simp; rfl⟩) hS0 ?_
        refine wpAnyU_take2 (i := 1) (v := _) rfl (by kernel_rfl) (by kernel_rfl) (by kernel_rfl) (by kernel_rfl) (fun _ _ _ h => h) (.inl ⟨by kernel_rfl, fun w' hS => by have s_g1 := cellFr g1 hS; have s_g2 := cellFr g2 hS; have s_g3 := cellFr g3 hS; have s_g4 := cellFr g4 hS; have s_g5 := cellFr g5 hS; go_simp; rfl⟩) hS0 ?_
        refine wpAnyU_take2 (i := 2) (v := _) rfl (by kernel_rfl) (by kernel_rfl) (by kernel_rfl) (by kernel_rfl) (fun _ _ _ h => h) (.inl ⟨by kernel_rfl, fun w' hS => by have s_g1 := cellFr g1 hS; have s_g2 := cellFr g2 hS; have s_g3 := cellFr g3 hS; have s_g4 := cellFr g4 hS; have s_g5 := cellFr g5 hS; go_simp; rfl⟩) hS0 ?_
        refine wpAnyU_take2 (i := 3) (v := _) rfl (by kernel_rfl) (by kernel_rfl) (by kernel_rfl) (by kernel_rfl) (fun _ _ _ h => h) (.inl ⟨by kernel_rfl, fun w' hS => by have s_g1 := cellFr g1 hS; have s_g2 := cellFr g2 hS; have s_g3 := cellFr g3 hS; have s_g4 := cellFr g4 hS; have s_g5 := cellFr g5 hS; go_simp; rfl⟩) hS0 ?_
        refine wpAnyU_take2 (i := 4) (v := _) rfl (by kernel_rfl) (by kernel_rfl) (by kernel_rfl) (by kernel_rfl) (fun _ _ _ h => h) (.inl ⟨by kernel_rfl, fun w' hS => by have s_g1 := cellFr g1 hS; have s_g2 := cellFr g2 hS; have s_g3 := cellFr g3 hS; have s_g4 := cellFr g4 hS; have s_g5 := cellFr g5 hS; go_simp; rfl⟩) hS0 ?_
        refine wpAnyU_take2 (i := 5) (v := _) rfl (by kernel_rfl) (by kernel_rfl) (by kernel_rfl) (by kernel_rfl) (fun _ _ _ h => h) (.inl ⟨by kernel_rfl, fun w' hS => by have s_g1 := cellFr g1 hS; have s_g2 := cellFr g2 hS; have s_g3 := cellFr g3 hS; have s_g4 := cellFr g4 hS; have s_g5 := cellFr g5 hS; go_simp; rfl⟩) hS0 ?_
        refine wpAnyU_take2 (i := 6) (v := _) rfl (by kernel_rfl) (by kernel_rfl) (by kernel_rfl) (by kernel_rfl) (fun _ _ _ h => h) (.inl ⟨by kernel_rfl, fun w' hS => by have s_g1 := cellFr g1 hS; have s_g2 := cellFr g2 hS; have s_g3 := cellFr g3 hS; have s_g4 := cellFr g4 hS; have s_g5 := cellFr g5 hS; go_simp; rfl⟩) hS0 ?_
        refine wpAnyU_take2 (i := 7) (v := _) rfl (by kernel_rfl) (by kernel_rfl) (by kernel_rfl) (by kernel_rfl) (fun _ _ _ h => h) (.inl ⟨by kernel_rfl, fun w' hS => by have s_g1 := cellFr g1 hS; have s_g2 := cellFr g2 hS; have s_g3 := cellFr g3 hS; have s_g4 := cellFr g4 hS; have s_g5 := cellFr g5 hS; go_simp; rfl⟩) hS0 ?_
        refine wpAnyU_take2 (i := 8) (v := _) rfl (by kernel_rfl) (by kernel_rfl) (by kernel_rfl) (by kernel_rfl) (fun _ _ _ h => h) (.inl ⟨by kernel_rfl, fun w' hS => by have s_g1 := cellFr g1 hS; have s_g2 := cellFr g2 hS; have s_g3 := cellFr g3 hS; have s_g4 := cellFr g4 hS; have s_g5 := cellFr g5 hS; go_simp; rfl⟩) hS0 ?_
        refine wpAnyU_take2 (i := 9) (v := _) rfl (by kernel_rfl) (by kernel_rfl) (by kernel_rfl) (by kernel_rfl) (fun _ _ _ h => h) (.inl ⟨by kernel_rfl, fun w' hS => by have s_g1 := cellFr g1 hS; have s_g2 := cellFr g2 hS; have s_g3 := cellFr g3 hS; have s_g4 := cellFr g4 hS; have s_g5 := cellFr g5 hS; go_simp; rfl⟩) hS0 ?_
        clear hS0
        refine wpAnyU_two7 (i := 10) (j := 12) rfl rfl (by kernel_rfl) (by kernel_rfl) (by kernel_rfl) ?_ ?_
        · go_simp
          refine (copyR_ok D.R.rows D.A D.c w1.drew RD2.out (by omega)).mono ?_
          rintro e w4 ⟨A', c', rfl, ho, hf4⟩
          have F4 : Hid (Fr none_ w1 w4) := hid_ ((Fr.refl none_ w1).drew.then_none hf4)
          have O4 := hid_ ho
          have hs4 := F4.out.size
          have hbo : w1.heap.size = w1.drew.heap.size := rfl
          clear ho hf4
          refine ⟨F4.out, ?_⟩
          refine wpAnyU_take2 (i := 11) (v := _) rfl (by kernel_rfl) (by kernel_rfl) (by kernel_rfl) (by kernel_rfl) (fun _ _ _ h => h) (.inl ⟨by kernel_rfl, fun w' hS => by skip; go_simp; rfl⟩) F4.out ?_
          refine wpAnyU_one7 (i := 12) rfl (by kernel_rfl) (by kernel_rfl) ?_
          go_simp
          obtain ⟨w5, hw5⟩ : ∃ w5, w5 = w4.alloc (.cells lwZ 38) := ⟨_, rfl⟩
          have X5 : Hid (Blk w5 w4.heap.size 38 lwZ) := hid_ (by rw [hw5]; exact Blk.new w4 _ _)
          have F5 : Hid (Fr none_ w1 w5) := hid_ (by rw [hw5]; exact F4.out.alloc _)
          have O5 := hid_ (own_none O4.out (by rw [hw5]; exact (Fr.refl none_ w4).alloc (.cells lwZ 38) : Fr none_ w4 w5))
          rw [← hw5]
          clear hw5
          refine ⟨F5.out, ?_⟩
          have s0 : w5.cell? ⟨w4.heap.size, 0, none⟩ = some (.string nilS) := X5.out.cell' rfl
          have z0 := X5.out.frozen 0
          have s1 : w5.cell? ⟨w4.heap.size, 1, none⟩ = some (.string nilS) := X5.out.cell' rfl
          have z1 := X5.out.frozen 1
          have s2 : w5.cell? ⟨w4.heap.size, 2, none⟩ = some (.bool false) := X5.out.cell' rfl
          have z2 := X5.out.frozen 2
          have s3 : w5.cell? ⟨w4.heap.size, 3, none⟩ = some (.int .i64 0) := X5.out.cell' rfl
          have z3 := X5.out.frozen 3
          have s4 : w5.cell? ⟨w4.heap.size, 4, none⟩ = some (.slice none 0 0) := X5.out.cell' rfl
          have z4 := X5.out.frozen 4
          have s5 : w5.cell? ⟨w4.heap.size, 5, none⟩ = some (.bool false) := X5.out.cell' rfl
          have z5 := X5.out.frozen 5
          refine wpAnyU_one7 (i := 13) rfl (by kernel_rfl) (by kernel_rfl) ?_
          go_simp
          refine wpAnyU_done (by kernel_rfl) ?_ _
          clear s0 z0 s1 z1 s2 z2 s3 z3 s4 z4 s5 z5
          obtain ⟨qb, qf⟩ := box6 X5.out (.string D.R.low) (.string D.R.high) (.bool D.R.unb) (.int .i64 D.R.right) (.slice A' D.R.rows.length c') (.bool false)
          have hvin := lwin_of_own (b0 := w.heap.size) (V := baseL D.R) (own_fr O5.out qf (fun k hk e => own_blk_ne O5.out X5.out (by decide) (by rw [hk, show k = w4.heap.size from e]))) (by omega) rfl ⟨HO.out.low, HO.out.high, HDS.out.2.1⟩
          have hfr := F5.out.then_only qf (.inr (by omega))
          have HREL := hid_ (And.intro hvin (And.intro qb hfr))
          clear hvin qb qf hfr
          go_wp2
          go_meet
          case rel => exact ⟨_, A', c', rfl, by omega, HREL.out.2.1, HREL.out.1, HREL.out.2.2⟩
        · go_simp
          refine ⟨(Fr.refl none_ w1).drew.alloc _, ?_⟩
          refine wpAnyU_one7 (i := 10) rfl (by kernel_rfl) (by kernel_rfl) ?_
          go_simp
          obtain ⟨w3, hw3⟩ : ∃ w3, w3 = (w1.alloc (.cells lwZ 38)).drew := ⟨_, rfl⟩
          have f3 : Fr none_ w1 w3 := by rw [hw3]; exact ((Fr.refl none_ w1).alloc _).drew
          have X3 : Hid (Blk w3 w1.heap.size 38 lwZ) := hid_ (by rw [hw3]; exact (Blk.new w1 _ _).drew)
          have hs3 := f3.size
          rw [← hw3]
          clear hw3
          refine (copyR_ok D.R.rows D.A D.c w3 (RD2.out.none_fr f3) (by omega)).mono ?_
          rintro e w4 ⟨A', c', rfl, ho, hf4⟩
          have F4 : Hid (Fr none_ w1 w4) := hid_ (f3.then_none hf4)
          have X4 := hid_ (X3.out.fr hf4 id)
          have O4 := hid_ ho
          clear ho hf4 X3 f3
          refine ⟨F4.out, ?_⟩
          refine wpAnyU_take2 (i := 11) (v := _) rfl (by kernel_rfl) (by kernel_rfl) (by kernel_rfl) (by kernel_rfl) (fun _ _ _ h => h) (.inl ⟨by kernel_rfl, fun w' hS => by skip; go_simp; rfl⟩) F4.out ?_
          have s0 : w4.cell? ⟨w1.heap.size, 0, none⟩ = some (.string nilS) := X4.out.cell' rfl
          have z0 := X4.out.frozen 0
          have s1 : w4.cell? ⟨w1.heap.size, 1, none⟩ = some (.string nilS) := X4.out.cell' rfl
          have z1 := X4.out.frozen 1
          have s2 : w4.cell? ⟨w1.heap.size, 2, none⟩ = some (.bool false) := X4.out.cell' rfl
          have z2 := X4.out.frozen 2
          have s3 : w4.cell? ⟨w1.heap.size, 3, none⟩ = some (.int .i64 0) := X4.out.cell' rfl
          have z3 := X4.out.frozen 3
          have s4 : w4.cell? ⟨w1.heap.size, 4, none⟩ = some (.slice none 0 0) := X4.out.cell' rfl
          have z4 := X4.out.frozen 4
          have s5 : w4.cell? ⟨w1.heap.size, 5, none⟩ = some (.bool false) := X4.out.cell' rfl
          have z5 := X4.out.frozen 5
          refine wpAnyU_one7 (i := 13) rfl (by kernel_rfl) (by kernel_rfl) ?_
          go_simp
          refine wpAnyU_done (by kernel_rfl) ?_ _
          clear s0 z0 s1 z1 s2 z2 s3 z3 s4 z4 s5 z5
          obtain ⟨qb, qf⟩ := box6 X4.out (.string D.R.low) (.string D.R.high) (.bool D.R.unb) (.int .i64 D.R.right) (.slice A' D.R.rows.length c') (.bool false)
          have hvin := lwin_of_own (b0 := w.heap.size) (V := baseL D.R) (own_fr O4.out qf (fun k hk e => own_blk_ne O4.out X4.out (by decide) (by rw [hk, show k = w1.heap.size from e]))) (by omega) rfl ⟨HO.out.low, HO.out.high, HDS.out.2.1⟩
          have hfr := F4.out.then_only qf (.inr (by omega))
          have HREL := hid_ (And.intro hvin (And.intro qb hfr))
          clear hvin qb qf hfr
          go_wp2
          go_meet
          case rel => exact ⟨_, A', c', rfl, by omega, HREL.out.2.1, HREL.out.1, HREL.out.2.2⟩
      case rest =>
        obtain ⟨X, A', c', rfl, hX, hbx, hvin, hfc⟩ := hcut
        have F3 := hid_ (F2.out.then_none hfc)
        have BO3 := hid_ (BO2.out.fr hfc id)
        have BX := hid_ hbx
        have VI := hid_ hvin
        have FC := hid_ hfc
        clear hbx hvin hfc BO2 F2 RD2
        have v0 : wc.cell? ⟨X, 0, none⟩ = some (.string (baseL D.R).low) := BX.out.cell' rfl
        have v1 : wc.cell? ⟨X, 1, none⟩ = some (.string (baseL D.R).high) := BX.out.cell' rfl
        have v2 : wc.cell? ⟨X, 2, none⟩ = some (.bool (baseL D.R).unb) := BX.out.cell' rfl
        have v3 : wc.cell? ⟨X, 3, none⟩ = some (.int .i64 (baseL D.R).right) := BX.out.cell' rfl
        have v4 : wc.cell? ⟨X, 4, none⟩ = some (.slice A' D.R.rows.length c') := BX.out.cell' rfl
        have v5 : wc.cell? ⟨X, 5, none⟩ = some (.bool (baseL D.R).gone) := BX.out.cell' rfl
        go_upto_region 12 with fail
        go_cut [64] (fun u wq => ∃ bb : Bool, u = .bool (!bb) ∧ (bb = true ↔ SoundR D.R.low D.R.high D.R.unb D.R.rows) ∧ Fr none_ wc wq)
        case first =>
          have HSP : Hid (∀ x : Wx wc, Calls Try.prog 86 #[lwV (baseL D.R) (.slice A' D.R.rows.length c')] x.to fun e w' => e = .returned (.agg #[.string D.R.low, .string D.R.high, .bool D.R.unb]) ∧ Fr none_ x.to w') := hid_ (fun x => spanL_ok (baseL D.R) _ x.to)
          by_cases hsd : SoundR D.R.low D.R.high D.R.unb D.R.rows
          · have HSD := hid_ hsd
            have HC : Hid (∀ x : Wx wc, Calls Try.prog 85 #[.slice A' D.R.rows.length c', .agg #[.string D.R.low, .string D.R.high, .bool D.R.unb]] x.to fun e w' => e = .returned (.bool true) ∧ Fr none_ x.to w') := hid_ (fun x => (soundL_ok D.R.rows A' c' D.R.low D.R.high D.R.unb x.to (VI.out.rd.none_fr x.fr) HDS.out.2.1 HO.out.low HO.out.high).mono (by rintro e w' ⟨b, rfl, hb, hf⟩; refine ⟨?_, hf⟩; cases b; exact absurd (hb.2 hsd) (by decide); rfl))
            clear hsd
            have y0 : ∀ x : Wx wc, x.to.cell? ⟨X, 0, none⟩ = some (.string (baseL D.R).low) := fun x => x.cell v0
            have y1 : ∀ x : Wx wc, x.to.cell? ⟨X, 1, none⟩ = some (.string (baseL D.R).high) := fun x => x.cell v1
            have y2 : ∀ x : Wx wc, x.to.cell? ⟨X, 2, none⟩ = some (.bool (baseL D.R).unb) := fun x => x.cell v2
            have y3 : ∀ x : Wx wc, x.to.cell? ⟨X, 3, none⟩ = some (.int .i64 (baseL D.R).right) := fun x => x.cell v3
            have y4 : ∀ x : Wx wc, x.to.cell? ⟨X, 4, none⟩ = some (.slice A' D.R.rows.length c') := fun x => x.cell v4
            have y5 : ∀ x : Wx wc, x.to.cell? ⟨X, 5, none⟩ = some (.bool (baseL D.R).gone) := fun x => x.cell v5
            clear v0 v1 v2 v3 v4 v5
            refine wp_region_quiet_x (by kernel_rfl) (by kernel_rfl) ?_
            repeat (first | go_big_quiet_step ((first | (go_at_call 86; exact Calls.quiet_x (HSP.out _)) | (go_at_call 85; exact Calls.quiet_x (HC.out _)))) | quiet_step ((first | (go_at_call 86; exact Calls.quiet_x (HSP.out _)) | (go_at_call 85; exact Calls.quiet_x (HC.out _)))))
            refine wpQuiet_nil ?_
            intro _ hw'
            obtain ⟨xq, hw''⟩ := hw'
            subst hw''
            go_wp2
            go_meet
            case rel => exact ⟨true, rfl, ⟨fun _ => HSD.out, fun _ => rfl⟩, xq.fr⟩
          · have HSD := hid_ hsd
            have HC : Hid (∀ x : Wx wc, Calls Try.prog 85 #[.slice A' D.R.rows.length c', .agg #[.string D.R.low, .string D.R.high, .bool D.R.unb]] x.to fun e w' => e = .returned (.bool false) ∧ Fr none_ x.to w') := hid_ (fun x => (soundL_ok D.R.rows A' c' D.R.low D.R.high D.R.unb x.to (VI.out.rd.none_fr x.fr) HDS.out.2.1 HO.out.low HO.out.high).mono (by rintro e w' ⟨b, rfl, hb, hf⟩; refine ⟨?_, hf⟩; cases b; rfl; exact absurd (hb.1 rfl) hsd))
            clear hsd
            have y0 : ∀ x : Wx wc, x.to.cell? ⟨X, 0, none⟩ = some (.string (baseL D.R).low) := fun x => x.cell v0
            have y1 : ∀ x : Wx wc, x.to.cell? ⟨X, 1, none⟩ = some (.string (baseL D.R).high) := fun x => x.cell v1
            have y2 : ∀ x : Wx wc, x.to.cell? ⟨X, 2, none⟩ = some (.bool (baseL D.R).unb) := fun x => x.cell v2
            have y3 : ∀ x : Wx wc, x.to.cell? ⟨X, 3, none⟩ = some (.int .i64 (baseL D.R).right) := fun x => x.cell v3
            have y4 : ∀ x : Wx wc, x.to.cell? ⟨X, 4, none⟩ = some (.slice A' D.R.rows.length c') := fun x => x.cell v4
            have y5 : ∀ x : Wx wc, x.to.cell? ⟨X, 5, none⟩ = some (.bool (baseL D.R).gone) := fun x => x.cell v5
            clear v0 v1 v2 v3 v4 v5
            refine wp_region_quiet_x (by kernel_rfl) (by kernel_rfl) ?_
            repeat (first | go_big_quiet_step ((first | (go_at_call 86; exact Calls.quiet_x (HSP.out _)) | (go_at_call 85; exact Calls.quiet_x (HC.out _)))) | quiet_step ((first | (go_at_call 86; exact Calls.quiet_x (HSP.out _)) | (go_at_call 85; exact Calls.quiet_x (HC.out _)))))
            refine wpQuiet_nil ?_
            intro _ hw'
            obtain ⟨xq, hw''⟩ := hw'
            subst hw''
            go_wp2
            go_meet
            case rel => exact ⟨false, rfl, ⟨(fun h => by cases h), fun h => absurd h HSD.out⟩, xq.fr⟩
        case rest =>
        obtain ⟨bb, rfl, hbb, hf2⟩ := hcut
        obtain ⟨w2, rfl⟩ : ∃ z : World, z = wc := ⟨_, rfl⟩
        have HB := hid_ hbb
        have BX2 := hid_ (BX.out.fr hf2 id)
        have VI2 := hid_ (VI.out.keep hf2)
        have F9 := hid_ (F3.out.then_none hf2)
        have BO9 := hid_ (BO3.out.fr hf2 id)
        clear hbb hf2 BX VI F3 BO3 FC v0 v1 v2 v3 v4 v5
        have s0 : w2.cell? ⟨w.heap.size, 0, none⟩ = some (.string nilS) := BO9.out.cell' rfl
        have z0 := BO9.out.frozen 0
        have s1 : w2.cell? ⟨w.heap.size, 1, none⟩ = some (.string nilS) := BO9.out.cell' rfl
        have z1 := BO9.out.frozen 1
        have s2 : w2.cell? ⟨w.heap.size, 2, none⟩ = some (.bool false) := BO9.out.cell' rfl
        have z2 := BO9.out.frozen 2
        have s3 : w2.cell? ⟨w.heap.size, 3, none⟩ = some (.int .i64 0) := BO9.out.cell' rfl
        have z3 := BO9.out.frozen 3
        have s4 : w2.cell? ⟨w.heap.size, 4, none⟩ = some (.slice none 0 0) := BO9.out.cell' rfl
        have z4 := BO9.out.frozen 4
        have s5 : w2.cell? ⟨w.heap.size, 5, none⟩ = some (.bool false) := BO9.out.cell' rfl
        have z5 := BO9.out.frozen 5
        cases bb with
        | false =>
          have hno : foldL (L.map (·.R)) = none := by
            have := foldL_none (l := L.map (·.R)) (j := m) (by rw [List.length_map]; omega) (by rw [HLD.out]; exact foldL_one_no _ (fun h => by have := HB.out.2 h.2; cases this)) 0 (Nat.zero_le _)
            simpa using this
          have HNO := hid_ hno
          clear hno
          go_wp2_with fail
          clear s0 z0 s1 z1 s2 z2 s3 z3 s4 z4 s5 z5
          obtain ⟨qb, qf⟩ := box6 BO9.out (.string nilS) (.string nilS) (.bool false) (.int .i64 0) (.slice none 0 0) (.bool false)
          have q0 := qb.cell' (i := 0) rfl
          have q1 := qb.cell' (i := 1) rfl
          have q2 := qb.cell' (i := 2) rfl
          have q3 := qb.cell' (i := 3) rfl
          have q4 := qb.cell' (i := 4) rfl
          have q5 := qb.cell' (i := 5) rfl
          refine bodyPost_ret (v := .tuple #[lwV Lw.zero (.slice none 0 0), errV 10]) ?_ rfl (.inr ⟨10, .inr ⟨rfl, HK.out, HNO.out⟩, rfl, F9.out.then_only qf (.inr (Nat.le_refl _))⟩)
          simp [results, Try.results59, go_sem, Lw.zero, q0, q1, q2, q3, q4, q5]
        | true =>
          have hst : FoldStL w L X m (baseL D.R) A' c' w2 := ⟨by rw [List.map_drop, HLD.out]; exact foldL_one D.R H7.out (HB.out.1 (by simp)), BX2.out, BO9.out, VI2.out, by show D.R.rows.length ≤ _; omega, F9.out⟩
          have ST := hid_ hst
          clear hst
          go_wp2_with fail
          clear s0 z0 s1 z1 s2 z2 s3 z3 s4 z4 s5 z5
          go_loopw [9] (fun i wr => ∃ (k : Nat) (V : Lw) (A : Option Addr) (c : Nat), k ≤ m ∧ i = .int .i64 ((k : Int) - 1) ∧ FoldStL w L X k V A c wr) (fun i _ => (intOf i + 1).toNat)
          case atStart => exact ⟨m, _, _, _, Nat.le_refl _, rfl, ST.out⟩
          case round =>
            obtain ⟨k, V, A2, c2, hk, rfl, hst⟩ := hrel
            have S2 := hid_ hst
            clear hst
            have v0 : wr.cell? ⟨X, 0, none⟩ = some (.string V.low) := S2.out.bx.cell' rfl
            have v1 : wr.cell? ⟨X, 1, none⟩ = some (.string V.high) := S2.out.bx.cell' rfl
            have v2 : wr.cell? ⟨X, 2, none⟩ = some (.bool V.unb) := S2.out.bx.cell' rfl
            have v3 : wr.cell? ⟨X, 3, none⟩ = some (.int .i64 V.right) := S2.out.bx.cell' rfl
            have v4 : wr.cell? ⟨X, 4, none⟩ = some (.slice A2 V.rows.length c2) := S2.out.bx.cell' rfl
            have v5 : wr.cell? ⟨X, 5, none⟩ = some (.bool V.gone) := S2.out.bx.cell' rfl
            have s0 : wr.cell? ⟨w.heap.size, 0, none⟩ = some (.string nilS) := S2.out.bo.cell' rfl
            have z0 := S2.out.bo.frozen 0
            have s1 : wr.cell? ⟨w.heap.size, 1, none⟩ = some (.string nilS) := S2.out.bo.cell' rfl
            have z1 := S2.out.bo.frozen 1
            have s2 : wr.cell? ⟨w.heap.size, 2, none⟩ = some (.bool false) := S2.out.bo.cell' rfl
            have z2 := S2.out.bo.frozen 2
            have s3 : wr.cell? ⟨w.heap.size, 3, none⟩ = some (.int .i64 0) := S2.out.bo.cell' rfl
            have z3 := S2.out.bo.frozen 3
            have s4 : wr.cell? ⟨w.heap.size, 4, none⟩ = some (.slice none 0 0) := S2.out.bo.cell' rfl
            have z4 := S2.out.bo.frozen 4
            have s5 : wr.cell? ⟨w.heap.size, 5, none⟩ = some (.bool false) := S2.out.bo.cell' rfl
            have z5 := S2.out.bo.frozen 5
            by_cases hk0 : k = 0
            · have hfo : foldL (L.map (·.R)) = some V := by have := S2.out.fo; rw [hk0] at this; exact this
              have HFO := hid_ hfo
              subst hk0
              clear hfo
              go_wp2_with fail
              clear s0 z0 s1 z1 s2 z2 s3 z3 s4 z4 s5 z5 v0 v1 v2 v3 v4 v5
              obtain ⟨qb, qf⟩ := box6 S2.out.bo (.string V.low) (.string V.high) (.bool V.unb) (.int .i64 V.right) (.slice A2 V.rows.length c2) (.bool V.gone)
              have q0 := qb.cell' (i := 0) rfl
              have q1 := qb.cell' (i := 1) rfl
              have q2 := qb.cell' (i := 2) rfl
              have q3 := qb.cell' (i := 3) rfl
              have q4 := qb.cell' (i := 4) rfl
              have q5 := qb.cell' (i := 5) rfl
              refine bodyPost_ret (v := .tuple #[lwV V (.slice A2 V.rows.length c2), .nilIface]) ?_ rfl (.inl ⟨V, A2, c2, HK.out, HFO.out, rfl, S2.out.vin.far S2.out.bo (by decide) qf, S2.out.fr.then_only qf (.inr (Nat.le_refl _))⟩)
              simp [results, Try.results59, go_sem, q0, q1, q2, q3, q4, q5]
            · obtain ⟨j, rfl⟩ : ∃ j, k = j + 1 := ⟨k - 1, by omega⟩
              have hjm : j < m := by omega
              obtain ⟨C, hC⟩ : ∃ C, L[j]? = some C := ⟨_, List.getElem?_eq_getElem (by omega)⟩
              obtain ⟨b2, off2, hA, hb2, hR2, hO2⟩ := (H.out.keep S2.out.fr).at_ hC
              obtain ⟨rfl, rfl⟩ : b = b2 ∧ off = off2 := by injection hA with hA; injection hA with e1 e2; exact ⟨e1, e2⟩
              have HR2 := hid_ hR2
              have HO2 := hid_ hO2
              have HCS := hid_ (HS.out C (List.mem_of_getElem? hC))
              have hdr : (L.map (·.R)).drop j = C.R :: (L.map (·.R)).drop (j + 1) := by
                rw [List.drop_eq_getElem_cons (by rw [List.length_map]; omega)]
                congr 1
                rw [List.getElem_map]
                have := (List.getElem?_eq_some_iff.1 hC).2
                rw [this]
              have hfo : foldL ((L.map (·.R)).drop j) = upL V C.R := by
                rw [hdr, foldL_cons _ (fun e => by have := congrArg List.length e; rw [List.length_drop, List.length_map, List.length_nil] at this; omega), ← List.map_drop, S2.out.fo]
                rfl
              have HFO := hid_ hfo
              have hi0' : (0 : Int) ≤ (j : Int) := Int.natCast_nonneg _
              have hi1' : (j : Int) < ((m + 1 : Nat) : Int) := by omega
              have hi2' : (j : Int) < (m : Int) + 1 := by omega
              have hji : ((j + 1 : Nat) : Int) - 1 = (j : Int) := by omega
              have hwj : IntKind.i64.wrap ((j : Int) - 1) = (j : Int) - 1 := IntWalk.i64_in _ (by omega)
              have hge : decide ((0 : Int) ≤ (j : Int)) = true := by simp
              rw [hji]
              clear hA hR2 hO2 hC hdr hfo hji hk0
              go_upto_region 18 with fail
              go_cut [10] (fun v wq => ∃ bb : Bool, v = .bool bb ∧ FoldCutL w L X j bb wq)
              case rest =>
                obtain ⟨bb, rfl, hbb⟩ := hcut
                have HBB := hid_ hbb
                clear hbb s0 z0 s1 z1 s2 z2 s3 z3 s4 z4 s5 z5 v0 v1 v2 v3 v4 v5
                cases bb with
                | false =>
                  obtain ⟨-, hno, hbo, hfw⟩ := HBB.out.resolve_left (fun h => by cases h.1)
                  have hno' : foldL (L.map (·.R)) = none := by
                    have := foldL_none (l := L.map (·.R)) (j := j) (by rw [List.length_map]; omega) (by rw [← List.map_drop]; exact hno) 0 (Nat.zero_le _)
                    simpa using this
                  have HNO := hid_ hno'
                  have BO5 := hid_ hbo
                  have F5 := hid_ hfw
                  clear hno hno' hbo hfw
                  have s0 : wc.cell? ⟨w.heap.size, 0, none⟩ = some (.string nilS) := BO5.out.cell' rfl
                  have z0 := BO5.out.frozen 0
                  have s1 : wc.cell? ⟨w.heap.size, 1, none⟩ = some (.string nilS) := BO5.out.cell' rfl
                  have z1 := BO5.out.frozen 1
                  have s2 : wc.cell? ⟨w.heap.size, 2, none⟩ = some (.bool false) := BO5.out.cell' rfl
                  have z2 := BO5.out.frozen 2
                  have s3 : wc.cell? ⟨w.heap.size, 3, none⟩ = some (.int .i64 0) := BO5.out.cell' rfl
                  have z3 := BO5.out.frozen 3
                  have s4 : wc.cell? ⟨w.heap.size, 4, none⟩ = some (.slice none 0 0) := BO5.out.cell' rfl
                  have z4 := BO5.out.frozen 4
                  have s5 : wc.cell? ⟨w.heap.size, 5, none⟩ = some (.bool false) := BO5.out.cell' rfl
                  have z5 := BO5.out.frozen 5
                  go_wp2_with fail
                  clear s0 z0 s1 z1 s2 z2 s3 z3 s4 z4 s5 z5
                  obtain ⟨qb, qf⟩ := box6 BO5.out (.string nilS) (.string nilS) (.bool false) (.int .i64 0) (.slice none 0 0) (.bool false)
                  have q0 := qb.cell' (i := 0) rfl
                  have q1 := qb.cell' (i := 1) rfl
                  have q2 := qb.cell' (i := 2) rfl
                  have q3 := qb.cell' (i := 3) rfl
                  have q4 := qb.cell' (i := 4) rfl
                  have q5 := qb.cell' (i := 5) rfl
                  refine bodyPost_ret (v := .tuple #[lwV Lw.zero (.slice none 0 0), errV 10]) ?_ rfl (.inr ⟨10, .inr ⟨rfl, HK.out, HNO.out⟩, rfl, F5.out.then_only qf (.inr (Nat.le_refl _))⟩)
                  simp [results, Try.results59, go_sem, Lw.zero, q0, q1, q2, q3, q4, q5]
                | true =>
                  obtain ⟨-, V', A4, c4, hst'⟩ := HBB.out.resolve_right (fun h => by cases h.1)
                  have ST' := hid_ hst'
                  clear hst'
                  go_wp2_with fail
                  go_roundw
                  case rel => exact ⟨j, V', A4, c4, by omega, rfl, ST'.out⟩
                  case measure => simp [intOf]
              case first =>
                clear s0 z0 s1 z1 s2 z2 s3 z3 s4 z4 s5 z5
                have hS0 : (fun w' : World => Fr none_ wr w') wr.drew := (Fr.refl none_ wr).drew
                refine wp_region_U (m := 7) (S := fun w' : World => Fr none_ wr w') (by kernel_rfl) ?_
                refine wpAnyU_take2 (i := 0) (v := _) rfl (by kernel_rfl) (by kernel_rfl) (by kernel_rfl) (by kernel_rfl) (fun _ _ _ h => h) (.inl ⟨by kernel_rfl, fun w' hS => by have s_v0 := cellFr v0 hS; have s_v1 := cellFr v1 hS; have s_v2 := cellFr v2 hS; have s_v3 := cellFr v3 hS; have s_v4 := cellFr v4 hS; have s_v5 := cellFr v5 hS; go_simp; rfl⟩) hS0 ?_
                refine wpAnyU_take2 (i := 1) (v := _) rfl (by kernel_rfl) (by kernel_rfl) (by kernel_rfl) (by kernel_rfl) (fun _ _ _ h => h) (.inl ⟨by kernel_rfl, fun w' hS => by have s_v0 := cellFr v0 hS; have s_v1 := cellFr v1 hS; have s_v2 := cellFr v2 hS; have s_v3 := cellFr v3 hS; have s_v4 := cellFr v4 hS; have s_v5 := cellFr v5 hS; go_simp; rfl⟩) hS0 ?_
                refine wpAnyU_take2 (i := 2) (v := _) rfl (by kernel_rfl) (by kernel_rfl) (by kernel_rfl) (by kernel_rfl) (fun _ _ _ h => h) (.inl ⟨by kernel_rfl, fun w' hS => by have s_v0 := cellFr v0 hS; have s_v1 := cellFr v1 hS; have s_v2 := cellFr v2 hS; have s_v3 := cellFr v3 hS; have s_v4 := cellFr v4 hS; have s_v5 := cellFr v5 hS; go_simp; rfl⟩) hS0 ?_
                refine wpAnyU_take2 (i := 3) (v := _) rfl (by kernel_rfl) (by kernel_rfl) (by kernel_rfl) (by kernel_rfl) (fun _ _ _ h => h) (.inl ⟨by kernel_rfl, fun w' hS => by have s_v0 := cellFr v0 hS; have s_v1 := cellFr v1 hS; have s_v2 := cellFr v2 hS; have s_v3 := cellFr v3 hS; have s_v4 := cellFr v4 hS; have s_v5 := cellFr v5 hS; go_simp; rfl⟩) hS0 ?_
                refine wpAnyU_take2 (i := 4) (v := _) rfl (by kernel_rfl) (by kernel_rfl) (by kernel_rfl) (by kernel_rfl) (fun _ _ _ h => h) (yieldsIf_load_mid (by kernel_rfl) 58 (.tmp 77) rfl b (off + j * 15) rfl (recL C) _ (fun w' hS i v hv => cellFr (HR2.out i v hv) hS) Try.underlying58 rfl rec_size8) hS0 ?_
                clear hS0 v0 v1 v2 v3 v4 v5
                refine wpAnyU_one7 (i := 5) rfl (by kernel_rfl) (by kernel_rfl) ?_
                go_simp
                have hf0 : Fr none_ wr wr.drew := (Fr.refl none_ wr).drew
                have hle := S2.out.len
                have hCs := HCS.out.2.2
                have hlb : (L.length - (j + 1)) * 501 ≤ 400 * 501 := Nat.mul_le_mul_right _ (by omega)
                have hl2 : (L.length - j) * 501 = (L.length - (j + 1)) * 501 + 501 := by rw [show L.length - j = (L.length - (j + 1)) + 1 by omega, Nat.add_mul]
                refine (upl_ok w.heap.size V C.R A2 c2 C.A C.c _ wr.drew (S2.out.vin.keep hf0) (by have := S2.out.fr.size; exact this) (by omega) (HO2.out.rd.r.none_fr hf0) ⟨HO2.out.key, HO2.out.high, HCS.out.1, HCS.out.2.1⟩ (by omega)).mono ?_
                rintro e w4 (⟨V', A4, c4, hup, rfl, hvin, hf4⟩ | ⟨hup, V', A4, n4, c4, rfl, hf4⟩)
                · have FW : Hid (Fr none_ wr w4) := hid_ (hf0.then_none hf4)
                  have BX4 := hid_ (S2.out.bx.fr FW.out id)
                  have BO4 := hid_ (S2.out.bo.fr FW.out id)
                  have F4 := hid_ (S2.out.fr.then_none FW.out)
                  have HUP := hid_ hup
                  have VI4 := hid_ hvin
                  have hlen := upL_len hup
                  have hlen' : V'.rows.length ≤ (L.length - j) * 501 := by omega
                  clear hvin hup hf4
                  refine ⟨FW.out, ?_⟩
                  refine wpAnyU_take2 (i := 6) (v := _) rfl (by kernel_rfl) (by kernel_rfl) (by kernel_rfl) (by kernel_rfl) (fun _ _ _ h => h) (.inl ⟨by kernel_rfl, fun w' hS => by skip; go_simp; rfl⟩) FW.out ?_
                  have HST : Hid (∀ w6, Blk w6 X 38 (lwA V' (.slice A4 V'.rows.length c4)) ∧ Fr (only X) w4 w6 → FoldStL w L X j V' A4 c4 w6) := hid_ (fun w6 h6 => ⟨by rw [List.map_drop, HFO.out, HUP.out], h6.1, BO4.out.fr h6.2 (only_ne (by omega)), VI4.out.far BX4.out (by decide) h6.2, hlen', F4.out.then_only h6.2 (.inr (by omega))⟩)
                  refine wpAnyU_two7 (i := 7) (j := 8) rfl rfl (by kernel_rfl) (by kernel_rfl) (by kernel_rfl) ?_ ?_
                  · go_simp
                    refine wpAnyU_two7 (i := 8) (j := 9) rfl rfl (by kernel_rfl) (by kernel_rfl) (by kernel_rfl) ?_ ?_
                    · skip
                      have s0 : w4.cell? ⟨X, 0, none⟩ = some (.string V.low) := BX4.out.cell' rfl
                      have z0 := BX4.out.frozen 0
                      have s1 : w4.cell? ⟨X, 1, none⟩ = some (.string V.high) := BX4.out.cell' rfl
                      have z1 := BX4.out.frozen 1
                      have s2 : w4.cell? ⟨X, 2, none⟩ = some (.bool V.unb) := BX4.out.cell' rfl
                      have z2 := BX4.out.frozen 2
                      have s3 : w4.cell? ⟨X, 3, none⟩ = some (.int .i64 V.right) := BX4.out.cell' rfl
                      have z3 := BX4.out.frozen 3
                      have s4 : w4.cell? ⟨X, 4, none⟩ = some (.slice A2 V.rows.length c2) := BX4.out.cell' rfl
                      have z4 := BX4.out.frozen 4
                      have s5 : w4.cell? ⟨X, 5, none⟩ = some (.bool V.gone) := BX4.out.cell' rfl
                      have z5 := BX4.out.frozen 5
                      go_simp
                      refine wpAnyU_one7 (i := 9) rfl (by kernel_rfl) (by kernel_rfl) ?_
                      go_simp
                      clear s0 z0 s1 z1 s2 z2 s3 z3 s4 z4 s5 z5
                      have h6 := hid_ (HST.out _ (box6 BX4.out (.string V'.low) (.string V'.high) (.bool V'.unb) (.int .i64 V'.right) (.slice A4 V'.rows.length c4) (.bool V'.gone)))
                      refine wpAnyU_one7 (i := 10) rfl (by kernel_rfl) (by kernel_rfl) ?_
                      go_simp
                      refine wpAnyU_done (by kernel_rfl) ?_ _
                      go_wp2
                      go_meet
                      case rel => exact ⟨true, rfl, .inl ⟨rfl, V', A4, c4, h6.out⟩⟩
                    · skip
                      have s0 : w4.cell? ⟨X, 0, none⟩ = some (.string V.low) := BX4.out.cell' rfl
                      have z0 := BX4.out.frozen 0
                      have s1 : w4.cell? ⟨X, 1, none⟩ = some (.string V.high) := BX4.out.cell' rfl
                      have z1 := BX4.out.frozen 1
                      have s2 : w4.cell? ⟨X, 2, none⟩ = some (.bool V.unb) := BX4.out.cell' rfl
                      have z2 := BX4.out.frozen 2
                      have s3 : w4.cell? ⟨X, 3, none⟩ = some (.int .i64 V.right) := BX4.out.cell' rfl
                      have z3 := BX4.out.frozen 3
                      have s4 : w4.cell? ⟨X, 4, none⟩ = some (.slice A2 V.rows.length c2) := BX4.out.cell' rfl
                      have z4 := BX4.out.frozen 4
                      have s5 : w4.cell? ⟨X, 5, none⟩ = some (.bool V.gone) := BX4.out.cell' rfl
                      have z5 := BX4.out.frozen 5
                      go_simp
                      clear s0 z0 s1 z1 s2 z2 s3 z3 s4 z4 s5 z5
                      have h6 := hid_ (HST.out _ (box6 BX4.out (.string V'.low) (.string V'.high) (.bool V'.unb) (.int .i64 V'.right) (.slice A4 V'.rows.length c4) (.bool V'.gone)))
                      refine wpAnyU_one7 (i := 8) rfl (by kernel_rfl) (by kernel_rfl) ?_
                      go_simp
                      refine wpAnyU_one7 (i := 10) rfl (by kernel_rfl) (by kernel_rfl) ?_
                      go_simp
                      refine wpAnyU_done (by kernel_rfl) ?_ _
                      go_wp2
                      go_meet
                      case rel => exact ⟨true, rfl, .inl ⟨rfl, V', A4, c4, h6.out⟩⟩
                  · skip
                    have s0 : w4.cell? ⟨X, 0, none⟩ = some (.string V.low) := BX4.out.cell' rfl
                    have z0 := BX4.out.frozen 0
                    have s1 : w4.cell? ⟨X, 1, none⟩ = some (.string V.high) := BX4.out.cell' rfl
                    have z1 := BX4.out.frozen 1
                    have s2 : w4.cell? ⟨X, 2, none⟩ = some (.bool V.unb) := BX4.out.cell' rfl
                    have z2 := BX4.out.frozen 2
                    have s3 : w4.cell? ⟨X, 3, none⟩ = some (.int .i64 V.right) := BX4.out.cell' rfl
                    have z3 := BX4.out.frozen 3
                    have s4 : w4.cell? ⟨X, 4, none⟩ = some (.slice A2 V.rows.length c2) := BX4.out.cell' rfl
                    have z4 := BX4.out.frozen 4
                    have s5 : w4.cell? ⟨X, 5, none⟩ = some (.bool V.gone) := BX4.out.cell' rfl
                    have z5 := BX4.out.frozen 5
                    go_simp
                    refine wpAnyU_one7 (i := 7) rfl (by kernel_rfl) (by kernel_rfl) ?_
                    go_simp
                    refine wpAnyU_one7 (i := 9) rfl (by kernel_rfl) (by kernel_rfl) ?_
                    go_simp
                    clear s0 z0 s1 z1 s2 z2 s3 z3 s4 z4 s5 z5
                    have h6 := hid_ (HST.out _ (box6 BX4.out (.string V'.low) (.string V'.high) (.bool V'.unb) (.int .i64 V'.right) (.slice A4 V'.rows.length c4) (.bool V'.gone)))
                    refine wpAnyU_one7 (i := 10) rfl (by kernel_rfl) (by kernel_rfl) ?_
                    go_simp
                    refine wpAnyU_done (by kernel_rfl) ?_ _
                    go_wp2
                    go_meet
                    case rel => exact ⟨true, rfl, .inl ⟨rfl, V', A4, c4, h6.out⟩⟩
                · have FW : Hid (Fr none_ wr w4) := hid_ (hf0.then_none hf4)
                  have BX4 := hid_ (S2.out.bx.fr FW.out id)
                  have BO4 := hid_ (S2.out.bo.fr FW.out id)
                  have F4 := hid_ (S2.out.fr.then_none FW.out)
                  have HUP := hid_ hup
                  clear hup hf4
                  refine ⟨FW.out, ?_⟩
                  refine wpAnyU_take2 (i := 6) (v := _) rfl (by kernel_rfl) (by kernel_rfl) (by kernel_rfl) (by kernel_rfl) (fun _ _ _ h => h) (.inl ⟨by kernel_rfl, fun w' hS => by skip; go_simp; rfl⟩) FW.out ?_
                  have HST : Hid (∀ w6, Blk w6 X 38 (lwA V' (.slice A4 n4 c4)) ∧ Fr (only X) w4 w6 → foldL ((L.drop j).map (·.R)) = none ∧ Blk w6 w.heap.size 38 lwZ ∧ Fr none_ w w6) := hid_ (fun w6 h6 => ⟨by rw [List.map_drop, HFO.out, HUP.out], BO4.out.fr h6.2 (only_ne (by omega)), F4.out.then_only h6.2 (.inr (by omega))⟩)
                  refine wpAnyU_two7 (i := 7) (j := 8) rfl rfl (by kernel_rfl) (by kernel_rfl) (by kernel_rfl) ?_ ?_
                  · go_simp
                    refine wpAnyU_two7 (i := 8) (j := 9) rfl rfl (by kernel_rfl) (by kernel_rfl) (by kernel_rfl) ?_ ?_
                    · skip
                      have s0 : w4.cell? ⟨X, 0, none⟩ = some (.string V.low) := BX4.out.cell' rfl
                      have z0 := BX4.out.frozen 0
                      have s1 : w4.cell? ⟨X, 1, none⟩ = some (.string V.high) := BX4.out.cell' rfl
                      have z1 := BX4.out.frozen 1
                      have s2 : w4.cell? ⟨X, 2, none⟩ = some (.bool V.unb) := BX4.out.cell' rfl
                      have z2 := BX4.out.frozen 2
                      have s3 : w4.cell? ⟨X, 3, none⟩ = some (.int .i64 V.right) := BX4.out.cell' rfl
                      have z3 := BX4.out.frozen 3
                      have s4 : w4.cell? ⟨X, 4, none⟩ = some (.slice A2 V.rows.length c2) := BX4.out.cell' rfl
                      have z4 := BX4.out.frozen 4
                      have s5 : w4.cell? ⟨X, 5, none⟩ = some (.bool V.gone) := BX4.out.cell' rfl
                      have z5 := BX4.out.frozen 5
                      go_simp
                      refine wpAnyU_one7 (i := 9) rfl (by kernel_rfl) (by kernel_rfl) ?_
                      go_simp
                      clear s0 z0 s1 z1 s2 z2 s3 z3 s4 z4 s5 z5
                      have h6 := hid_ (HST.out _ (box6 BX4.out (.string V'.low) (.string V'.high) (.bool V'.unb) (.int .i64 V'.right) (.slice A4 n4 c4) (.bool V'.gone)))
                      refine wpAnyU_one7 (i := 10) rfl (by kernel_rfl) (by kernel_rfl) ?_
                      go_simp
                      refine wpAnyU_done (by kernel_rfl) ?_ _
                      go_wp2
                      go_meet
                      case rel => exact ⟨false, rfl, .inr ⟨rfl, h6.out⟩⟩
                    · skip
                      have s0 : w4.cell? ⟨X, 0, none⟩ = some (.string V.low) := BX4.out.cell' rfl
                      have z0 := BX4.out.frozen 0
                      have s1 : w4.cell? ⟨X, 1, none⟩ = some (.string V.high) := BX4.out.cell' rfl
                      have z1 := BX4.out.frozen 1
                      have s2 : w4.cell? ⟨X, 2, none⟩ = some (.bool V.unb) := BX4.out.cell' rfl
                      have z2 := BX4.out.frozen 2
                      have s3 : w4.cell? ⟨X, 3, none⟩ = some (.int .i64 V.right) := BX4.out.cell' rfl
                      have z3 := BX4.out.frozen 3
                      have s4 : w4.cell? ⟨X, 4, none⟩ = some (.slice A2 V.rows.length c2) := BX4.out.cell' rfl
                      have z4 := BX4.out.frozen 4
                      have s5 : w4.cell? ⟨X, 5, none⟩ = some (.bool V.gone) := BX4.out.cell' rfl
                      have z5 := BX4.out.frozen 5
                      go_simp
                      clear s0 z0 s1 z1 s2 z2 s3 z3 s4 z4 s5 z5
                      have h6 := hid_ (HST.out _ (box6 BX4.out (.string V'.low) (.string V'.high) (.bool V'.unb) (.int .i64 V'.right) (.slice A4 n4 c4) (.bool V'.gone)))
                      refine wpAnyU_one7 (i := 8) rfl (by kernel_rfl) (by kernel_rfl) ?_
                      go_simp
                      refine wpAnyU_one7 (i := 10) rfl (by kernel_rfl) (by kernel_rfl) ?_
                      go_simp
                      refine wpAnyU_done (by kernel_rfl) ?_ _
                      go_wp2
                      go_meet
                      case rel => exact ⟨false, rfl, .inr ⟨rfl, h6.out⟩⟩
                  · skip
                    have s0 : w4.cell? ⟨X, 0, none⟩ = some (.string V.low) := BX4.out.cell' rfl
                    have z0 := BX4.out.frozen 0
                    have s1 : w4.cell? ⟨X, 1, none⟩ = some (.string V.high) := BX4.out.cell' rfl
                    have z1 := BX4.out.frozen 1
                    have s2 : w4.cell? ⟨X, 2, none⟩ = some (.bool V.unb) := BX4.out.cell' rfl
                    have z2 := BX4.out.frozen 2
                    have s3 : w4.cell? ⟨X, 3, none⟩ = some (.int .i64 V.right) := BX4.out.cell' rfl
                    have z3 := BX4.out.frozen 3
                    have s4 : w4.cell? ⟨X, 4, none⟩ = some (.slice A2 V.rows.length c2) := BX4.out.cell' rfl
                    have z4 := BX4.out.frozen 4
                    have s5 : w4.cell? ⟨X, 5, none⟩ = some (.bool V.gone) := BX4.out.cell' rfl
                    have z5 := BX4.out.frozen 5
                    go_simp
                    refine wpAnyU_one7 (i := 7) rfl (by kernel_rfl) (by kernel_rfl) ?_
                    go_simp
                    refine wpAnyU_one7 (i := 9) rfl (by kernel_rfl) (by kernel_rfl) ?_
                    go_simp
                    clear s0 z0 s1 z1 s2 z2 s3 z3 s4 z4 s5 z5
                    have h6 := hid_ (HST.out _ (box6 BX4.out (.string V'.low) (.string V'.high) (.bool V'.unb) (.int .i64 V'.right) (.slice A4 n4 c4) (.bool V'.gone)))
                    refine wpAnyU_one7 (i := 10) rfl (by kernel_rfl) (by kernel_rfl) ?_
                    go_simp
                    refine wpAnyU_done (by kernel_rfl) ?_ _
                    go_wp2
                    go_meet
                    case rel => exact ⟨false, rfl, .inr ⟨rfl, h6.out⟩⟩
end Go.Proofs.Ytpjbncbmdfmlpaa
namespace Go.Proofs.Ytpjbncbmdfmlpaa
open Go.RowKit Go.BigFrame
set_option maxRecDepth 100000
set_option linter.unusedVariables false

/-- The rows of a record may be cut. -/
def RwCap (L : List Ch) : Prop := ∀ C ∈ L, C.R.rows.length ≤ C.c ∧ C.c ≤ maxLen
/-- A view's rows are read; they lie in blocks older than b0, or in a row of their own. -/
structure LwRd (b0 : Nat) (w : World) (V : Lw) (A : Option Addr) (c : Nat) : Prop where
  rd : Reads w 2 A V.rows.length (rwFlat V.rows)
  cap : V.rows.length ≤ c
  capm : c ≤ maxLen
  ok : V.Ok
  src : (0 < V.rows.length → ∀ ad, A = some ad → ad.block < b0) ∨ w.ownsRow b0 62 2 (.slice A V.rows.length c) V.rows.length (rwFlat V.rows)
theorem LwRd.keep {b0 : Nat} {w w' : World} {V : Lw} {A : Option Addr} {c : Nat} (h : LwRd b0 w V A c) (hf : Fr none_ w w') : LwRd b0 w' V A c := ⟨h.rd.none_fr hf, h.cap, h.capm, h.ok, h.src.imp id fun o => own_none o hf⟩
theorem LwRd.of_own {b0 : Nat} {w : World} {V : Lw} {A : Option Addr} {c : Nat} (h : w.ownsRow b0 62 2 (.slice A V.rows.length c) V.rows.length (rwFlat V.rows)) (ok : V.Ok) : LwRd b0 w V A c := by
  obtain ⟨A', c', e, h1, h2, _⟩ := own_parts h
  injection e with e1 e2 e3
  exact ⟨Reads.of_own h, by rw [e3]; exact h1, by rw [e3]; exact h2, ok, .inr h⟩
theorem LwRd.far {b0 : Nat} {w w' : World} {V : Lw} {A : Option Addr} {c X : Nat} {t : TypeId} {cs : Array Value} (h : LwRd b0 w V A c) (hX : Blk w X t cs) (hne : 62 ≠ t) (hb : b0 ≤ X) (hf : Fr (only X) w w') : LwRd b0 w' V A c := by
  rcases h.src with hs | ho
  · refine ⟨?_, h.cap, h.capm, h.ok, .inl hs⟩
    rcases Nat.eq_zero_or_pos V.rows.length with h0 | h0
    · exact ⟨h.rd.1, fun hn => absurd hn (by omega)⟩
    · exact h.rd.fr hf fun ad e (e2 : ad.block = X) => by have := hs h0 ad e; omega
  · have o2 := own_fr ho hf (fun k hk e => own_blk_ne ho hX hne (by rw [hk, show k = X from e]))
    exact ⟨Reads.of_own o2, h.cap, h.capm, h.ok, .inr o2⟩
theorem row_size7 : (Try.prog.info? 62).map (·.size) = some 2 := by kernel_rfl
theorem rview_size7 : (Try.prog.info? 65).map (·.size) = some 6 := by kernel_rfl
theorem rhasL_ok (V : Lw) (vr : Value) (key : ByteArray) (w : World) (h1 : SzOk V.low) (h2 : SzOk V.high) (h3 : SzOk key) :
    Calls Try.prog 93 #[lwV V vr, .string key] w fun e w' => e = .returned (.bool (inS V.low V.high V.unb key)) ∧ Fr none_ w w' := by
  have F0 := hid_ ((Fr.refl none_ w).alloc (.cells (lwA V vr) 65))
  have H := hid_ (And.intro h1 (And.intro h2 h3))
  clear h1 h2 h3
  go_enter Try.func93, Try.ntmps93
  go_wp2_with fail
  refine (rin_ok V.low V.high V.unb key _ H.out.1.le H.out.2.1.le H.out.2.2.le).mono ?_
  rintro e w1 ⟨rfl, q, rfl⟩
  go_wp2
  go_ret
  exact ⟨rfl, F0.out.drewN q⟩
theorem LwRd.dropped {b0 : Nat} {w w' : World} {V : Lw} {A A' : Option Addr} {c c' : Nat} {key : ByteArray} (h : LwRd b0 w V A c) (hb : b0 ≤ w.heap.size) (hf : Fr none_ w w') (h1 : Reads w' 2 A' (dropR V.rows key).length (rwFlat (dropR V.rows key))) (h2 : (dropR V.rows key).length ≤ c') (h3 : c' ≤ maxLen)
    (hs : (A' = A ∧ c' = c ∧ dropR V.rows key = V.rows) ∨ w'.ownsRow w.heap.size 62 2 (.slice A' (dropR V.rows key).length c') (dropR V.rows key).length (rwFlat (dropR V.rows key))) : LwRd b0 w' { V with rows := dropR V.rows key } A' c' := by
  refine ⟨h1, h2, h3, ⟨h.ok.low, h.ok.high, h.ok.rows.drop_ key⟩, ?_⟩
  rcases hs with ⟨rfl, rfl, e⟩ | o
  · show (0 < (dropR V.rows key).length → _) ∨ _
    rw [e]
    exact (h.keep hf).src
  · exact .inr (own_base o hb)
/-- The view in its box, behind the records from k on. -/
structure RFoldSt (w : World) (L : List Ch) (X k : Nat) (V : Lw) (A : Option Addr) (c : Nat) (wr : World) : Prop where
  fo : foldL ((L.drop k).map (·.R)) = some V
  bx : Blk wr X 65 (lwA V (.slice A V.rows.length c))
  bo : Blk wr w.heap.size 65 lwZ
  vin : LwRd w.heap.size wr V A c
  len : V.rows.length ≤ (L.length - k) * 501
  fr : Fr none_ w wr
def RFoldCut (w : World) (L : List Ch) (X k : Nat) (bb : Bool) (wr : World) : Prop :=
  (bb = true ∧ ∃ (V : Lw) (A : Option Addr) (c : Nat), RFoldSt w L X k V A c wr) ∨ (bb = false ∧ foldL ((L.drop k).map (·.R)) = none ∧ Blk wr w.heap.size 65 lwZ ∧ Fr none_ w wr)
def RFoldPostL (l : List Rc) (w : World) (e : Ending) (w' : World) : Prop :=
  (∃ V A c, (∀ R ∈ l, KindL R) ∧ foldL l = some V ∧ e = .returned (.tuple #[lwV V (.slice A V.rows.length c), .int .i64 0]) ∧ LwRd w.heap.size w' V A c ∧ Fr none_ w w') ∨
  (∃ k : Int, ((k = 9 ∧ ∃ R ∈ l, ¬ KindL R) ∨ (k = 10 ∧ (∀ R ∈ l, KindL R) ∧ foldL l = none)) ∧ e = .returned (.tuple #[lwV Lw.zero (.slice none 0 0), .int .i64 k]) ∧ Fr none_ w w')
/-- What hangs together with a merge above. -/
def MergeB (V : Lw) (R : Rc) (bb : Bool) : Prop := bb = true ↔ (V.unb = false ∧ V.high = R.key ∧ SoundR R.key R.high R.unb R.rows ∧ (R.unb = true ∨ ltS R.key R.high = true))
theorem MergeB.up {V : Lw} {R : Rc} {bb : Bool} (h : MergeB V R bb) (h6 : R.kind = 6) (hg : V.gone = false) (g : GoodL V) : upL V R = if bb = true then some { V with rows := V.rows ++ R.rows, high := R.high, unb := R.unb, right := R.right } else none := by
  cases bb with
  | true =>
    rw [if_pos rfl]
    obtain ⟨h1, h2, h3, h4⟩ := h.1 rfl
    refine upL_merge_yes h6 ⟨hg, h1, h2, h3, h4⟩ (joins_of ?_ h3)
    rcases g.up with h | h
    · rw [h1] at h; cases h
    · rw [← h2]; exact h
  | false =>
    rw [if_neg (by decide)]
    exact upL_merge_no h6 fun hc => by have := h.2 hc.1.2; cases this
theorem ch_at {L : List Ch} {k : Nat} {C : Ch} (h : L[k]? = some C) : (L.map (·.R))[k]? = some C.R := by rw [List.getElem?_map, h]; rfl
def UpOk (V : Lw) (R : Rc) (V' : Lw) (bb : Bool) : Prop := upL V R = if bb = true then some V' else none
theorem upL_2 {V : Lw} {R : Rc} (h : R.kind = 2) (hg : V.gone = false) : UpOk V R { V with rows := putR V.rows (R.key, R.val) } (fitsR (R.key, R.val) && inS V.low V.high V.unb R.key) := by
  unfold UpOk upL
  rw [if_neg (by rw [hg]; decide), if_pos h]
  simp only [Bool.and_eq_true]
theorem upL_3 {V : Lw} {R : Rc} (h : R.kind = 3) (hg : V.gone = false) : UpOk V R { V with rows := dropR V.rows R.key } (inS V.low V.high V.unb R.key) := by
  unfold UpOk upL
  rw [if_neg (by rw [hg]; decide), if_neg (by omega), if_pos h]
theorem upL_4 {V : Lw} {R : Rc} (h : R.kind = 4) (hg : V.gone = false) (g : GoodL V) : UpOk V R { V with rows := ahR V.rows R.key, high := R.key, unb := false, right := R.page } (inS V.low V.high V.unb R.key && !sEq R.key V.low) := by
  unfold UpOk upL
  rw [if_neg (by rw [hg]; decide), if_neg (by omega), if_neg (by omega), if_pos h, show ahR V.rows R.key = _ from ahead_take g.right.pw]
  cases hi : inS V.low V.high V.unb R.key with
  | false => simp
  | true =>
    have h1 := (inS_iff7.1 hi).1
    cases hs : sEq R.key V.low with
    | true =>
      have e := sEq_iff.1 hs
      rw [if_neg (by rintro ⟨_, h2⟩; rw [e, ltS_irrefl] at h2; cases h2)]
      rfl
    | false =>
      rw [if_pos ⟨rfl, (ltS_iff_ne h1).2 fun e => by rw [e, sEq_self] at hs; cases hs⟩]
      rfl
theorem upL_5 {V : Lw} {R : Rc} (h : R.kind = 5) (hg : V.gone = false) : UpOk V R { V with gone := true } true := by
  unfold UpOk upL
  rw [if_neg (by rw [hg]; decide), h]
  rfl
theorem MergeB.ok {V : Lw} {R : Rc} {bb : Bool} (h : MergeB V R bb) (h6 : R.kind = 6) (hg : V.gone = false) (g : GoodL V) : UpOk V R { V with rows := V.rows ++ R.rows, high := R.high, unb := R.unb, right := R.right } bb := h.up h6 hg g
theorem RFoldSt.keep {w wr w' : World} {L : List Ch} {X k : Nat} {V : Lw} {A : Option Addr} {c : Nat} (h : RFoldSt w L X k V A c wr) (hf : Fr none_ wr w') : RFoldSt w L X k V A c w' :=
  ⟨h.fo, h.bx.fr hf id, h.bo.fr hf id, h.vin.keep hf, h.len, h.fr.then_none hf⟩
theorem fold_gone {w wr : World} {L : List Ch} {X j m : Nat} {V : Lw} {A : Option Addr} {c : Nat} (h : RFoldSt w L X (j + 1) V A c wr) (hj : j < m) (hl : L.length = m + 1) (h2 : ∀ (j : Nat) C, j < m + 1 → L[j]? = some C → (C.R.kind = 1 ↔ j = m) ∧ (C.R.kind = 5 → j = 0)) : V.gone = false := by
  cases hg : V.gone with
  | false => rfl
  | true =>
    obtain ⟨r, t, e, h5⟩ := foldL_gone h.fo hg
    have hlt : j + 1 < L.length := by omega
    rw [List.drop_eq_getElem_cons hlt, List.map_cons] at e
    injection e with e1 e2
    have := (h2 (j + 1) L[j + 1] (by omega) (List.getElem?_eq_getElem hlt)).2 (by rw [e1]; exact h5)
    omega
theorem fold_up {w wr : World} {L : List Ch} {X j : Nat} {C : Ch} {V : Lw} {A : Option Addr} {c : Nat} (h : RFoldSt w L X (j + 1) V A c wr) (hC : L[j]? = some C) (hl : j + 1 < L.length) : foldL ((L.drop j).map (·.R)) = upL V C.R := by
  rw [List.map_drop, foldL_at (ch_at hC) (by rw [List.length_map]; exact hl), ← List.map_drop, h.fo]
  rfl
theorem cut_of {w wq : World} {L : List Ch} {X j : Nat} {R : Rc} {V V' : Lw} {A : Option Addr} {c : Nat} {bb : Bool} (hfo : foldL ((L.drop j).map (·.R)) = upL V R) (hu : UpOk V R V' bb) (bx : Blk wq X 65 (lwA V' (.slice A V'.rows.length c)))
    (bo : Blk wq w.heap.size 65 lwZ) (vin : LwRd w.heap.size wq V' A c) (len : V'.rows.length ≤ (L.length - j) * 501) (fr : Fr none_ w wq) : RFoldCut w L X j bb wq := by
  cases bb with
  | true => exact .inl ⟨rfl, V', A, c, by rw [hfo]; exact hu, bx, bo, vin, len, fr⟩
  | false => exact .inr ⟨rfl, by rw [hfo]; exact hu, bo, fr⟩
theorem kind_of {L : List Ch} {n : Nat} (hn : L.length = n) (h : ∀ (j : Nat) C, j < n → L[j]? = some C → KindL C.R) : ∀ R ∈ L.map (·.R), KindL R := fun R hR => by
  obtain ⟨C, hC, rfl⟩ := List.mem_map.1 hR
  obtain ⟨j, hj, e⟩ := List.mem_iff_getElem.1 hC
  exact h j C (by omega) (by rw [List.getElem?_eq_getElem hj, e])
theorem eqB {a b : Int} (h : a = b) : (a == b) = true := by simp [h]
theorem neB {a b : Int} (h : a ≠ b) : (a == b) = false := by simp [h]
end Go.Proofs.Ytpjbncbmdfmlpaa

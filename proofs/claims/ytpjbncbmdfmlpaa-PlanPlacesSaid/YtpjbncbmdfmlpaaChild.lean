/- inner.Child by contract. -/
import Derived.Test.YtpjbncbmdfmlpaaBase8
namespace Go.Proofs.Ytpjbncbmdfmlpaa
open Go.RowKit Go.BigFrame
set_option maxRecDepth 100000
set_option linter.unusedVariables false

/-- How many entries are not behind a key. -/
def ndN (L : List Et) (key : ByteArray) : Nat := plN L key + if atB L key = true then 1 else 0
/-- The entry below which a key lies. -/
def childM (V : Vw) (key : ByteArray) : Option Et := if inS V.low V.high V.unb key = true ∧ ndN V.ents key ≠ 0 then V.ents[ndN V.ents key - 1]? else none
theorem ndN_le (L : List Et) (key : ByteArray) : ndN L key ≤ L.length := by
  unfold ndN
  split
  · rename_i h; have := atB_lt h; omega
  · have := plN_le L key; omega
def ChildPost (V : Vw) (key : ByteArray) (w : World) (e : Ending) (w' : World) : Prop :=
  ((∃ p : Et, childM V key = some p ∧ e = .returned (.tuple #[.agg #[.string p.1, .int .i64 p.2], .nilIface])) ∨ (childM V key = none ∧ e = .returned (.tuple #[.agg #[.string nilS, .int .i64 0], errV 2]))) ∧ Fr none_ w w'
theorem box2e {w1 : World} {b : Nat} {t : TypeId} {c0 c1 : Value} (h : Blk w1 b t #[c0, c1]) (x0 x1 : Value) : Blk ((w1.setCell ⟨b, 0, none⟩ x0).setCell ⟨b, 1, none⟩ x1) b t #[x0, x1] ∧ Fr (only b) w1 ((w1.setCell ⟨b, 0, none⟩ x0).setCell ⟨b, 1, none⟩ x1) :=
  ⟨(h.set_ 0 x0).set_ 1 x1, ((Fr.refl (only b) w1).setCell (p := ⟨b, 0, none⟩) (.inl (Eq.refl _)) x0).setCell (p := ⟨b, 1, none⟩) (.inl (Eq.refl _)) x1⟩
set_option maxHeartbeats 4000000 in
theorem child_ok (V : Vw) (A : Option Addr) (c : Nat) (key : ByteArray) (w : World) (h : VwIn w V A c) (hk : SzOk key) :
    Calls Try.prog 35 #[vwV V (.slice A V.ents.length c), .string key] w (ChildPost V key w) := by
  obtain ⟨w0, hw0⟩ : ∃ w0, w0 = (w.alloc (.cells (vwA V (.slice A V.ents.length c)) 43)).alloc (.cells #[.string nilS, .int .i64 0] 64) := ⟨_, rfl⟩
  have f0 : Fr none_ w w0 := by rw [hw0]; exact ((Fr.refl none_ w).alloc _).alloc _
  have BV : Hid (Blk w0 w.heap.size 43 (vwA V (.slice A V.ents.length c))) := hid_ (by rw [hw0]; exact (Blk.new w _ _).alloc _)
  have BO : Hid (Blk w0 (w.heap.size + 1) 64 #[.string nilS, .int .i64 0]) := hid_ (by
    have := Blk.new (w.alloc (.cells (vwA V (.slice A V.ents.length c)) 43)) 64 #[.string nilS, .int .i64 0]
    rw [World.size_alloc] at this
    rw [hw0]; exact this)
  have H := hid_ (h.keep f0)
  have F0 := hid_ f0
  have HK := hid_ hk
  have hle := ndN_le V.ents key
  have h1000 := h.ok.ents.1
  clear h f0 hk
  obtain ⟨n, hn⟩ : ∃ n, n = ndN V.ents key := ⟨_, rfl⟩
  obtain ⟨m, hm⟩ : ∃ m, m = plN V.ents key := ⟨_, rfl⟩
  obtain ⟨t, ht⟩ : ∃ t, t = atB V.ents key := ⟨_, rfl⟩
  obtain ⟨s, hs⟩ : ∃ s, s = inS V.low V.high V.unb key := ⟨_, rfl⟩
  have hnm : n = m + if t = true then 1 else 0 := by rw [hn, hm, ht]; rfl
  rw [← hn] at hle
  have hch : childM V key = if s = true ∧ n ≠ 0 then V.ents[n - 1]? else none := by rw [hs, hn]; rfl
  have HCH := hid_ hch
  have HM := hid_ hm
  have HT := hid_ ht
  have HS := hid_ hs
  have HNM := hid_ hnm
  clear hn hm ht hs hch hnm
  go_enter Try.func35, Try.ntmps35
  go_wp2_with fail
  change Calls _ _ _ ((w.alloc (.cells (vwA V (.slice A V.ents.length c)) 43)).alloc (.cells #[.string nilS, .int .i64 0] 64)) _
  rw [← hw0]
  clear hw0
  refine (place_ok V A c key _ H.out HK.out).mono ?_
  rintro e w1 ⟨rfl, hf1⟩
  rw [← HM.out, ← HT.out]
  have BV1 := hid_ (BV.out.fr hf1 id)
  have BO1 := hid_ (BO.out.fr hf1 id)
  have H1 := hid_ (H.out.keep hf1)
  have F1 := hid_ (F0.out.then_none hf1)
  clear hf1 BV BO H F0
  cases t with
  | false =>
    obtain rfl : n = m := by have := HNM.out; simpa using this
    go_upto_region 4 with fail
    have v0 : w1.cell? ⟨w.heap.size, 0, none⟩ = some (.string V.low) := BV1.out.cell' rfl
    have v1 : w1.cell? ⟨w.heap.size, 1, none⟩ = some (.string V.high) := BV1.out.cell' rfl
    have v2 : w1.cell? ⟨w.heap.size, 2, none⟩ = some (.bool V.unb) := BV1.out.cell' rfl
    have v3 : w1.cell? ⟨w.heap.size, 3, none⟩ = some (.int .i64 V.right) := BV1.out.cell' rfl
    have v4 : w1.cell? ⟨w.heap.size, 4, none⟩ = some (.slice A V.ents.length c) := BV1.out.cell' rfl
    have v5 : w1.cell? ⟨w.heap.size, 5, none⟩ = some (.bool V.held) := BV1.out.cell' rfl
    have v6 : w1.cell? ⟨w.heap.size, 6, none⟩ = some (.int .i64 V.hp) := BV1.out.cell' rfl
    have v7 : w1.cell? ⟨w.heap.size, 7, none⟩ = some (.int .i64 V.hl) := BV1.out.cell' rfl
    have v8 : w1.cell? ⟨w.heap.size, 8, none⟩ = some (.string V.hk) := BV1.out.cell' rfl
    go_wp2_with fail
    refine (vin_ok V _ key _ H1.out.ok.low H1.out.ok.high HK.out).mono ?_
    rintro e w2 ⟨rfl, hf2⟩
    rw [← HS.out]
    have BV2 := hid_ (BV1.out.fr hf2 id)
    have BO2 := hid_ (BO1.out.fr hf2 id)
    have H2 := hid_ (H1.out.keep hf2)
    have F2 := hid_ (F1.out.then_none hf2)
    clear hf2 v0 v1 v2 v3 v4 v5 v6 v7 v8
    have o0 : w2.cell? ⟨w.heap.size + 1, 0, none⟩ = some (.string nilS) := BO2.out.cell' rfl
    have o1 : w2.cell? ⟨w.heap.size + 1, 1, none⟩ = some (.int .i64 0) := BO2.out.cell' rfl
    have f0 := BO2.out.frozen 0
    have f1 := BO2.out.frozen 1
    cases s with
    | false =>
      go_wp2_with fail
      clear o0 o1 f0 f1
      obtain ⟨qb, qf⟩ := box2e BO2.out (.string nilS) (.int .i64 0)
      have q0 := qb.cell' (i := 0) rfl
      have q1 := qb.cell' (i := 1) rfl
      refine bodyPost_ret (v := .tuple #[.agg #[.string nilS, .int .i64 0], errV 2]) ?_ rfl ⟨.inr ⟨by rw [HCH.out]; rfl, rfl⟩, F2.out.then_only qf (.inr (by omega))⟩
      simp [results, Try.results35, go_sem, q0, q1]
    | true =>
      by_cases hn0 : n = 0
      · have hz : ((n : Int) == 0) = true := beq_iff_eq.2 (by omega)
        have HN0 := hid_ hn0
        clear hn0
        go_wp2_with fail
        clear o0 o1 f0 f1
        obtain ⟨qb, qf⟩ := box2e BO2.out (.string nilS) (.int .i64 0)
        have q0 := qb.cell' (i := 0) rfl
        have q1 := qb.cell' (i := 1) rfl
        refine bodyPost_ret (v := .tuple #[.agg #[.string nilS, .int .i64 0], errV 2]) ?_ rfl ⟨.inr ⟨by rw [HCH.out]; rw [HN0.out]; rfl, rfl⟩, F2.out.then_only qf (.inr (by omega))⟩
        simp [results, Try.results35, go_sem, q0, q1]
      · have hz : ((n : Int) == 0) = false := beq_eq_false_iff_ne.2 (by omega)
        obtain ⟨j, hj⟩ : ∃ j, j = n - 1 := ⟨_, rfl⟩
        obtain ⟨p, hp⟩ : ∃ p, V.ents[j]? = some p := ⟨_, List.getElem?_eq_getElem (by omega)⟩
        obtain ⟨b, off, rfl, hb, c0, c1⟩ := et_at H2.out.rd hp
        have v4 : w2.cell? ⟨w.heap.size, 4, none⟩ = some (.slice (some ⟨b, off, none⟩) V.ents.length c) := BV2.out.cell' rfl
        have hw1 : IntKind.i64.wrap ((n : Int) - 1) = (j : Int) := by rw [show (n : Int) - 1 = (j : Int) by omega]; exact IntWalk.i64_in _ (by omega)
        have hnj : (n : Int) - 1 = (j : Int) := by omega
        have hj0 : (0 : Int) ≤ (j : Int) := Int.natCast_nonneg _
        have hj1 : (j : Int) < (V.ents.length : Int) := by omega
        have HP : Hid (childM V key = some p) := hid_ (by rw [HCH.out, if_pos ⟨rfl, hn0⟩, ← hj]; exact hp)
        clear hp hj hn0
        go_wp2_with fail
        clear o0 o1 f0 f1 c0 c1 v4
        obtain ⟨qb, qf⟩ := box2e BO2.out (.string p.1) (.int .i64 p.2)
        have q0 := qb.cell' (i := 0) rfl
        have q1 := qb.cell' (i := 1) rfl
        refine bodyPost_ret (v := .tuple #[.agg #[.string p.1, .int .i64 p.2], .nilIface]) ?_ rfl ⟨.inl ⟨p, HP.out, rfl⟩, F2.out.then_only qf (.inr (by omega))⟩
        simp [results, Try.results35, go_sem, q0, q1]
  | true =>
    have hnm : n = m + 1 := by have := HNM.out; simpa using this
    have hmn : (m : Int) + 1 = (n : Int) := by omega
    have hmw : IntKind.i64.wrap (n : Int) = (n : Int) := IntWalk.i64_in _ (by omega)
    have hmw2 : IntKind.i64.wrap ((m : Int) + 1) = (n : Int) := by rw [hmn]; exact hmw
    clear hnm HNM
    go_upto_region 4 with fail
    have v0 : w1.cell? ⟨w.heap.size, 0, none⟩ = some (.string V.low) := BV1.out.cell' rfl
    have v1 : w1.cell? ⟨w.heap.size, 1, none⟩ = some (.string V.high) := BV1.out.cell' rfl
    have v2 : w1.cell? ⟨w.heap.size, 2, none⟩ = some (.bool V.unb) := BV1.out.cell' rfl
    have v3 : w1.cell? ⟨w.heap.size, 3, none⟩ = some (.int .i64 V.right) := BV1.out.cell' rfl
    have v4 : w1.cell? ⟨w.heap.size, 4, none⟩ = some (.slice A V.ents.length c) := BV1.out.cell' rfl
    have v5 : w1.cell? ⟨w.heap.size, 5, none⟩ = some (.bool V.held) := BV1.out.cell' rfl
    have v6 : w1.cell? ⟨w.heap.size, 6, none⟩ = some (.int .i64 V.hp) := BV1.out.cell' rfl
    have v7 : w1.cell? ⟨w.heap.size, 7, none⟩ = some (.int .i64 V.hl) := BV1.out.cell' rfl
    have v8 : w1.cell? ⟨w.heap.size, 8, none⟩ = some (.string V.hk) := BV1.out.cell' rfl
    go_wp2_with fail
    refine (vin_ok V _ key _ H1.out.ok.low H1.out.ok.high HK.out).mono ?_
    rintro e w2 ⟨rfl, hf2⟩
    rw [← HS.out]
    have BV2 := hid_ (BV1.out.fr hf2 id)
    have BO2 := hid_ (BO1.out.fr hf2 id)
    have H2 := hid_ (H1.out.keep hf2)
    have F2 := hid_ (F1.out.then_none hf2)
    clear hf2 v0 v1 v2 v3 v4 v5 v6 v7 v8
    have o0 : w2.cell? ⟨w.heap.size + 1, 0, none⟩ = some (.string nilS) := BO2.out.cell' rfl
    have o1 : w2.cell? ⟨w.heap.size + 1, 1, none⟩ = some (.int .i64 0) := BO2.out.cell' rfl
    have f0 := BO2.out.frozen 0
    have f1 := BO2.out.frozen 1
    cases s with
    | false =>
      go_wp2_with fail
      clear o0 o1 f0 f1
      obtain ⟨qb, qf⟩ := box2e BO2.out (.string nilS) (.int .i64 0)
      have q0 := qb.cell' (i := 0) rfl
      have q1 := qb.cell' (i := 1) rfl
      refine bodyPost_ret (v := .tuple #[.agg #[.string nilS, .int .i64 0], errV 2]) ?_ rfl ⟨.inr ⟨by rw [HCH.out]; rfl, rfl⟩, F2.out.then_only qf (.inr (by omega))⟩
      simp [results, Try.results35, go_sem, q0, q1]
    | true =>
      by_cases hn0 : n = 0
      · have hz : ((n : Int) == 0) = true := beq_iff_eq.2 (by omega)
        have HN0 := hid_ hn0
        clear hn0
        go_wp2_with fail
        clear o0 o1 f0 f1
        obtain ⟨qb, qf⟩ := box2e BO2.out (.string nilS) (.int .i64 0)
        have q0 := qb.cell' (i := 0) rfl
        have q1 := qb.cell' (i := 1) rfl
        refine bodyPost_ret (v := .tuple #[.agg #[.string nilS, .int .i64 0], errV 2]) ?_ rfl ⟨.inr ⟨by rw [HCH.out]; rw [HN0.out]; rfl, rfl⟩, F2.out.then_only qf (.inr (by omega))⟩
        simp [results, Try.results35, go_sem, q0, q1]
      · have hz : ((n : Int) == 0) = false := beq_eq_false_iff_ne.2 (by omega)
        obtain ⟨j, hj⟩ : ∃ j, j = n - 1 := ⟨_, rfl⟩
        obtain ⟨p, hp⟩ : ∃ p, V.ents[j]? = some p := ⟨_, List.getElem?_eq_getElem (by omega)⟩
        obtain ⟨b, off, rfl, hb, c0, c1⟩ := et_at H2.out.rd hp
        have v4 : w2.cell? ⟨w.heap.size, 4, none⟩ = some (.slice (some ⟨b, off, none⟩) V.ents.length c) := BV2.out.cell' rfl
        have hw1 : IntKind.i64.wrap ((n : Int) - 1) = (j : Int) := by rw [show (n : Int) - 1 = (j : Int) by omega]; exact IntWalk.i64_in _ (by omega)
        have hnj : (n : Int) - 1 = (j : Int) := by omega
        have hj0 : (0 : Int) ≤ (j : Int) := Int.natCast_nonneg _
        have hj1 : (j : Int) < (V.ents.length : Int) := by omega
        have HP : Hid (childM V key = some p) := hid_ (by rw [HCH.out, if_pos ⟨rfl, hn0⟩, ← hj]; exact hp)
        clear hp hj hn0
        go_wp2_with fail
        clear o0 o1 f0 f1 c0 c1 v4
        obtain ⟨qb, qf⟩ := box2e BO2.out (.string p.1) (.int .i64 p.2)
        have q0 := qb.cell' (i := 0) rfl
        have q1 := qb.cell' (i := 1) rfl
        refine bodyPost_ret (v := .tuple #[.agg #[.string p.1, .int .i64 p.2], .nilIface]) ?_ rfl ⟨.inl ⟨p, HP.out, rfl⟩, F2.out.then_only qf (.inr (by omega))⟩
        simp [results, Try.results35, go_sem, q0, q1]
end Go.Proofs.Ytpjbncbmdfmlpaa

/- Contracts of mapping.New, Take, Pages. -/
import Derived.Test.YthcpccddcgbanaaMap
namespace Go.Proofs.Ythcpccddcgbanaa
open Go.RowKit

theorem page_info : (Try.prog.info? 115).map (fun i => (i.zero, i.size, i.bytes)) = some (some (.agg #[.bool false, .int .i64 0, .int .i64 0]), 3, 24) := by kernel_rfl

theorem run_make_rowN {P : Program} (t e : TypeId) (i : TypeInfo) (z : Value) (ht : P.underlying t = some (.slice e)) (hi : P.info? e = some i) (hz : i.zero = some z)
    (kl kc : IntKind) (n c : Nat) (hnc : n ≤ c) (hbytes : i.bytes * c ≤ 281474976710656) (h63 : c ≤ 9223372036854775807) (w : World) :
    (Instr.makeSlice t (.int kl (n : Int)) (.int kc (c : Int))).run P w = .ok (.slice (some ⟨w.heap.size, 0, none⟩) n c) (w.alloc (.cells (madeCells z.cells (c * i.size)) e)) := by
  have hb : (i.bytes : Int) * (c : Int) ≤ 281474976710656 := by
    have h : ((i.bytes * c : Nat) : Int) ≤ 281474976710656 := by omega
    rwa [Int.natCast_mul] at h
  have hr := run_make (P := P) w t e i z ht hi hz kl kc n c (by omega) (by omega) hb (by omega)
  simp only [Int.toNat_natCast] at hr
  exact hr

theorem madeCells3 (a b c : Value) (n i : Nat) (hi : i < n) : (madeCells #[a, b, c] (n * 3))[i * 3]? = some a ∧ (madeCells #[a, b, c] (n * 3))[i * 3 + 1]? = some b ∧ (madeCells #[a, b, c] (n * 3))[i * 3 + 1 + 1]? = some c := by
  have h0 : i * 3 < n * 3 := by omega
  have h1 : i * 3 + 1 < n * 3 := by omega
  have h2 : i * 3 + 1 + 1 < n * 3 := by omega
  refine ⟨?_, ?_, ?_⟩
  · simp [madeCells, h0]
  · have : (i * 3 + 1) % 3 = 1 := by omega
    simp [madeCells, h1, this]
  · have : (i * 3 + 1 + 1) % 3 = 2 := by omega
    simp [madeCells, h2, this]

theorem mapNew_no (n : Int) (w : World) (h : n < 1 ∨ 256 < n) : Calls Try.prog 31 #[.int .i64 n] w fun e w' => e = .returned (.pointer none) ∧ w = w' := by
  by_cases h1 : n < 1
  · clear h
    go_enter Try.func31, Try.ntmps31
    go_wp2
    go_ret
    exact ⟨rfl, rfl⟩
  · have h2 : 256 < n := by omega
    clear h
    go_enter Try.func31, Try.ntmps31
    go_wp2
    go_ret
    exact ⟨rfl, rfl⟩

def NewPost (n : Nat) (w : World) (e : Ending) (w' : World) : Prop :=
  e = .returned (.pointer (some ⟨w.heap.size + 1, 0, none⟩)) ∧ Tbl w' (w.heap.size + 1) w.heap.size (List.replicate n (false, 0, 0)) ∧ Fr none_ w w' ∧ w'.heap.size = w.heap.size + 2

theorem mapNew_ok (n : Nat) (w : World) (h1 : 1 ≤ n) (h2 : n ≤ 256) : Calls Try.prog 31 #[.int .i64 n] w (NewPost n w) := by
  have hfin : NewPost n w (.returned (.pointer (some ⟨w.heap.size + 1, 0, none⟩))) ((w.alloc (.cells (madeCells #[.bool false, .int .i64 0, .int .i64 0] (n * 3)) 115)).alloc (.cells #[.slice (some ⟨w.heap.size, 0, none⟩) n n] 107)) := by
    refine ⟨rfl, ⟨n, madeCells #[.bool false, .int .i64 0, .int .i64 0] (n * 3), ?_, ?_, by simpa using h2, by simp, by unfold maxLen; omega, by simp [size_madeCells], ?_⟩, ((Fr.refl _ _).alloc _).alloc _, by simp⟩
    · have := Blk.new (w.alloc (.cells (madeCells #[.bool false, .int .i64 0, .int .i64 0] (n * 3)) 115)) 107 #[.slice (some ⟨w.heap.size, 0, none⟩) n n]
      simpa using this
    · exact (Blk.new w _ _).alloc _
    · intro i p hi
      obtain ⟨hlt, rfl⟩ : i < n ∧ p = (false, 0, 0) := by
        rw [List.getElem?_replicate] at hi
        split at hi
        · exact ⟨by assumption, by simpa using hi.symm⟩
        · cases hi
      exact madeCells3 _ _ _ n i hlt
  obtain ⟨i0, hi0, hz0, hs0, hb0⟩ := info_parts page_info
  have hmk := fun W => run_make_rowN (P := Try.prog) 105 115 i0 _ Try.underlying105 hi0 hz0 .i64 .i64 n n (Nat.le_refl _) (by rw [hb0]; omega) (by omega) W
  rw [hs0] at hmk
  simp only [Value.cells] at hmk
  have H := hid_ hfin
  clear hfin hi0 hz0 hs0 hb0
  go_enter Try.func31, Try.ntmps31
  go_wp2
  go_ret
  exact H.out

theorem take_nil (w : World) : Calls Try.prog 34 #[.pointer none] w fun e w' => e = .returned (.tuple #[.int .i64 0, errV 1]) ∧ w = w' := by
  go_enter Try.func34, Try.ntmps34
  go_wp2
  go_ret2
  exact ⟨rfl, rfl⟩

theorem take_full (T G : Nat) (ps : List Pg) (w : World) (h : Tbl w T G ps) (hu : ∀ (j : Nat) (p : Pg), ps[j]? = some p → p.1 = true) :
    Calls Try.prog 34 #[.pointer (some ⟨T, 0, none⟩)] w fun e w' => e = .returned (.tuple #[.int .i64 0, errV 3]) ∧ w = w' := by
  obtain ⟨cap, cur, hT, hG, h1, h2, h3, h4, h5⟩ := h
  have c0 : w.cell? ⟨T, 0, none⟩ = some (.slice (some ⟨G, 0, none⟩) ps.length cap) := hT.cell' (i := 0) rfl
  have hc : ∀ k, k < ps.length → w.cell? ⟨G, k * 3, none⟩ = some (.bool true) := fun k hk => by
    have hi : ps[k]? = some ps[k] := List.getElem?_eq_getElem hk
    have := hG.cell' (h5 k _ hi).1
    rwa [hu k _ hi] at this
  have Hc := hid_ hc
  clear hT hG h5 hu hc
  go_enter Try.func34, Try.ntmps34
  go_wp2
  go_loop [13] (fun i => ∃ k : Nat, k ≤ ps.length ∧ i = .int .i64 k) (fun i => ps.length - (intOf i).toNat)
  case atStart => exact ⟨0, Nat.zero_le _, rfl⟩
  case round =>
    obtain ⟨k, hk, rfl⟩ := hrel
    by_cases hlt : k < ps.length
    · have hcx := Hc.out k hlt
      go_wp2
      go_round
      case rel => exact ⟨k + 1, by omega, by go_num⟩
      case measure => simp [intOf]; omega
    · go_wp2
      go_ret2
      exact ⟨rfl, rfl⟩

theorem mtake_ok (T G : Nat) (ps : List Pg) (n : Nat) (s g : Int) (w : World) (h : Tbl w T G ps) (hn : ps[n]? = some (false, s, g)) (hu : ∀ (j : Nat) (p : Pg), j < n → ps[j]? = some p → p.1 = true) :
    Calls Try.prog 34 #[.pointer (some ⟨T, 0, none⟩)] w fun e w' => e = .returned (.tuple #[.int .i64 n, .nilIface]) ∧ w' = setPg w G n (true, 0, 0) := by
  obtain ⟨cap, cur, hT, hG, h1, h2, h3, h4, h5⟩ := h
  have hnl : n < ps.length := (List.getElem?_eq_some_iff.1 hn).1
  have c0 : w.cell? ⟨T, 0, none⟩ = some (.slice (some ⟨G, 0, none⟩) ps.length cap) := hT.cell' (i := 0) rfl
  have hc : ∀ k, k < n → w.cell? ⟨G, k * 3, none⟩ = some (.bool true) := fun k hk => by
    have hi : ps[k]? = some ps[k] := List.getElem?_eq_getElem (by omega)
    have := hG.cell' (h5 k _ hi).1
    rwa [hu k _ hk hi] at this
  obtain ⟨d0, d1, d2⟩ := h5 n _ hn
  have e0 := hG.cell' d0
  have e1 := hG.cell' d1
  have e2 := hG.cell' d2
  have f := hG.frozen
  have f0 := f (n * 3)
  have f1 := f (n * 3 + 1)
  have f2 := f (n * 3 + 1 + 1)
  have Hc := hid_ hc
  clear hT hG h5 hu hc hn f d0 d1 d2
  go_enter Try.func34, Try.ntmps34
  go_wp2
  go_loop [13] (fun i => ∃ k : Nat, k ≤ n ∧ i = .int .i64 k) (fun i => ps.length - (intOf i).toNat)
  case atStart => exact ⟨0, Nat.zero_le _, rfl⟩
  case round =>
    obtain ⟨k, hk, rfl⟩ := hrel
    by_cases hlt : k < n
    · have hcx := Hc.out k hlt
      go_wp2
      go_round
      case rel => exact ⟨k + 1, by omega, by go_num⟩
      case measure => simp [intOf]; omega
    · obtain rfl : k = n := by omega
      go_wp2
      go_ret2
      exact ⟨rfl, rfl⟩
end Go.Proofs.Ythcpccddcgbanaa

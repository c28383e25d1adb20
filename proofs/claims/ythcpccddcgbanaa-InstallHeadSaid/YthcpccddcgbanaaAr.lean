/- The arena in memory: slots in one block. -/
import Derived.Test.YthcpccddcgbanaaRdAt
import Derived.WalkSpells
import Derived.WalkLawsBesides
import Derived.Deep.QuietTactic
import Derived.BigQuiet
import Derived.Deep.RegionHeld3
import Derived.Laws.MakeOwn
import Derived.Test.YthcpccddcgbanaaHeldT
import Derived.Test.YthcpccddcgbanaaMid
namespace Go.Proofs.Ythcpccddcgbanaa
open Go.RowKit
set_option maxRecDepth 100000
set_option linter.unusedVariables false

structure Sl where
  gen : Int
  used : Bool
  R : Rc
  vr : Value
  ve : Value
abbrev slL (s : Sl) : List Value := [.int .i64 s.gen, .bool s.used, .int .i64 s.R.kind, .string s.R.low, .string s.R.high, .bool s.R.unb, .int .i64 s.R.right, s.vr, s.ve, .string s.R.key, .string s.R.val, .int .i64 s.R.page, .int .i64 s.R.hpage, .int .i64 s.R.hleft, .string s.R.hkey, .int .i64 s.R.nslot, .int .i64 s.R.ngen]
def Sl.zero : Sl := ⟨0, false, Rc.zero, .slice none 0 0, .slice none 0 0⟩
def SlCells (cs : Array Value) (ss : List Sl) : Prop := cs.size = ss.length * 17 ∧ ∀ i s, ss[i]? = some s → ∀ j v, (slL s)[j]? = some v → cs[i * 17 + j]? = some v

theorem SlCells.set_ {cs : Array Value} {ss : List Sl} (h : SlCells cs ss) {i : Nat} (s : Sl) (hi : i < ss.length) : SlCells (setA cs (i * 17) (slL s)) (ss.set i s) := by
  refine ⟨by rw [setA_size, h.1]; simp, fun k t hk j v hj => ?_⟩
  have hjl : j < 17 := by have := (List.getElem?_eq_some_iff.1 hj).1; simpa using this
  rw [List.getElem?_set] at hk
  split at hk
  · subst_vars
    obtain rfl : s = t := by simpa using hk
    exact setA_in _ _ _ j v hj (by rw [h.1]; omega)
  · rename_i hne
    rw [setA_out _ _ _ _ (by simp; omega)]
    exact h.2 k t hk j v hj

structure Ar (w : World) (a G : Nat) (last : Int) (ss : List Sl) : Prop where
  hA : Blk w a 104 #[.slice (some ⟨G, 0, none⟩) ss.length ss.length, .int .i64 last]
  hG : ∃ cs, Blk w G 113 cs ∧ SlCells cs ss
  own : ∀ (i : Nat) (s : Sl), ss[i]? = some s → RecOwn w 0 s.R s.vr s.ve
  l40 : last ≤ 1099511627776
  len : ss.length ≤ 4096
  gen : ∀ s ∈ ss, 0 ≤ s.gen ∧ s.gen ≤ last
  sz : ∀ s ∈ ss, s.R.rows.length ≤ 1000 ∧ s.R.ents.length ≤ 1000
section
variable {w w' : World} {a G : Nat} {last : Int} {ss : List Sl}
theorem Ar.keep (h : Ar w a G last ss) (hf : Fr none_ w w') : Ar w' a G last ss := by
  obtain ⟨cs, hG, hc⟩ := h.hG
  exact ⟨h.hA.fr hf id, ⟨cs, hG.fr hf id, hc⟩, fun i s hs => (h.own i s hs).keep hf, h.l40, h.len, h.gen, h.sz⟩
theorem Ar.ltA (h : Ar w a G last ss) : a < w.heap.size := h.hA.lt
theorem Ar.ltG (h : Ar w a G last ss) : G < w.heap.size := by obtain ⟨cs, hG, hc⟩ := h.hG; exact hG.lt
theorem Ar.ne (h : Ar w a G last ss) : a ≠ G := by obtain ⟨cs, hG, hc⟩ := h.hG; exact Blk.ne_ h.hA hG (by decide)
/-- A cell of a slot. -/
theorem Ar.cell (h : Ar w a G last ss) {i : Nat} {s : Sl} (hs : ss[i]? = some s) (j : Nat) {v : Value} (hv : (slL s)[j]? = some v) : w.cell? ⟨G, i * 17 + j, none⟩ = some v := by
  obtain ⟨cs, hG, hc⟩ := h.hG
  exact hG.cell' (hc.2 i s hs j v hv)
theorem Ar.frozen (h : Ar w a G last ss) (o : Nat) : w.frozen? ⟨G, o, none⟩ = false := by
  obtain ⟨cs, hG, hc⟩ := h.hG
  exact hG.frozen o
/-- Where a block of another type was turned. -/
theorem Ar.beside (h : Ar w a G last ss) {g : Nat} {t : TypeId} {cs : Array Value} (hf : Fr (only g) w w') (hg : Blk w g t cs) (h1 : 97 ≠ t) (h2 : 99 ≠ t) (h3 : a ≠ g) (h4 : G ≠ g) : Ar w' a G last ss := by
  obtain ⟨cs, hG, hc⟩ := h.hG
  exact ⟨h.hA.fr hf (only_ne h3), ⟨cs, hG.fr hf (only_ne h4), hc⟩, fun i s hs => (h.own i s hs).only hf hg h1 h2, h.l40, h.len, h.gen, h.sz⟩
/-- A slot was written. -/
theorem Ar.put (h : Ar w a G last ss) {i : Nat} {s : Sl} (hi : i < ss.length) (hf : Fr (only G) w w') (hb : ∀ cs, Blk w G 113 cs → Blk w' G 113 (setA cs (i * 17) (slL s))) (ho : RecOwn w' 0 s.R s.vr s.ve) (hg : 0 ≤ s.gen ∧ s.gen ≤ last) (hz : s.R.rows.length ≤ 1000 ∧ s.R.ents.length ≤ 1000) : Ar w' a G last (ss.set i s) := by
  have hne := h.ne
  obtain ⟨cs, hG, hc⟩ := h.hG
  refine ⟨by rw [List.length_set]; exact h.hA.fr hf (only_ne hne), ⟨_, hb cs hG, hc.set_ s hi⟩, fun k t hk => ?_, h.l40, by rw [List.length_set]; exact h.len, fun t ht => ?_, fun t ht => ?_⟩
  · rw [List.getElem?_set] at hk
    split at hk
    · obtain rfl : s = t := by simpa using hk
      exact ho
    · exact (h.own k t hk).only hf hG (by decide) (by decide)
  · rcases List.mem_or_eq_of_mem_set ht with ht | rfl
    · exact h.gen t ht
    · exact hg
  · rcases List.mem_or_eq_of_mem_set ht with ht | rfl
    · exact h.sz t ht
    · exact hz
end

theorem arNew_no (n last : Int) (w : World) (h : n < 1 ∨ 4096 < n ∨ last < 1 ∨ 1099511627776 < last) : Calls Try.prog 30 #[.int .i64 n, .int .i64 last] w fun e w' => e = .returned (.pointer none) ∧ w = w' := by
  by_cases h1 : n < 1
  · clear h
    go_enter Try.func30, Try.ntmps30
    go_wp2
    go_ret
    exact ⟨rfl, rfl⟩
  by_cases h2 : 4096 < n
  · clear h
    go_enter Try.func30, Try.ntmps30
    go_wp2
    go_ret
    exact ⟨rfl, rfl⟩
  by_cases h3 : last < 1
  · clear h
    go_enter Try.func30, Try.ntmps30
    go_wp2
    go_ret
    exact ⟨rfl, rfl⟩
  have h4 : 1099511627776 < last := by omega
  clear h
  go_enter Try.func30, Try.ntmps30
  go_wp2
  go_ret
  exact ⟨rfl, rfl⟩
theorem slot_info : (Try.prog.info? 113).map (fun i => (i.zero, i.size, i.bytes)) = some (some (.agg (slL Sl.zero).toArray), 17, 208) := by kernel_rfl
theorem made_slots (n : Nat) : SlCells (madeCells (slL Sl.zero).toArray (n * 17)) (List.replicate n Sl.zero) := by
  refine ⟨by rw [size_madeCells, List.length_replicate], fun i s hs j v hv => ?_⟩
  have hjl : j < 17 := by have := (List.getElem?_eq_some_iff.1 hv).1; simpa using this
  rw [List.getElem?_replicate] at hs
  split at hs
  · rename_i hin
    obtain rfl : Sl.zero = s := by simpa using hs
    have hm : (i * 17 + j) % 17 = j := by omega
    have hz : (slL Sl.zero).toArray.size = 17 := rfl
    have hlt : i * 17 + j < n * 17 := by omega
    unfold madeCells
    rw [Array.getElem?_map, Array.getElem?_range, if_pos hlt]
    simp only [Option.map_some, hz, hm]
    rw [List.getElem?_eq_some_iff] at hv
    obtain ⟨h1, h2⟩ := hv
    rw [← h2]
    congr 1
    exact getElem!_pos _ _ _
  · cases hs
def NewAr (n : Nat) (last : Int) (w : World) (e : Ending) (w' : World) : Prop :=
  ∃ a G, e = .returned (.pointer (some ⟨a, 0, none⟩)) ∧ Ar w' a G last (List.replicate n Sl.zero) ∧ Fr none_ w w' ∧ w.heap.size ≤ a ∧ w.heap.size ≤ G
theorem arNew_ok (n : Nat) (last : Int) (w : World) (h1 : 1 ≤ n) (h2 : n ≤ 4096) (h3 : 1 ≤ last) (h4 : last ≤ 1099511627776) : Calls Try.prog 30 #[.int .i64 n, .int .i64 last] w (NewAr n last w) := by
  obtain ⟨i0, hi0, hz0, hs0, hb0⟩ := info_parts slot_info
  have hmk := fun W : World => run_make (P := Try.prog) W 102 113 i0 _ Try.underlying102 hi0 hz0 .i64 .i64 (n : Int) (n : Int) (by omega) (by omega) (by rw [hb0]; omega) (by omega)
  rw [hs0] at hmk
  simp only [Int.toNat_natCast] at hmk
  clear hi0 hz0 hs0 hb0
  go_enter Try.func30, Try.ntmps30
  go_wp2_with fail
  go_ret
  have hf : Fr none_ w ((w.alloc (.cells (madeCells (slL Sl.zero).toArray (n * 17)) 113)).alloc (.cells #[.slice (some ⟨w.heap.size, 0, none⟩) n n, .int .i64 last] 104)) := ((Fr.refl none_ w).alloc _).alloc _
  have hm : ∀ s ∈ List.replicate n Sl.zero, s = Sl.zero := fun s hs => List.eq_of_mem_replicate hs
  refine ⟨w.heap.size + 1, w.heap.size, rfl, ⟨?_, ⟨madeCells (slL Sl.zero).toArray (n * 17), ?_, made_slots n⟩, fun i s hs => ?_, h4, ?_, fun s hs => ?_, fun s hs => ?_⟩, hf, by omega, by omega⟩
  · have h0 := Blk.new (w.alloc (.cells (madeCells (slL Sl.zero).toArray (n * 17)) 113)) 104 #[.slice (some ⟨w.heap.size, 0, none⟩) n n, .int .i64 last]
    rw [World.size_alloc] at h0
    rw [List.length_replicate]
    exact h0
  · exact (Blk.new w 113 _).alloc _
  · rw [hm s (List.mem_of_getElem? hs)]
    exact RecOwn.zero _ 0
  · rw [List.length_replicate]; omega
  · rw [hm s hs]; exact ⟨by decide, by show (0 : Int) ≤ last; omega⟩
  · rw [hm s hs]; exact ⟨by decide, by decide⟩
end Go.Proofs.Ythcpccddcgbanaa

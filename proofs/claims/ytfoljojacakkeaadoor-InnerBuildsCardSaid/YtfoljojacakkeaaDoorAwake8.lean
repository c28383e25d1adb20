/- awake of layer 8. -/
import Derived.Test.YtfoljojacakkeaaDoorOwn8
import Derived.Test.YtfoljojacakkeaaDoorChild
import Derived.Deep.DeepCutAuto
namespace Go.Proofs.YtfoljojacakkeaaDoor
open Go.RowKit Go.BigFrame
set_option maxRecDepth 100000
set_option linter.unusedVariables false

abbrev sM : ByteArray := ⟨#[109]⟩
abbrev sA : ByteArray := ⟨#[97]⟩
def awR0 : Rc := { Rc.zero with kind := 8, key := sM, page := 2 }
def awR1 : Rc := { Rc.zero with kind := 7, unb := true, ents := [(nilS, 1)] }
def awV : Vw := ⟨nilS, nilS, true, 0, [(nilS, 1), (sM, 2)], false, 0, 0, nilS⟩
theorem aw_base : Sound (baseV awR1) := by
  refine ⟨⟨(nilS, 1), rfl, rfl⟩, fun _ => rfl, fun p hp => ?_, fun i p q hp hq => ?_⟩
  · obtain rfl : p = (nilS, 1) := by simpa [baseV, awR1] using hp
    rfl
  · have : i + 1 < 1 := (List.getElem?_eq_some_iff.1 hq).1
    omega
theorem aw_fold : foldU [awR0, awR1] = some awV := by
  rw [foldU_cons _ (by simp), foldU_one awR1 rfl aw_base]
  rfl
theorem sEq_data (a b : ByteArray) : sEq a b = (a.data.toList == b.data.toList) := by unfold sEq; rw [ba_toList, ba_toList]
theorem aw_childA : childM awV sA = some (nilS, 1) := by simp [childM, ndN, plN, atB, inS, awV, ltS, ltL, sEq_data]
theorem aw_childM : childM awV sM = some (sM, 2) := by simp [childM, ndN, plN, atB, inS, awV, ltS, ltL, sEq_data]
theorem aw_has : atB awV.ents sM = true := by simp [plN, atB, awV, ltS, ltL, sEq_data]

/-- A block of records, read as a chain. -/
theorem chReads_blk {w : World} {g : Nat} {Cs : List Ch} {n : Nat} (hb : Blk w g 40 (recFlat Cs).toArray) (hn : Cs.length = n) (hc : ∀ C ∈ Cs, ChOk w C) : ChReads w (some ⟨g, 0, none⟩) n Cs :=
  ⟨hn, fun h0 => ⟨g, 0, rfl, hb.lt, fun k C hC => ⟨fun j v hv => by
    rw [Nat.zero_add]
    exact hb.cell' (by have := recFlat_get Cs k C hC j v hv; simpa using this), hc C (List.mem_of_getElem? hC)⟩⟩⟩
theorem rec_nil (w : World) (R : Rc) (hr : R.rows = []) (he : R.ents = []) : RecReads w R none none := ⟨by rw [hr]; exact Reads.nil_, by rw [he]; exact Reads.nil_⟩
set_option maxHeartbeats 4000000 in
theorem awake8 (w : World) : Calls Tryd.prog 23 #[] w fun e w' => e = .returned (.bool true) ∧ Fr none_ w w' := by
  go_enter Tryd.func23, Tryd.ntmps23
  go_wp2_with fail
  obtain ⟨w1, hw1⟩ : ∃ w1, w1 = (w.alloc (.cells #[.string ⟨#[]⟩, .int .i64 1] 60)).alloc (.cells #[.int .i64 8, .string ⟨#[]⟩, .string ⟨#[]⟩, .bool false, .int .i64 0, .slice none 0 0, .slice none 0 0, .string ⟨#[109]⟩, .string ⟨#[]⟩, .int .i64 2, .int .i64 0, .int .i64 0, .string ⟨#[]⟩, .int .i64 0, .int .i64 0, .int .i64 7, .string ⟨#[]⟩, .string ⟨#[]⟩, .bool true, .int .i64 0, .slice none 0 0, .slice (some ⟨w.heap.size, 0, none⟩) 1 1, .string ⟨#[]⟩, .string ⟨#[]⟩, .int .i64 0, .int .i64 0, .int .i64 0, .string ⟨#[]⟩, .int .i64 0, .int .i64 0] 40) := ⟨_, rfl⟩
  have f1 : Fr none_ w w1 := by rw [hw1]; exact ((Fr.refl none_ w).alloc _).alloc _
  have B1 : Blk w1 (w.heap.size + 1) 40 (recFlat [(⟨awR0, none, 0, none, 0⟩ : Ch), ⟨awR1, none, 0, some ⟨w.heap.size, 0, none⟩, 1⟩]).toArray := by
    have := Blk.new (w.alloc (.cells #[.string ⟨#[]⟩, .int .i64 1] 60)) 40 (recFlat [(⟨awR0, none, 0, none, 0⟩ : Ch), ⟨awR1, none, 0, some ⟨w.heap.size, 0, none⟩, 1⟩]).toArray
    rw [World.size_alloc] at this
    rw [hw1]
    exact this
  have E1 : Reads w1 2 (some ⟨w.heap.size, 0, none⟩) 1 (etFlat [(nilS, 1)]) := by
    rw [hw1]
    exact (reads_new w 60 [.string nilS, .int .i64 1] w.heap.size rfl).alloc _
  have sz1 : SzOk sM := by unfold SzOk; decide
  have HCh : Hid (ChReads w1 (some ⟨w.heap.size + 1, 0, none⟩) 2 [(⟨awR0, none, 0, none, 0⟩ : Ch), ⟨awR1, none, 0, some ⟨w.heap.size, 0, none⟩, 1⟩]) := hid_ (chReads_blk B1 rfl (fun C hC => by
    simp only [List.mem_cons, List.not_mem_nil, or_false] at hC
    rcases hC with rfl | rfl
    · exact ⟨rec_nil _ _ rfl rfl, SzOk.nil, SzOk.nil, sz1, SzOk.nil, ⟨by show (0:Nat) ≤ 1000; decide, fun p hp => by simp [awR0, Rc.zero] at hp⟩, by show (0:Nat) ≤ 0; decide, by show (0:Nat) ≤ maxLen; decide⟩
    · exact ⟨⟨Reads.nil_, E1⟩, SzOk.nil, SzOk.nil, SzOk.nil, SzOk.nil, ⟨by show (1:Nat) ≤ 1000; decide, fun p hp => by
        obtain rfl : p = (nilS, 1) := by simpa [awR1] using hp
        exact SzOk.nil⟩, by show (1:Nat) ≤ 1; decide, by show (1:Nat) ≤ maxLen; decide⟩))
  have F1 := hid_ f1
  rw [← hw1]
  clear hw1 f1 B1 E1
  refine (fold_ok _ 2 2 _ w1 HCh.out (by omega) (fun C hC => by
    simp only [List.mem_cons, List.not_mem_nil, or_false] at hC
    rcases hC with rfl | rfl
    · show (0:Nat) ≤ 500
      decide
    · show (1:Nat) ≤ 500
      decide)).mono ?_
  rintro e w2 (⟨V, A, c, -, hfo, rfl, hvin, -, hf⟩ | ⟨k, hk, hno, rfl, hf⟩)
  · have hV : V = awV := Option.some.inj (hfo.symm.trans aw_fold)
    have HV := hid_ hV
    have VI := hid_ hvin
    have F2 := hid_ (F1.out.then_none hf)
    have SZ := hid_ sz1
    clear hfo hV hvin hf sz1 HCh
    go_upto_region 2 with fail
    obtain ⟨w3, hw3⟩ : ∃ w3, w3 = w2.alloc (.cells (vwA V (.slice A V.ents.length c)) 57) := ⟨_, rfl⟩
    have f3 : Fr none_ w2 w3 := by rw [hw3]; exact (Fr.refl none_ w2).alloc _
    have BV : Hid (Blk w3 w2.heap.size 57 (vwA V (.slice A V.ents.length c))) := hid_ (by rw [hw3]; exact Blk.new w2 _ _)
    have VI3 := hid_ (VI.out.keep f3)
    have F3 := hid_ (F2.out.then_none f3)
    change Code.wp _ _ _ _ (w2.alloc (.cells (vwA V (.slice A V.ents.length c)) 57))
    rw [← hw3]
    clear hw3 f3
    have v0 : w3.cell? ⟨w2.heap.size, 0, none⟩ = some (.string V.low) := BV.out.cell' rfl
    have v1 : w3.cell? ⟨w2.heap.size, 1, none⟩ = some (.string V.high) := BV.out.cell' rfl
    have v2 : w3.cell? ⟨w2.heap.size, 2, none⟩ = some (.bool V.unb) := BV.out.cell' rfl
    have v3 : w3.cell? ⟨w2.heap.size, 3, none⟩ = some (.int .i64 V.right) := BV.out.cell' rfl
    have v4 : w3.cell? ⟨w2.heap.size, 4, none⟩ = some (.slice A V.ents.length c) := BV.out.cell' rfl
    have v5 : w3.cell? ⟨w2.heap.size, 5, none⟩ = some (.bool V.held) := BV.out.cell' rfl
    have v6 : w3.cell? ⟨w2.heap.size, 6, none⟩ = some (.int .i64 V.hp) := BV.out.cell' rfl
    have v7 : w3.cell? ⟨w2.heap.size, 7, none⟩ = some (.int .i64 V.hl) := BV.out.cell' rfl
    have v8 : w3.cell? ⟨w2.heap.size, 8, none⟩ = some (.string V.hk) := BV.out.cell' rfl
    go_wp2_with fail
    refine (child_ok V A c sA _ VI3.out (by unfold SzOk; decide)).mono ?_
    rintro e w4 ⟨(⟨p, hp, rfl⟩ | ⟨hp, -⟩), hf4⟩
    · obtain rfl : p = (nilS, 1) := by rw [HV.out, aw_childA] at hp; exact (Option.some.inj hp).symm
      have BV4 := hid_ (BV.out.fr hf4 id)
      have VI4 := hid_ (VI3.out.keep hf4)
      have F4 := hid_ (F3.out.then_none hf4)
      clear hp hf4 v0 v1 v2 v3 v4 v5 v6 v7 v8
      go_upto_region 3 with fail
      obtain ⟨w5, hw5⟩ : ∃ w5, w5 = w4.alloc (.cells #[.string nilS, .int .i64 1] 60) := ⟨_, rfl⟩
      have f5 : Fr none_ w4 w5 := by rw [hw5]; exact (Fr.refl none_ w4).alloc _
      have BE : Hid (Blk w5 w4.heap.size 60 #[.string nilS, .int .i64 1]) := hid_ (by rw [hw5]; exact Blk.new w4 _ _)
      have BV5 := hid_ (BV4.out.fr f5 id)
      have VI5 := hid_ (VI4.out.keep f5)
      have F5 := hid_ (F4.out.then_none f5)
      change Code.wp _ _ _ _ (w4.alloc (.cells #[.string nilS, .int .i64 1] 60))
      rw [← hw5]
      clear hw5 f5
      have v0 : w5.cell? ⟨w2.heap.size, 0, none⟩ = some (.string V.low) := BV5.out.cell' rfl
      have v1 : w5.cell? ⟨w2.heap.size, 1, none⟩ = some (.string V.high) := BV5.out.cell' rfl
      have v2 : w5.cell? ⟨w2.heap.size, 2, none⟩ = some (.bool V.unb) := BV5.out.cell' rfl
      have v3 : w5.cell? ⟨w2.heap.size, 3, none⟩ = some (.int .i64 V.right) := BV5.out.cell' rfl
      have v4 : w5.cell? ⟨w2.heap.size, 4, none⟩ = some (.slice A V.ents.length c) := BV5.out.cell' rfl
      have v5 : w5.cell? ⟨w2.heap.size, 5, none⟩ = some (.bool V.held) := BV5.out.cell' rfl
      have v6 : w5.cell? ⟨w2.heap.size, 6, none⟩ = some (.int .i64 V.hp) := BV5.out.cell' rfl
      have v7 : w5.cell? ⟨w2.heap.size, 7, none⟩ = some (.int .i64 V.hl) := BV5.out.cell' rfl
      have v8 : w5.cell? ⟨w2.heap.size, 8, none⟩ = some (.string V.hk) := BV5.out.cell' rfl
      go_wp2_with fail
      refine (child_ok V A c sM _ VI5.out SZ.out).mono ?_
      rintro e w6 ⟨(⟨p, hp, rfl⟩ | ⟨hp, -⟩), hf6⟩
      · obtain rfl : p = (sM, 2) := by rw [HV.out, aw_childM] at hp; exact (Option.some.inj hp).symm
        have BV6 := hid_ (BV5.out.fr hf6 id)
        have BE6 := hid_ (BE.out.fr hf6 id)
        have VI6 := hid_ (VI5.out.keep hf6)
        have F6 := hid_ (F5.out.then_none hf6)
        clear hp hf6 v0 v1 v2 v3 v4 v5 v6 v7 v8
        go_upto_region 4 with fail
        obtain ⟨w7, hw7⟩ : ∃ w7, w7 = w6.alloc (.cells #[.string sM, .int .i64 2] 60) := ⟨_, rfl⟩
        have f7 : Fr none_ w6 w7 := by rw [hw7]; exact (Fr.refl none_ w6).alloc _
        have BG : Hid (Blk w7 w6.heap.size 60 #[.string sM, .int .i64 2]) := hid_ (by rw [hw7]; exact Blk.new w6 _ _)
        have BE7 := hid_ (BE6.out.fr f7 id)
        have BV7 := hid_ (BV6.out.fr f7 id)
        have VI7 := hid_ (VI6.out.keep f7)
        have F7 := hid_ (F6.out.then_none f7)
        change Code.wp _ _ _ _ (w6.alloc (.cells #[.string sM, .int .i64 2] 60))
        rw [← hw7]
        clear hw7 f7
        have e1 : w7.cell? ⟨w4.heap.size, 1, none⟩ = some (.int .i64 1) := BE7.out.cell' rfl
        have g1 : w7.cell? ⟨w6.heap.size, 1, none⟩ = some (.int .i64 2) := BG.out.cell' rfl
        have v0 : w7.cell? ⟨w2.heap.size, 0, none⟩ = some (.string V.low) := BV7.out.cell' rfl
        have v1 : w7.cell? ⟨w2.heap.size, 1, none⟩ = some (.string V.high) := BV7.out.cell' rfl
        have v2 : w7.cell? ⟨w2.heap.size, 2, none⟩ = some (.bool V.unb) := BV7.out.cell' rfl
        have v3 : w7.cell? ⟨w2.heap.size, 3, none⟩ = some (.int .i64 V.right) := BV7.out.cell' rfl
        have v4 : w7.cell? ⟨w2.heap.size, 4, none⟩ = some (.slice A V.ents.length c) := BV7.out.cell' rfl
        have v5 : w7.cell? ⟨w2.heap.size, 5, none⟩ = some (.bool V.held) := BV7.out.cell' rfl
        have v6 : w7.cell? ⟨w2.heap.size, 6, none⟩ = some (.int .i64 V.hp) := BV7.out.cell' rfl
        have v7 : w7.cell? ⟨w2.heap.size, 7, none⟩ = some (.int .i64 V.hl) := BV7.out.cell' rfl
        have v8 : w7.cell? ⟨w2.heap.size, 8, none⟩ = some (.string V.hk) := BV7.out.cell' rfl
        go_wp2_with fail
        refine (has_ok V A c sM _ VI7.out SZ.out).mono ?_
        rintro e w8 ⟨rfl, hf8⟩
        rw [show atB V.ents sM = true by rw [HV.out]; exact aw_has]
        have F8 := hid_ (F7.out.then_none hf8)
        clear hf8 e1 g1 v0 v1 v2 v3 v4 v5 v6 v7 v8
        go_wp2_with fail
        go_ret
        exact ⟨rfl, F8.out⟩
      · rw [HV.out, aw_childM] at hp
        cases hp
    · rw [HV.out, aw_childA] at hp
      cases hp
  · have hn : foldU [awR0, awR1] = none := hno (fun R hR => by
      simp only [List.mem_cons, List.not_mem_nil, or_false, List.map_cons, List.map_nil] at hR
      rcases hR with rfl | rfl <;> exact ⟨by decide, by decide⟩)
    rw [aw_fold] at hn
    cases hn
end Go.Proofs.YtfoljojacakkeaaDoor

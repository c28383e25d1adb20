/- Texts of one proof, merged: Rm10. -/
import Derived.Test.YtfihfjbakfadkaaDoorMcC
import Derived.Test.YtfihfjbakfadkaaDoorMcE
import Derived.Test.YtfihfjbakfadkaaDoorMcG
import Derived.Test.YtfihfjbakfadkaaDoorMcN
namespace Go.Proofs.YtfihfjbakfadkaaDoor
open Go.RowKit Go.BigFrame
set_option maxRecDepth 100000
set_option linter.unusedVariables false

/-- The document's memory, cell by cell. -/
abbrev dmA (l : Lm) (sn sl : Int) (sv : Value) (tn : Int) (tv : Value) (cn cl : Int) (cv : Value) (k : Int) : Array Value := #[.int .i64 (l.s : Int), .int .i64 (l.p : Int), .int .i64 l.t, .int .i64 l.r, .int .i64 l.c, .int .i64 l.n, .int .i64 sn, .int .i64 sl, sv, .int .i64 tn, tv, .int .i64 cn, .int .i64 cl, cv, .int .i64 k]
abbrev dmZ : Array Value := #[.int .i64 0, .int .i64 0, .int .i64 0, .int .i64 0, .int .i64 0, .int .i64 0, .int .i64 0, .int .i64 0, .slice none 0 0, .int .i64 0, .slice none 0 0, .int .i64 0, .int .i64 0, .slice none 0 0, .int .i64 0]
theorem dm_size : (Tryd.prog.info? 54).map (·.size) = some 15 := by kernel_rfl
theorem Blk.thereN {w : World} {g : Nat} {t : TypeId} {cs : Array Value} (h : Blk w g t cs) {o n : Nat} (hn : o + n ≤ cs.size) : w.there g o n := by
  intro j hj
  refine ⟨?_, h.frozen _⟩
  rw [h.cell, Array.getElem?_eq_getElem (by omega)]
  rfl
theorem Blk.rangeN {w : World} {g : Nat} {t : TypeId} {cs : Array Value} (h : Blk w g t cs) {o : Nat} {vs : List Value} (he : ∀ (j : Nat) (v : Value), vs[j]? = some v → cs[o + j]? = some v) : w.rangeAt g o vs := fun j v hv => by
  rw [h.cell]
  exact he j v hv
theorem Blk.putN {w w' : World} {g o : Nat} {t : TypeId} {cs cs' : Array Value} {vs : List Value} (h : Blk w g t cs) (hw : w' = w.setCells g o vs) (he : setA cs o vs = cs') : Blk w' g t cs' ∧ Fr (only g) w w' := by
  subst hw
  refine ⟨?_, Fr.setCells _ _ _ (Fr.refl _ _) (.inl rfl)⟩
  rw [← he]
  exact Blk.setCells vs o _ _ h
theorem no_slot {last : Int} {i : Nat} (h : NoSlot last [] i) (hl : 0 < last) : i = 0 := by
  rcases Nat.eq_zero_or_pos i with h0 | h0
  · exact h0
  · rcases h 1 (by omega) (by omega) with e | e
    · have e' : false = true := e
      cases e'
    · have e' : last ≤ 0 := e
      omega
/-- What the document's New leaves. -/
def DNew (l : Lm) (w : World) (e : Ending) (w' : World) : Prop :=
  ∃ (PA : Option Addr) (pc : Nat) (T : Option Addr) (tc : Nat) (C : Option Addr) (cn cc : Nat), e = .returned (.agg (dmA l l.s l.n (.slice PA 1 pc) l.p (.slice T 1 tc) 1 l.n (.slice C cn cc) 0)) ∧ RaIn w' [⟨1, 1, leafR, none, 0, none, 0, true⟩] PA pc ∧ ROwn w' (.slice T 1 tc) [(0, 1, 1)] ∧ (∀ ad, T = some ad → w.heap.size ≤ ad.block) ∧ Fr none_ w w'
/-- The first record stays where another block was turned. -/
theorem ra_far {w w' : World} {A : Option Addr} {c X : Nat} (h : RaIn w [⟨1, 1, leafR, none, 0, none, 0, true⟩] A c) (hn : ∀ ad, A = some ad → ad.block ≠ X) (hf : Fr (only X) w w') : RaIn w' [⟨1, 1, leafR, none, 0, none, 0, true⟩] A c :=
  ⟨h.rd.fr hf (fun ad e e2 => hn ad e e2), h.cap, h.capm, h.len, fun p hp => by
    obtain rfl : p = ⟨1, 1, leafR, none, 0, none, 0, true⟩ := by simpa using hp
    exact reads_leaf w', h.sz⟩
set_option maxHeartbeats 16000000 in
theorem rnew9_ok (l : Lm) (hl : l.Right) (w : World) : Calls Tryd.prog 11 #[.agg (lmA l)] w (DNew l w) := by
  obtain ⟨w0, hw0⟩ : ∃ z, z = (w.alloc (.cells (lmA l) 23)).alloc (.cells dmZ 54) := ⟨_, rfl⟩
  have f0 : Fr none_ w w0 := by rw [hw0]; exact ((Fr.refl none_ w).alloc _).alloc _
  have BL : Hid (Blk w0 w.heap.size 23 (lmA l)) := hid_ (by rw [hw0]; exact (Blk.new w _ _).alloc _)
  have BZ : Hid (Blk w0 (w.heap.size + 1) 54 dmZ) := hid_ (by rw [hw0]; exact Blk.new_at4 _ _ (by simp))
  have F0 := hid_ f0
  have HL := hid_ hl
  clear f0 hl
  go_enter Tryd.func11, Tryd.ntmps11
  go_upto_region 1 with fail
  change Code.wp _ _ _ _ ((w.alloc (.cells (lmA l) 23)).alloc (.cells dmZ 54))
  rw [← hw0]
  clear hw0
  obtain ⟨gL, hgL⟩ : ∃ g, g = w.heap.size := ⟨_, rfl⟩
  rw [← hgL] at BL BZ
  rw [← hgL]
  have HGL := hid_ hgL
  clear hgL
  have l0 : w0.cell? ⟨gL, 0, none⟩ = some (.int .i64 (l.s : Int)) := BL.out.cell' rfl
  have l1 : w0.cell? ⟨gL, 1, none⟩ = some (.int .i64 (l.p : Int)) := BL.out.cell' rfl
  have l2 : w0.cell? ⟨gL, 2, none⟩ = some (.int .i64 l.t) := BL.out.cell' rfl
  have l3 : w0.cell? ⟨gL, 3, none⟩ = some (.int .i64 l.r) := BL.out.cell' rfl
  have l4 : w0.cell? ⟨gL, 4, none⟩ = some (.int .i64 l.c) := BL.out.cell' rfl
  have l5 : w0.cell? ⟨gL, 5, none⟩ = some (.int .i64 l.n) := BL.out.cell' rfl
  go_upto_region 2 with (refine wpList_store_mid rfl 54 (.tmp 3) (.tmp 11) rfl w0.heap.size 0 (dmA l 0 0 (.slice none 0 0) 0 (.slice none 0 0) 0 0 (.slice none 0 0) 0) rfl rfl (new_there w0 _ dmZ) dm_size (by simp [Value.oneCell']) ?_; obtain ⟨w1, hw1⟩ : ∃ z, z = (w0.alloc (.cells dmZ 54)).setCells w0.heap.size 0 (dmA l 0 0 (.slice none 0 0) 0 (.slice none 0 0) 0 0 (.slice none 0 0) 0).toList := ⟨_, rfl⟩; change wpList _ _ _ _ _ ((w0.alloc (.cells dmZ 54)).setCells w0.heap.size 0 (dmA l 0 0 (.slice none 0 0) 0 (.slice none 0 0) 0 0 (.slice none 0 0) 0).toList); rw [← hw1]; have Q1 : Hid (Blk w1 w0.heap.size 54 (dmA l 0 0 (.slice none 0 0) 0 (.slice none 0 0) 0 0 (.slice none 0 0) 0) ∧ Fr none_ w0 w1) := hid_ (by rw [hw1]; exact new_copy w0 54 dmZ (dmA l 0 0 (.slice none 0 0) 0 (.slice none 0 0) 0 0 (.slice none 0 0) 0).toList rfl); clear hw1)
  obtain ⟨gM, hgM⟩ : ∃ g, g = w0.heap.size := ⟨_, rfl⟩
  have BM := hid_ Q1.out.1
  rw [← hgM] at BM
  rw [← hgM]
  have HM0 : Hid (w.heap.size ≤ gM ∧ gM ≠ gL ∧ gL + 1 ≠ gM) := hid_ (by have h1 := BL.out.lt; have h2 := BZ.out.lt; have h3 := F0.out.size; omega)
  clear hgM
  replace BL := hid_ (BL.out.fr Q1.out.2 id)
  replace BZ := hid_ (BZ.out.fr Q1.out.2 id)
  replace F0 := hid_ (F0.out.then_none Q1.out.2)
  clear Q1 l0 l1 l2 l3 l4 l5
  have hs1 := HL.out.s
  have hp1 := HL.out.p
  have ht1 := HL.out.t
  have hn1 := HL.out.n
  have hok : newOk (l.s : Int) l.n = true := by unfold newOk; simp; omega
  have HOK := hid_ hok
  clear hok
  have l0 : w1.cell? ⟨gL, 0, none⟩ = some (.int .i64 (l.s : Int)) := BL.out.cell' rfl
  have l5 : w1.cell? ⟨gL, 5, none⟩ = some (.int .i64 l.n) := BL.out.cell' rfl
  go_wp2_with fail
  refine (ranew_ok (l.s : Int) l.n w1).mono ?_
  rintro e w2 ⟨rfl, hf2⟩
  rw [HOK.out, newV, if_pos HOK.out]
  replace BL := hid_ (BL.out.fr hf2 id)
  replace BZ := hid_ (BZ.out.fr hf2 id)
  replace BM := hid_ (BM.out.fr hf2 id)
  replace F0 := hid_ (F0.out.then_none hf2)
  clear hf2 l0 l5
  go_upto_region 3 with (refine wpList_store_mid rfl 46 (.tmp 20) (.tmp 18) rfl gM 6 #[.int .i64 (l.s : Int), .int .i64 l.n, .slice none 0 0] rfl rfl (BM.out.thereN (Nat.le_of_ble_eq_true rfl)) (by kernel_rfl) (by simp [Value.oneCell']) ?_; obtain ⟨w3, hw_⟩ : ∃ z, z = w2.setCells gM 6 [.int .i64 (l.s : Int), .int .i64 l.n, .slice none 0 0] := ⟨_, rfl⟩; change wpList _ _ _ _ _ (w2.setCells gM 6 [.int .i64 (l.s : Int), .int .i64 l.n, .slice none 0 0]); rw [← hw_]; have S_w3 := hid_ (BM.out.putN (cs' := (dmA l l.s l.n (.slice none 0 0) 0 (.slice none 0 0) 0 0 (.slice none 0 0) 0)) hw_ (by simp only [setA, List.setIfInBounds_toArray, List.set_cons_zero, List.set_cons_succ])); clear hw_)
  replace BL := hid_ (BL.out.fr S_w3.out.2 (only_ne (Ne.symm HM0.out.2.1)))
  replace BZ := hid_ (BZ.out.fr S_w3.out.2 (only_ne HM0.out.2.2))
  replace BM := hid_ S_w3.out.1
  replace F0 := hid_ (F0.out.then_only S_w3.out.2 (.inr HM0.out.1))
  clear S_w3
  have l1 : w3.cell? ⟨gL, 1, none⟩ = some (.int .i64 (l.p : Int)) := BL.out.cell' rfl
  go_wp2_with fail
  refine (rtnew (l.p : Int) w3).mono ?_
  rintro e w4 ⟨rfl, hf4⟩
  replace BL := hid_ (BL.out.fr hf4 id)
  replace BZ := hid_ (BZ.out.fr hf4 id)
  replace BM := hid_ (BM.out.fr hf4 id)
  replace F0 := hid_ (F0.out.then_none hf4)
  clear hf4 l1
  go_upto_region 4 with (refine wpList_store_mid rfl 49 (.tmp 27) (.tmp 25) rfl gM 9 #[.int .i64 (l.p : Int), .slice none 0 0] rfl rfl (BM.out.thereN (Nat.le_of_ble_eq_true rfl)) (by kernel_rfl) (by simp [Value.oneCell']) ?_; obtain ⟨w5, hw_⟩ : ∃ z, z = w4.setCells gM 9 [.int .i64 (l.p : Int), .slice none 0 0] := ⟨_, rfl⟩; change wpList _ _ _ _ _ (w4.setCells gM 9 [.int .i64 (l.p : Int), .slice none 0 0]); rw [← hw_]; have S_w5 := hid_ (BM.out.putN (cs' := (dmA l l.s l.n (.slice none 0 0) l.p (.slice none 0 0) 0 0 (.slice none 0 0) 0)) hw_ (by simp only [setA, List.setIfInBounds_toArray, List.set_cons_zero, List.set_cons_succ])); clear hw_)
  replace BL := hid_ (BL.out.fr S_w5.out.2 (only_ne (Ne.symm HM0.out.2.1)))
  replace BZ := hid_ (BZ.out.fr S_w5.out.2 (only_ne HM0.out.2.2))
  replace BM := hid_ S_w5.out.1
  replace F0 := hid_ (F0.out.then_only S_w5.out.2 (.inr HM0.out.1))
  clear S_w5
  obtain ⟨tn, htn⟩ : ∃ tn : Nat, l.t = (tn : Int) := ⟨l.t.toNat, by omega⟩
  have l2 : w5.cell? ⟨gL, 2, none⟩ = some (.int .i64 l.t) := BL.out.cell' rfl
  have l5 : w5.cell? ⟨gL, 5, none⟩ = some (.int .i64 l.n) := BL.out.cell' rfl
  rw [htn] at l2
  go_wp2_with fail
  refine (rknew_ok tn l.n w5 (by omega) (by omega) (by omega) (by omega)).mono ?_
  rintro e w6 ⟨C, cc, rfl, -, hf6⟩
  rw [List.length_replicate]
  replace BL := hid_ (BL.out.fr hf6 id)
  replace BZ := hid_ (BZ.out.fr hf6 id)
  replace BM := hid_ (BM.out.fr hf6 id)
  replace F0 := hid_ (F0.out.then_none hf6)
  clear hf6 l2 l5
  go_upto_region 5 with (refine wpList_store_mid rfl 52 (.tmp 36) (.tmp 34) rfl gM 11 #[.int .i64 1, .int .i64 l.n, .slice C tn cc] rfl rfl (BM.out.thereN (Nat.le_of_ble_eq_true rfl)) (by kernel_rfl) (by simp [Value.oneCell']) ?_; obtain ⟨w7, hw_⟩ : ∃ z, z = w6.setCells gM 11 [.int .i64 1, .int .i64 l.n, .slice C tn cc] := ⟨_, rfl⟩; change wpList _ _ _ _ _ (w6.setCells gM 11 [.int .i64 1, .int .i64 l.n, .slice C tn cc]); rw [← hw_]; have S_w7 := hid_ (BM.out.putN (cs' := (dmA l l.s l.n (.slice none 0 0) l.p (.slice none 0 0) 1 l.n (.slice C tn cc) 0)) hw_ (by simp only [setA, List.setIfInBounds_toArray, List.set_cons_zero, List.set_cons_succ])); clear hw_)
  replace BL := hid_ (BL.out.fr S_w7.out.2 (only_ne (Ne.symm HM0.out.2.1)))
  replace BZ := hid_ (BZ.out.fr S_w7.out.2 (only_ne HM0.out.2.2))
  replace BM := hid_ S_w7.out.1
  replace F0 := hid_ (F0.out.then_only S_w7.out.2 (.inr HM0.out.1))
  clear S_w7
  have z6 : w7.cell? ⟨gM, 6, none⟩ = some (.int .i64 (l.s : Int)) := BM.out.cell' rfl
  have z7 : w7.cell? ⟨gM, 7, none⟩ = some (.int .i64 l.n) := BM.out.cell' rfl
  have z8 : w7.cell? ⟨gM, 8, none⟩ = some (.slice none 0 0) := BM.out.cell' rfl
  go_wp2_with fail
  refine (ralloc_ok (l.s : Int) l.n [] none 0 leafR none 0 none 0 w7 (by omega) (by omega) (by omega) (fun n => Int.le_refl _) (by simp) (RaIn.nil w7) (reads_leaf w7) ⟨by simp, by simp⟩).mono ?_
  intro e w8 hal
  obtain ⟨PA, pc, rfl, hra, hpa, hf8⟩ : ∃ (PA : Option Addr) (pc : Nat), e = .returned (.tuple #[raV (l.s : Int) l.n [⟨1, 1, leafR, none, 0, none, 0, true⟩] PA pc, .agg #[.int .i64 1, .int .i64 1], .int .i64 0]) ∧ RaIn w8 [⟨1, 1, leafR, none, 0, none, 0, true⟩] PA pc ∧ (∀ ad, PA = some ad → w7.heap.size ≤ ad.block) ∧ Fr none_ w7 w8 := by
    rcases hal with ⟨i, A2, c2, h1, h2, h3, h4, rfl, h6, h8, h7⟩ | ⟨h1, _⟩
    · obtain rfl := no_slot h2 (by have := HL.out.n; omega)
      exact ⟨A2, c2, rfl, h6, h8, h7⟩
    · have := no_slot h1 (by have := HL.out.n; omega)
      have := HL.out.s
      omega
  have RA := hid_ hra
  have HPA : Hid (∀ ad, PA = some ad → ad.block ≠ gM ∧ ad.block ≠ gL + 1) := hid_ (fun ad e => by have h1 := hpa ad e; have h2 := BM.out.lt; have h3 := BZ.out.lt; omega)
  clear hpa
  replace BL := hid_ (BL.out.fr hf8 id)
  replace BZ := hid_ (BZ.out.fr hf8 id)
  replace BM := hid_ (BM.out.fr hf8 id)
  replace F0 := hid_ (F0.out.then_none hf8)
  clear hal hra hf8 z6 z7 z8
  go_upto_region 6 with fail
  obtain ⟨w9, hw9⟩ : ∃ z, z = (w8.alloc (.cells (raA (l.s : Int) l.n [⟨1, 1, leafR, none, 0, none, 0, true⟩] PA pc) 46)).alloc (.cells #[.int .i64 1, .int .i64 1] 25) := ⟨_, rfl⟩
  have K9 : Hid (Blk w9 w8.heap.size 46 (raA (l.s : Int) l.n [⟨1, 1, leafR, none, 0, none, 0, true⟩] PA pc) ∧ Blk w9 (w8.heap.size + 1) 25 #[.int .i64 1, .int .i64 1] ∧ Fr none_ w8 w9) := hid_ (by rw [hw9]; exact ⟨(Blk.new w8 _ _).alloc _, Blk.new_at4 _ _ (by simp), ((Fr.refl none_ w8).alloc _).alloc _⟩)
  change Code.wp _ _ _ _ ((w8.alloc (.cells (raA (l.s : Int) l.n [⟨1, 1, leafR, none, 0, none, 0, true⟩] PA pc) 46)).alloc (.cells #[.int .i64 1, .int .i64 1] 25))
  rw [← hw9]
  clear hw9
  have BX := hid_ K9.out.2.1
  have BA := hid_ K9.out.1
  obtain ⟨gA, hgA⟩ : ∃ g, g = w8.heap.size := ⟨_, rfl⟩
  rw [← hgA] at BA BX
  rw [← hgA]
  have HGA : Hid (gA ≠ gM ∧ gA + 1 ≠ gM) := hid_ (by have := BM.out.lt; omega)
  clear hgA
  replace BL := hid_ (BL.out.fr K9.out.2.2 id)
  replace BZ := hid_ (BZ.out.fr K9.out.2.2 id)
  replace BM := hid_ (BM.out.fr K9.out.2.2 id)
  replace F0 := hid_ (F0.out.then_none K9.out.2.2)
  replace RA := hid_ (RA.out.keep K9.out.2.2)
  clear K9
  have z6 : w9.cell? ⟨gA, 0, none⟩ = some (.int .i64 (l.s : Int)) := BA.out.cell' rfl
  have z7 : w9.cell? ⟨gA, 1, none⟩ = some (.int .i64 l.n) := BA.out.cell' rfl
  have z8 : w9.cell? ⟨gA, 2, none⟩ = some (.slice PA 1 pc) := BA.out.cell' rfl
  go_upto_region 7 with (refine wpList_store_mid rfl 46 (.tmp 46) (.tmp 45) rfl gM 6 #[.int .i64 (l.s : Int), .int .i64 l.n, .slice PA 1 pc] rfl rfl (BM.out.thereN (Nat.le_of_ble_eq_true rfl)) (by kernel_rfl) (by simp [Value.oneCell']) ?_; obtain ⟨w10, hw_⟩ : ∃ z, z = w9.setCells gM 6 [.int .i64 (l.s : Int), .int .i64 l.n, .slice PA 1 pc] := ⟨_, rfl⟩; change wpList _ _ _ _ _ (w9.setCells gM 6 [.int .i64 (l.s : Int), .int .i64 l.n, .slice PA 1 pc]); rw [← hw_]; have S_w10 := hid_ (BM.out.putN (cs' := (dmA l l.s l.n (.slice PA 1 pc) l.p (.slice none 0 0) 1 l.n (.slice C tn cc) 0)) hw_ (by simp only [setA, List.setIfInBounds_toArray, List.set_cons_zero, List.set_cons_succ])); clear hw_)
  have RA' : Hid (RaIn w10 [⟨1, 1, leafR, none, 0, none, 0, true⟩] PA pc) := hid_ (ra_far RA.out (fun ad e => (HPA.out ad e).1) S_w10.out.2)
  replace BX := hid_ (BX.out.fr S_w10.out.2 (only_ne HGA.out.2))
  replace BL := hid_ (BL.out.fr S_w10.out.2 (only_ne (Ne.symm HM0.out.2.1)))
  replace BZ := hid_ (BZ.out.fr S_w10.out.2 (only_ne HM0.out.2.2))
  replace BM := hid_ S_w10.out.1
  replace F0 := hid_ (F0.out.then_only S_w10.out.2 (.inr HM0.out.1))
  clear S_w10
  clear z6 z7 z8 RA BA
  have z9 : w10.cell? ⟨gM, 9, none⟩ = some (.int .i64 (l.p : Int)) := BM.out.cell' rfl
  have z10 : w10.cell? ⟨gM, 10, none⟩ = some (.slice none 0 0) := BM.out.cell' rfl
  go_wp2_with fail
  refine (rtake_ok l.p 0 none 0 [] w10 (World.ownsRow_nil _ _ _ _) (by simp) (by omega) (by omega) (findL_no [] 0 (fun p hp => by cases hp)) (fun j hj => by omega)).mono ?_
  rintro e w11 ⟨T1, c1, rfl, ho11, hf11⟩
  have O11 := hid_ ho11
  replace BL := hid_ (BL.out.fr hf11 id)
  replace BZ := hid_ (BZ.out.fr hf11 id)
  replace BM := hid_ (BM.out.fr hf11 id)
  replace F0 := hid_ (F0.out.then_none hf11)
  replace RA' := hid_ (RA'.out.keep hf11)
  replace BX := hid_ (BX.out.fr hf11 id)
  clear ho11 hf11 z9 z10
  go_upto_region 8 with fail
  obtain ⟨w12, hw12⟩ : ∃ z, z = w11.alloc (.cells #[.int .i64 (l.p : Int), .slice T1 1 c1] 49) := ⟨_, rfl⟩
  have K12 : Hid (Blk w12 w11.heap.size 49 #[.int .i64 (l.p : Int), .slice T1 1 c1] ∧ Fr none_ w11 w12) := hid_ (by rw [hw12]; exact ⟨Blk.new w11 _ _, (Fr.refl none_ w11).alloc _⟩)
  change Code.wp _ _ _ _ (w11.alloc (.cells #[.int .i64 (l.p : Int), .slice T1 1 c1] 49))
  rw [← hw12]
  clear hw12
  have BT := hid_ K12.out.1
  obtain ⟨gT, hgT⟩ : ∃ g, g = w11.heap.size := ⟨_, rfl⟩
  rw [← hgT] at BT
  rw [← hgT]
  have HPT : Hid (∀ ad, PA = some ad → ad.block ≠ gT) := hid_ (fun ad e => by
    obtain ⟨b, off, e1, hb, _⟩ := RA'.out.at_ (k := 0) rfl
    rw [e1] at e
    cases e
    rw [hgT]
    exact Nat.ne_of_lt hb)
  have HGT : Hid (gT ≠ gM ∧ w.heap.size ≤ gT) := hid_ (by have := BM.out.lt; have := F0.out.size; omega)
  clear hgT
  replace BL := hid_ (BL.out.fr K12.out.2 id)
  replace BZ := hid_ (BZ.out.fr K12.out.2 id)
  replace BM := hid_ (BM.out.fr K12.out.2 id)
  replace F0 := hid_ (F0.out.then_none K12.out.2)
  replace RA' := hid_ (RA'.out.keep K12.out.2)
  replace BX := hid_ (BX.out.fr K12.out.2 id)
  replace O11 := hid_ (own_none O11.out K12.out.2)
  clear K12
  have t0 : w12.cell? ⟨gT, 0, none⟩ = some (.int .i64 (l.p : Int)) := BT.out.cell' rfl
  have t1 : w12.cell? ⟨gT, 1, none⟩ = some (.slice T1 1 c1) := BT.out.cell' rfl
  have x0 : w12.cell? ⟨gA + 1, 0, none⟩ = some (.int .i64 1) := BX.out.cell' rfl
  have x1 : w12.cell? ⟨gA + 1, 1, none⟩ = some (.int .i64 1) := BX.out.cell' rfl
  go_wp2_with fail
  refine (rswap_yes (l.p : Int) 0 T1 c1 [(0, 0, 0)] 0 0 1 1 w12 O11.out (by simp) (by omega) (by omega) 0 0 rfl rfl).mono ?_
  rintro e w13 ⟨T2, c2, rfl, ho13, hf13, ht2⟩
  have HT2 : Hid (∀ ad, T2 = some ad → w.heap.size ≤ ad.block) := hid_ (fun ad e => by have := ht2 ad e; have := F0.out.size; omega)
  clear ht2
  have O13 : Hid (ROwn w13 (.slice T2 1 c2) [(0, 1, 1)]) := hid_ ho13
  replace BT := hid_ (BT.out.fr hf13 id)
  replace BL := hid_ (BL.out.fr hf13 id)
  replace BZ := hid_ (BZ.out.fr hf13 id)
  replace BM := hid_ (BM.out.fr hf13 id)
  replace F0 := hid_ (F0.out.then_none hf13)
  replace RA' := hid_ (RA'.out.keep hf13)
  clear ho13 hf13 t0 t1 x0 x1 O11 BX
  have t0 : w13.cell? ⟨gT, 0, none⟩ = some (.int .i64 (l.p : Int)) := BT.out.cell' rfl
  have t1 : w13.cell? ⟨gT, 1, none⟩ = some (.slice T1 1 c1) := BT.out.cell' rfl
  have y0 := BT.out.frozen 0
  have y1 := BT.out.frozen 1
  go_upto_region 9 with fail
  obtain ⟨w14, hw14⟩ : ∃ z, z = (w13.setCell ⟨gT, 0, none⟩ (.int .i64 (l.p : Int))).setCell ⟨gT, 1, none⟩ (.slice T2 1 c2) := ⟨_, rfl⟩
  have S_w14 : Hid (Blk w14 gT 49 #[.int .i64 (l.p : Int), .slice T2 1 c2] ∧ Fr (only gT) w13 w14) := hid_ (by rw [hw14]; exact box2 BT.out _ _)
  change Code.wp _ _ _ _ ((w13.setCell ⟨gT, 0, none⟩ (.int .i64 (l.p : Int))).setCell ⟨gT, 1, none⟩ (.slice T2 1 c2))
  rw [← hw14]
  clear hw14 t0 t1 y0 y1
  replace RA' := hid_ (ra_far RA'.out HPT.out S_w14.out.2)
  replace O13 := hid_ (own_fr O13.out S_w14.out.2 (fun k hk e => own_blk_ne O13.out BT.out (by decide) (by rw [hk, show k = gT from e])))
  replace BL := hid_ (BL.out.fr S_w14.out.2 (only_ne (Blk.ne_ BL.out BT.out (by decide))))
  replace BZ := hid_ (BZ.out.fr S_w14.out.2 (only_ne (Blk.ne_ BZ.out BT.out (by decide))))
  replace BM := hid_ (BM.out.fr S_w14.out.2 (only_ne (Ne.symm HGT.out.1)))
  replace F0 := hid_ (F0.out.then_only S_w14.out.2 (.inr HGT.out.2))
  replace BT := hid_ S_w14.out.1
  clear S_w14
  have t0 : w14.cell? ⟨gT, 0, none⟩ = some (.int .i64 (l.p : Int)) := BT.out.cell' rfl
  have t1 : w14.cell? ⟨gT, 1, none⟩ = some (.slice T2 1 c2) := BT.out.cell' rfl
  go_upto_region 10 with (refine wpList_store_mid rfl 49 (.tmp 63) (.tmp 62) rfl gM 9 #[.int .i64 (l.p : Int), .slice T2 1 c2] rfl rfl (BM.out.thereN (Nat.le_of_ble_eq_true rfl)) (by kernel_rfl) (by simp [Value.oneCell']) ?_; obtain ⟨w15, hw_⟩ : ∃ z, z = w14.setCells gM 9 [.int .i64 (l.p : Int), .slice T2 1 c2] := ⟨_, rfl⟩; change wpList _ _ _ _ _ (w14.setCells gM 9 [.int .i64 (l.p : Int), .slice T2 1 c2]); rw [← hw_]; have S_w15 := hid_ (BM.out.putN (cs' := (dmA l l.s l.n (.slice PA 1 pc) l.p (.slice T2 1 c2) 1 l.n (.slice C tn cc) 0)) hw_ (by simp only [setA, List.setIfInBounds_toArray, List.set_cons_zero, List.set_cons_succ])); clear hw_)
  replace RA' := hid_ (ra_far RA'.out (fun ad e => (HPA.out ad e).1) S_w15.out.2)
  replace O13 := hid_ (own_fr O13.out S_w15.out.2 (fun k hk e => own_blk_ne O13.out BM.out (by decide) (by rw [hk, show k = gM from e])))
  replace BL := hid_ (BL.out.fr S_w15.out.2 (only_ne (Ne.symm HM0.out.2.1)))
  replace BZ := hid_ (BZ.out.fr S_w15.out.2 (only_ne HM0.out.2.2))
  replace BM := hid_ S_w15.out.1
  replace F0 := hid_ (F0.out.then_only S_w15.out.2 (.inr HM0.out.1))
  clear S_w15
  clear t0 t1 BT
  go_wp2_with (first | (refine wpList_load_mid rfl 54 (.tmp 3) rfl gM 0 rfl (dmA l l.s l.n (.slice PA 1 pc) l.p (.slice T2 1 c2) 1 l.n (.slice C tn cc) 0).toList _ (BM.out.rangeN (fun j v hv => by rw [Nat.zero_add]; simpa using hv)) Tryd.underlying54 rfl dm_size ?_) | (refine wpList_store_mid rfl 54 (.tmp 2) (.tmp 64) rfl (gL + 1) 0 (dmA l l.s l.n (.slice PA 1 pc) l.p (.slice T2 1 c2) 1 l.n (.slice C tn cc) 0) rfl rfl (BZ.out.thereN (Nat.le_of_ble_eq_true rfl)) dm_size (by simp [Value.oneCell']) ?_; have ov := BZ.out.over4 (dmA l l.s l.n (.slice PA 1 pc) l.p (.slice T2 1 c2) 1 l.n (.slice C tn cc) 0).toList rfl; obtain ⟨w16, hw16⟩ : ∃ z, z = w15.setCells (gL + 1) 0 (dmA l l.s l.n (.slice PA 1 pc) l.p (.slice T2 1 c2) 1 l.n (.slice C tn cc) 0).toList := ⟨_, rfl⟩; rw [← hw16] at ov; change wpList _ _ _ _ _ (w15.setCells (gL + 1) 0 (dmA l l.s l.n (.slice PA 1 pc) l.p (.slice T2 1 c2) 1 l.n (.slice C tn cc) 0).toList); rw [← hw16]; have OV := hid_ ov; clear hw16 ov))
  refine bodyPost_ret (results_cell7 _ _ rfl (gL + 1) 0 (dmA l l.s l.n (.slice PA 1 pc) l.p (.slice T2 1 c2) 1 l.n (.slice C tn cc) 0).toList _ rfl (Blk.range7 (l := (dmA l l.s l.n (.slice PA 1 pc) l.p (.slice T2 1 c2) 1 l.n (.slice C tn cc) 0).toList) OV.out.1) Tryd.underlying54 rfl dm_size) rfl ⟨PA, pc, T2, c2, C, tn, cc, rfl, ra_far RA'.out (fun ad e => (HPA.out ad e).2) OV.out.2, own_fr O13.out OV.out.2 (fun k hk e => own_blk_ne O13.out BZ.out (by decide) (by rw [hk, show k = gL + 1 from e])), HT2.out, F0.out.then_only OV.out.2 (.inr (by have := HGL.out; omega))⟩
end Go.Proofs.YtfihfjbakfadkaaDoor

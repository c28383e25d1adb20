/- An installer's small steps: is it over, undo, put. -/
import Derived.Test.YthcpccddcgbanaaIns
namespace Go.Proofs.Ythcpccddcgbanaa
open Go.RowKit
set_option maxRecDepth 100000
set_option linter.unusedVariables false

theorem Inst.reb {w w' : World} {B i : Nat} {D D' : Dt} {a a' : Ia} (h : Inst w B i D a) (hf : Fr (only i) w w') (hb : Blk w' i 92 (inA D' a')) (hp : D'.pages = D.pages ∧ D'.bases = D.bases ∧ D'.refs = D.refs ∧ D'.head = D.head) (ha : a'.pv = a.pv ∧ a'.bv = a.bv ∧ a'.rv = a.rv ∧ a'.Cs = a.Cs ∧ a'.hvr = a.hvr ∧ a'.hve = a.hve) (he : Er w' a'.ev D'.err) : Inst w' B i D' a' := by
  obtain ⟨p1, p2, p3, p4⟩ := hp
  obtain ⟨a1, a2, a3, a4, a5, a6⟩ := ha
  have hrec : ∀ R vr ve, RecOwn w 0 R vr ve → RecOwn w' 0 R vr ve := fun R vr ve hR => hR.only hf h.b (by decide) (by decide)
  refine ⟨hb, ?_, ?_, ?_, ?_, ?_, ?_, he, h.le, ?_, ?_, ?_⟩
  · rw [p1, a1]; exact own_fr h.p hf (fun k hk e => own_blk_ne h.p h.b (by decide) (by rw [hk, show k = i from e]))
  · rw [a2, a4]; exact own_fr h.bs hf (fun k hk e => own_blk_ne h.bs h.b (by decide) (by rw [hk, show k = i from e]))
  · rw [a4, p2]; exact h.cs
  · rw [a4]; exact fun C hC => hrec _ _ _ (h.bo C hC)
  · rw [a3, p3]; exact own_fr h.r hf (fun k hk e => own_blk_ne h.r h.b (by decide) (by rw [hk, show k = i from e]))
  · rw [p4, a5, a6]; exact hrec _ _ _ h.h
  · rw [p2]; exact h.zb
  · rw [p4]; exact h.zh
  · rw [p1, p2, p3]; exact h.zp
theorem Inst.shapes {w : World} {B i : Nat} {D : Dt} {a : Ia} (h : Inst w B i D a) : ∃ A c A' c' A'' c'', a.pv = .slice A D.pages.length c ∧ a.rv = .slice A' D.refs.length c' ∧ a.bv = .slice A'' D.bases.length c'' := by
  obtain ⟨A, c, h1⟩ := h.p.shape
  obtain ⟨A', c', h2⟩ := h.r.shape
  obtain ⟨A'', c'', h3⟩ := h.bs.shape
  refine ⟨A, c, A', c', A'', c'', h1, h2, ?_⟩
  have hl := congrArg List.length h.cs
  rw [List.length_map] at hl
  rw [h3, hl]
theorem Blk.there_at {w : World} {g o n : Nat} {t : TypeId} {cs : Array Value} (h : Blk w g t cs) (hn : o + n ≤ cs.size) : w.there g o n := by
  intro j hj
  refine ⟨?_, h.frozen _⟩
  rw [h.cell, Array.getElem?_eq_getElem (by omega)]
  rfl
theorem setA_head (D : Dt) (a : Ia) (hd : Rc) (vr ve : Value) : setA (inA D a) 8 (recA hd vr ve).toList = inA { D with head := hd } { a with hvr := vr, hve := ve } := by
  simp only [setA, List.setIfInBounds_toArray, List.set_cons_zero, List.set_cons_succ]
/-- The head's record, and numbers, are new. -/
theorem Inst.rehead {w w' : World} {B i : Nat} {D : Dt} {a : Ia} (h : Inst w B i D a) (hf : Fr (only i) w w') {hd : Rc} {vr ve : Value} {s t : Int} (hb : Blk w' i 92 (inA { D with head := hd, stage := s, at_ := t } { a with hvr := vr, hve := ve })) (hr : RecOwn w 0 hd vr ve) (hz : RowsOk hd) : Inst w' B i { D with head := hd, stage := s, at_ := t } { a with hvr := vr, hve := ve } := by
  have hrec : ∀ R vr ve, RecOwn w 0 R vr ve → RecOwn w' 0 R vr ve := fun R vr ve hR => hR.only hf h.b (by decide) (by decide)
  exact ⟨hb, own_fr h.p hf (fun k hk e => own_blk_ne h.p h.b (by decide) (by rw [hk, show k = i from e])), own_fr h.bs hf (fun k hk e => own_blk_ne h.bs h.b (by decide) (by rw [hk, show k = i from e])), h.cs, fun C hC => hrec _ _ _ (h.bo C hC), own_fr h.r hf (fun k hk e => own_blk_ne h.r h.b (by decide) (by rw [hk, show k = i from e])), hrec _ _ _ hr, h.e.only hf h.b (by decide), h.le, h.zb, hz, h.zp⟩
theorem over_ok {w : World} {B i : Nat} {D : Dt} {a : Ia} (h : Inst w B i D a) : Calls Try.prog 23 #[.pointer (some ⟨i, 0, none⟩)] w fun e w' => e = .returned (.bool (D.stage == 7)) ∧ w = w' := by
  have c5 : w.cell? ⟨i, 5, none⟩ = some (.int .i64 D.stage) := h.b.cell' rfl
  clear h
  go_enter Try.func23, Try.ntmps23
  go_wp2
  go_ret
  exact ⟨rfl, rfl⟩
theorem over_nil (w : World) : Calls Try.prog 23 #[.pointer none] w fun e w' => e = .returned (.bool true) ∧ w = w' := by
  go_enter Try.func23, Try.ntmps23
  go_wp2
  go_ret
  exact ⟨rfl, rfl⟩
def undoD (D : Dt) (c : Int) : Dt := { D with err := c, stage := if D.refs.length = 0 then (if D.pages.length = 0 then 7 else 6) else 5 }
set_option maxHeartbeats 2000000 in
theorem undo_n {w : World} {B i : Nat} {D : Dt} {a : Ia} (c : Int) (h : Inst w B i D a) (hv : Er w .nilIface c) : Calls Try.prog 57 #[.pointer (some ⟨i, 0, none⟩), .nilIface] w fun e w' => e = .returned (.bool ((undoD D c).stage == 7)) ∧ Inst w' B i (undoD D c) { a with ev := .nilIface } ∧ Fr (only i) w w' := by
  obtain ⟨A, c1, A', c2, A'', c3, e1, e2, e3⟩ := h.shapes
  have H := hid_ h
  have HV := hid_ hv
  have i5 : w.cell? ⟨i, 5, none⟩ = some (.int .i64 D.stage) := h.b.cell' rfl
  have i6 : w.cell? ⟨i, 6, none⟩ = some (.slice A D.pages.length c1) := by rw [← e1]; exact h.b.cell' rfl
  have i23 : w.cell? ⟨i, 23, none⟩ = some (.slice A' D.refs.length c2) := by rw [← e2]; exact h.b.cell' rfl
  have i26 : w.cell? ⟨i, 26, none⟩ = some a.ev := h.b.cell' rfl
  have y5 := h.b.frozen 5
  have y26 := h.b.frozen 26
  have B5 := h.b.set_ 26 .nilIface
  have E1 := hid_ e1
  have E2 := hid_ e2
  clear h hv e1 e2 e3
  have fr0 : Fr (only i) w (w.setCell ⟨i, 26, none⟩ .nilIface) := Fr.only1 w ⟨i, 26, none⟩ .nilIface
  have done : ∀ (s : Int) (w' : World), Fr (only i) w w' → Blk w' i 92 (inA { D with err := c, stage := s } { a with ev := .nilIface }) → undoD D c = { D with err := c, stage := s } → (Inst w' B i (undoD D c) { a with ev := .nilIface } ∧ Fr (only i) w w') := fun s w' hf hb e =>
    ⟨by rw [e]; exact H.out.reb hf hb ⟨rfl, rfl, rfl, rfl⟩ ⟨rfl, rfl, rfl, rfl, rfl, rfl⟩ (HV.out.only hf H.out.b (by decide)), hf⟩
  have DN := hid_ done
  have HB := hid_ B5
  have HF := hid_ fr0
  clear done B5 fr0
  by_cases hr : D.refs.length = 0
  · have z1 : ((D.refs.length : Int) == 0) = true := by simp [hr]
    by_cases hp : D.pages.length = 0
    · have z2 : ((D.pages.length : Int) == 0) = true := by simp [hp]
      have hu : undoD D c = { D with err := c, stage := 7 } := by simp [undoD, hr, hp]
      have HU := hid_ hu
      clear hr hp hu
      go_enter Try.func57, Try.ntmps57
      go_upto_region 4 with fail
      obtain ⟨w1, hw1⟩ : ∃ z, z = ((w.setCell ⟨i, 26, none⟩ .nilIface).setCell ⟨i, 5, none⟩ (.int .i64 5)).setCell ⟨i, 5, none⟩ (.int .i64 6) := ⟨_, rfl⟩
      have B1 := hid_ ((HB.out.set_ 5 (.int .i64 5)).set_ 5 (.int .i64 6))
      have F1 : Hid (Fr (only i) w w1) := hid_ (by rw [hw1]; exact (HF.out.trans (Fr.only1 _ ⟨i, 5, none⟩ (.int .i64 5)) (fun _ _ => id) (fun _ _ => id)).trans (Fr.only1 _ ⟨i, 5, none⟩ (.int .i64 6)) (fun _ _ => id) (fun _ _ => id))
      rw [← hw1] at B1
      change Code.wp _ _ _ _ (((w.setCell ⟨i, 26, none⟩ .nilIface).setCell ⟨i, 5, none⟩ (.int .i64 5)).setCell ⟨i, 5, none⟩ (.int .i64 6))
      rw [← hw1]
      clear hw1 i5 i6 i23 i26 y5 y26
      have i5 : w1.cell? ⟨i, 5, none⟩ = some (.int .i64 6) := B1.out.cell' rfl
      have i6 : w1.cell? ⟨i, 6, none⟩ = some (.slice A D.pages.length c1) := B1.out.cell' (by rw [← E1.out]; rfl)
      have i23 : w1.cell? ⟨i, 23, none⟩ = some (.slice A' D.refs.length c2) := B1.out.cell' (by rw [← E2.out]; rfl)
      have y5 := B1.out.frozen 5
      go_wp2_with fail
      have HI := hid_ (DN.out 7 _ (F1.out.trans (Fr.only1 _ ⟨i, 5, none⟩ (.int .i64 7)) (fun _ _ => id) (fun _ _ => id)) (B1.out.set_ 5 (.int .i64 7)) HU.out)
      refine (over_ok HI.out.1).mono ?_
      rintro e w1 ⟨rfl, rfl⟩
      go_wp2_with fail
      go_ret
      exact ⟨rfl, HI.out.1, HI.out.2⟩
    · have z2 : ((D.pages.length : Int) == 0) = false := by simp [hp]
      have hu : undoD D c = { D with err := c, stage := 6 } := by simp [undoD, hr, hp]
      have HU := hid_ hu
      clear hr hp hu
      go_enter Try.func57, Try.ntmps57
      go_wp2_with fail
      have HI := hid_ (DN.out 6 _ ((HF.out.trans (Fr.only1 _ ⟨i, 5, none⟩ (.int .i64 5)) (fun _ _ => id) (fun _ _ => id)).trans (Fr.only1 _ ⟨i, 5, none⟩ (.int .i64 6)) (fun _ _ => id) (fun _ _ => id)) ((HB.out.set_ 5 (.int .i64 5)).set_ 5 (.int .i64 6)) HU.out)
      refine (over_ok HI.out.1).mono ?_
      rintro e w1 ⟨rfl, rfl⟩
      go_wp2_with fail
      go_ret
      exact ⟨rfl, HI.out.1, HI.out.2⟩
  · have z1 : ((D.refs.length : Int) == 0) = false := by simp [hr]
    have hu : undoD D c = { D with err := c, stage := 5 } := by simp [undoD, hr]
    have HU := hid_ hu
    clear hr hu
    go_enter Try.func57, Try.ntmps57
    go_wp2_with fail
    have HI := hid_ (DN.out 5 _ (HF.out.trans (Fr.only1 _ ⟨i, 5, none⟩ (.int .i64 5)) (fun _ _ => id) (fun _ _ => id)) (HB.out.set_ 5 (.int .i64 5)) HU.out)
    refine (over_ok HI.out.1).mono ?_
    rintro e w1 ⟨rfl, rfl⟩
    go_wp2_with fail
    go_ret
    exact ⟨rfl, HI.out.1, HI.out.2⟩
set_option maxHeartbeats 2000000 in
theorem undo_i {w : World} {B i : Nat} {D : Dt} {a : Ia} (tv : TypeId) (xv : Value) (c : Int) (h : Inst w B i D a) (hv : Er w (.iface tv xv) c) : Calls Try.prog 57 #[.pointer (some ⟨i, 0, none⟩), (.iface tv xv)] w fun e w' => e = .returned (.bool ((undoD D c).stage == 7)) ∧ Inst w' B i (undoD D c) { a with ev := (.iface tv xv) } ∧ Fr (only i) w w' := by
  obtain ⟨A, c1, A', c2, A'', c3, e1, e2, e3⟩ := h.shapes
  have H := hid_ h
  have HV := hid_ hv
  have i5 : w.cell? ⟨i, 5, none⟩ = some (.int .i64 D.stage) := h.b.cell' rfl
  have i6 : w.cell? ⟨i, 6, none⟩ = some (.slice A D.pages.length c1) := by rw [← e1]; exact h.b.cell' rfl
  have i23 : w.cell? ⟨i, 23, none⟩ = some (.slice A' D.refs.length c2) := by rw [← e2]; exact h.b.cell' rfl
  have i26 : w.cell? ⟨i, 26, none⟩ = some a.ev := h.b.cell' rfl
  have y5 := h.b.frozen 5
  have y26 := h.b.frozen 26
  have B5 := h.b.set_ 26 (.iface tv xv)
  have E1 := hid_ e1
  have E2 := hid_ e2
  clear h hv e1 e2 e3
  have fr0 : Fr (only i) w (w.setCell ⟨i, 26, none⟩ (.iface tv xv)) := Fr.only1 w ⟨i, 26, none⟩ (.iface tv xv)
  have done : ∀ (s : Int) (w' : World), Fr (only i) w w' → Blk w' i 92 (inA { D with err := c, stage := s } { a with ev := (.iface tv xv) }) → undoD D c = { D with err := c, stage := s } → (Inst w' B i (undoD D c) { a with ev := (.iface tv xv) } ∧ Fr (only i) w w') := fun s w' hf hb e =>
    ⟨by rw [e]; exact H.out.reb hf hb ⟨rfl, rfl, rfl, rfl⟩ ⟨rfl, rfl, rfl, rfl, rfl, rfl⟩ (HV.out.only hf H.out.b (by decide)), hf⟩
  have DN := hid_ done
  have HB := hid_ B5
  have HF := hid_ fr0
  clear done B5 fr0
  by_cases hr : D.refs.length = 0
  · have z1 : ((D.refs.length : Int) == 0) = true := by simp [hr]
    by_cases hp : D.pages.length = 0
    · have z2 : ((D.pages.length : Int) == 0) = true := by simp [hp]
      have hu : undoD D c = { D with err := c, stage := 7 } := by simp [undoD, hr, hp]
      have HU := hid_ hu
      clear hr hp hu
      go_enter Try.func57, Try.ntmps57
      go_upto_region 4 with fail
      obtain ⟨w1, hw1⟩ : ∃ z, z = ((w.setCell ⟨i, 26, none⟩ (.iface tv xv)).setCell ⟨i, 5, none⟩ (.int .i64 5)).setCell ⟨i, 5, none⟩ (.int .i64 6) := ⟨_, rfl⟩
      have B1 := hid_ ((HB.out.set_ 5 (.int .i64 5)).set_ 5 (.int .i64 6))
      have F1 : Hid (Fr (only i) w w1) := hid_ (by rw [hw1]; exact (HF.out.trans (Fr.only1 _ ⟨i, 5, none⟩ (.int .i64 5)) (fun _ _ => id) (fun _ _ => id)).trans (Fr.only1 _ ⟨i, 5, none⟩ (.int .i64 6)) (fun _ _ => id) (fun _ _ => id))
      rw [← hw1] at B1
      change Code.wp _ _ _ _ (((w.setCell ⟨i, 26, none⟩ (.iface tv xv)).setCell ⟨i, 5, none⟩ (.int .i64 5)).setCell ⟨i, 5, none⟩ (.int .i64 6))
      rw [← hw1]
      clear hw1 i5 i6 i23 i26 y5 y26
      have i5 : w1.cell? ⟨i, 5, none⟩ = some (.int .i64 6) := B1.out.cell' rfl
      have i6 : w1.cell? ⟨i, 6, none⟩ = some (.slice A D.pages.length c1) := B1.out.cell' (by rw [← E1.out]; rfl)
      have i23 : w1.cell? ⟨i, 23, none⟩ = some (.slice A' D.refs.length c2) := B1.out.cell' (by rw [← E2.out]; rfl)
      have y5 := B1.out.frozen 5
      go_wp2_with fail
      have HI := hid_ (DN.out 7 _ (F1.out.trans (Fr.only1 _ ⟨i, 5, none⟩ (.int .i64 7)) (fun _ _ => id) (fun _ _ => id)) (B1.out.set_ 5 (.int .i64 7)) HU.out)
      refine (over_ok HI.out.1).mono ?_
      rintro e w1 ⟨rfl, rfl⟩
      go_wp2_with fail
      go_ret
      exact ⟨rfl, HI.out.1, HI.out.2⟩
    · have z2 : ((D.pages.length : Int) == 0) = false := by simp [hp]
      have hu : undoD D c = { D with err := c, stage := 6 } := by simp [undoD, hr, hp]
      have HU := hid_ hu
      clear hr hp hu
      go_enter Try.func57, Try.ntmps57
      go_wp2_with fail
      have HI := hid_ (DN.out 6 _ ((HF.out.trans (Fr.only1 _ ⟨i, 5, none⟩ (.int .i64 5)) (fun _ _ => id) (fun _ _ => id)).trans (Fr.only1 _ ⟨i, 5, none⟩ (.int .i64 6)) (fun _ _ => id) (fun _ _ => id)) ((HB.out.set_ 5 (.int .i64 5)).set_ 5 (.int .i64 6)) HU.out)
      refine (over_ok HI.out.1).mono ?_
      rintro e w1 ⟨rfl, rfl⟩
      go_wp2_with fail
      go_ret
      exact ⟨rfl, HI.out.1, HI.out.2⟩
  · have z1 : ((D.refs.length : Int) == 0) = false := by simp [hr]
    have hu : undoD D c = { D with err := c, stage := 5 } := by simp [undoD, hr]
    have HU := hid_ hu
    clear hr hu
    go_enter Try.func57, Try.ntmps57
    go_wp2_with fail
    have HI := hid_ (DN.out 5 _ (HF.out.trans (Fr.only1 _ ⟨i, 5, none⟩ (.int .i64 5)) (fun _ _ => id) (fun _ _ => id)) (HB.out.set_ 5 (.int .i64 5)) HU.out)
    refine (over_ok HI.out.1).mono ?_
    rintro e w1 ⟨rfl, rfl⟩
    go_wp2_with fail
    go_ret
    exact ⟨rfl, HI.out.1, HI.out.2⟩
theorem undo_ok {w : World} {B i : Nat} {D : Dt} {a : Ia} (v : Value) (c : Int) (h : Inst w B i D a) (hv : Er w v c) : Calls Try.prog 57 #[.pointer (some ⟨i, 0, none⟩), v] w fun e w' => e = .returned (.bool ((undoD D c).stage == 7)) ∧ Inst w' B i (undoD D c) { a with ev := v } ∧ Fr (only i) w w' := by
  rcases hv.shape with rfl | ⟨tv, xv, rfl⟩
  · exact undo_n c h hv
  · exact undo_i tv xv c h hv
end Go.Proofs.Ythcpccddcgbanaa

/- An installer's access where the head is put, and where it is swapped. Written by gen_ins5.py. -/
import Derived.Test.YthcpccddcgbanaaIns3
namespace Go.Proofs.Ythcpccddcgbanaa
open Go.RowKit
set_option maxRecDepth 100000
set_option linter.unusedVariables false

theorem Inst.setStage {w : World} {B i : Nat} {D : Dt} {a : Ia} (h : Inst w B i D a) (s : Int) : Inst (w.setCell ⟨i, 5, none⟩ (.int .i64 s)) B i { D with stage := s } a ∧ Fr (only i) w (w.setCell ⟨i, 5, none⟩ (.int .i64 s)) := by
  have f1 := Fr.only1 w ⟨i, 5, none⟩ (.int .i64 s)
  exact ⟨h.reb f1 (h.b.set_ 5 _) ⟨rfl, rfl, rfl, rfl⟩ ⟨rfl, rfl, rfl, rfl, rfl, rfl⟩ (h.e.only f1 h.b (by decide)), f1⟩
theorem Inst.setEnd {w : World} {B i : Nat} {D : Dt} {a : Ia} (h : Inst w B i D a) : Inst ((w.setCell ⟨i, 5, none⟩ (.int .i64 7)).setCell ⟨i, 25, none⟩ (.bool true)) B i { D with stage := 7, done := true } a ∧ Fr (only i) w ((w.setCell ⟨i, 5, none⟩ (.int .i64 7)).setCell ⟨i, 25, none⟩ (.bool true)) := by
  have f1 : Fr (only i) w ((w.setCell ⟨i, 5, none⟩ (.int .i64 7)).setCell ⟨i, 25, none⟩ (.bool true)) := (Fr.only1 w ⟨i, 5, none⟩ (.int .i64 7)).trans (Fr.only1 _ ⟨i, 25, none⟩ (.bool true)) (fun _ _ => id) (fun _ _ => id)
  exact ⟨h.reb f1 ((h.b.set_ 5 _).set_ 25 _) ⟨rfl, rfl, rfl, rfl⟩ ⟨rfl, rfl, rfl, rfl, rfl, rfl⟩ (h.e.only f1 h.b (by decide)), f1⟩
theorem Inst.only_off {w : World} {B i : Nat} {D : Dt} {a : Ia} (h : Inst w B i D a) : ∀ b, only i b → ∃ t cs, Blk w b t cs ∧ OffMem t := by
  rintro b e
  obtain rfl : b = i := e
  exact ⟨_, _, h.b, by decide⟩
/-- What stays of where an installer lies. -/
def SameIa (a a' : Ia) : Prop := a'.mv = a.mv ∧ a'.pv = a.pv ∧ a'.bv = a.bv ∧ a'.Cs = a.Cs
def fwd3D (D : Dt) (kk sl gn : Int) : Dt := if kk = 0 then { D with refs := D.refs ++ [(sl, gn)], stage := 4 } else undoD D kk
def Fwd3 (m : Nat) (k : Int) (l : Lm) (x : St) (B i : Nat) (D : Dt) (a : Ia) (w : World) (e : Ending) (w' : World) : Prop :=
  ∃ sl gn kk ss' a', e = .returned (.bool ((fwd3D D kk sl gn).stage == 7)) ∧ AllocR l.n x.ss D.head sl gn kk ss' ∧ Mm w' m (k + 1) l { x with ss := ss' } ∧ Inst w' B i (fwd3D D kk sl gn) a' ∧ Fr (mf m x i a) w w' ∧ FootLe i a a' w ∧ SameIa a a'
set_option maxHeartbeats 8000000 in
theorem fwd3 {w : World} {m : Nat} {k : Int} {l : Lm} {x : St} {B i : Nat} {D : Dt} {a : Ia} (h : Inst w B i D a) (hM : Mm w m k l x) (h0 : 0 ≤ k) (h1 : k ≤ 100000) (hs : D.stage = 3) (hn : D.refs.length ≤ 4) (hB : B ≤ w.heap.size) :
    Calls Try.prog 44 #[.pointer (some ⟨i, 0, none⟩), .pointer (some ⟨m, 0, none⟩)] w (Fwd3 m k l x B i D a w) := by
  obtain ⟨Ah, ch, Eh, dh, eh1, eh2⟩ := h.h.shape
  have E1 := hid_ (And.intro eh1 (And.intro eh2 hs))
  have HN := hid_ (And.intro hn hB)
  have I0 := hid_ h
  have M0 := hid_ hM
  have i5 : w.cell? ⟨i, 5, none⟩ = some (.int .i64 3) := by rw [← hs]; exact h.b.cell' rfl
  have i8 : w.cell? ⟨i, 8, none⟩ = some (.int .i64 D.head.kind) := h.b.cell' rfl
  have i9 : w.cell? ⟨i, 9, none⟩ = some (.string D.head.low) := h.b.cell' rfl
  have i10 : w.cell? ⟨i, 10, none⟩ = some (.string D.head.high) := h.b.cell' rfl
  have i11 : w.cell? ⟨i, 11, none⟩ = some (.bool D.head.unb) := h.b.cell' rfl
  have i12 : w.cell? ⟨i, 12, none⟩ = some (.int .i64 D.head.right) := h.b.cell' rfl
  have i13 : w.cell? ⟨i, 13, none⟩ = some (.slice Ah D.head.rows.length ch) := by rw [← eh1]; exact h.b.cell' rfl
  have i14 : w.cell? ⟨i, 14, none⟩ = some (.slice Eh D.head.ents.length dh) := by rw [← eh2]; exact h.b.cell' rfl
  have i15 : w.cell? ⟨i, 15, none⟩ = some (.string D.head.key) := h.b.cell' rfl
  have i16 : w.cell? ⟨i, 16, none⟩ = some (.string D.head.val) := h.b.cell' rfl
  have i17 : w.cell? ⟨i, 17, none⟩ = some (.int .i64 D.head.page) := h.b.cell' rfl
  have i18 : w.cell? ⟨i, 18, none⟩ = some (.int .i64 D.head.hpage) := h.b.cell' rfl
  have i19 : w.cell? ⟨i, 19, none⟩ = some (.int .i64 D.head.hleft) := h.b.cell' rfl
  have i20 : w.cell? ⟨i, 20, none⟩ = some (.string D.head.hkey) := h.b.cell' rfl
  have i21 : w.cell? ⟨i, 21, none⟩ = some (.int .i64 D.head.nslot) := h.b.cell' rfl
  have i22 : w.cell? ⟨i, 22, none⟩ = some (.int .i64 D.head.ngen) := h.b.cell' rfl
  have O0 := hid_ h.h
  rw [eh1, eh2] at O0
  have zh := h.zh
  clear h hM hs hn hB eh1 eh2
  go_enter Try.func44, Try.ntmps44
  go_wp2_with fail
  refine (put_ok I0.out M0.out h0 h1 D.head Ah ch Eh dh O0.out zh HN.out.1 HN.out.2).mono ?_
  rintro e w1 ⟨sl, gn, kk, ss', v, a', rfl, hA, hev, hM1, hI1, hf1, hfl, hsm⟩
  have R1 := hid_ hA
  have EV := hid_ hev
  have M1 := hid_ hM1
  have I1 := hid_ hI1
  have F1 := hid_ (And.intro hf1 (And.intro hfl hsm))
  clear hA hev hM1 hI1 hf1 hfl hsm O0 zh i5 i8 i9 i10 i11 i12 i13 i14 i15 i16 i17 i18 i19 i20 i21 i22
  rcases EV.out.nil_iff with ⟨rfl, rfl⟩ | ⟨hkk, b, rfl⟩
  · replace I1 := hid_ (show Inst w1 B i { D with refs := D.refs ++ [(sl, gn)] } a' from (by have hq := I1.out; rwa [show putD D 0 sl gn = { D with refs := D.refs ++ [(sl, gn)] } from if_pos rfl] at hq))
    have y5 := I1.out.b.frozen 5
    have i5 : w1.cell? ⟨i, 5, none⟩ = some (.int .i64 D.stage) := I1.out.b.cell' rfl
    go_wp2_with fail
    have I2 := hid_ (I1.out.setStage 4)
    refine (over_ok I2.out.1).mono ?_
    rintro e w3 ⟨rfl, rfl⟩
    go_wp2_with fail
    go_ret
    have ef : fwd3D D 0 sl gn = { D with refs := D.refs ++ [(sl, gn)], stage := 4 } := if_pos rfl
    refine ⟨sl, gn, 0, ss', a', by rw [ef]; rfl, R1.out, M1.out.ty I2.out.2 I1.out.only_off, by rw [ef]; exact I2.out.1, mf_tr F1.out.1 (mf_i I2.out.2), F1.out.2.1, F1.out.2.2.2.2.2.1, F1.out.2.2.1, F1.out.2.2.2.1, F1.out.2.2.2.2.1⟩
  · have HK := hid_ hkk
    clear hkk
    replace I1 := hid_ (show Inst w1 B i D a' from (by have hq := I1.out; rwa [show putD D kk sl gn = D from if_neg HK.out] at hq))
    go_wp2_with fail
    refine (undo_ok _ kk I1.out EV.out.er).mono ?_
    rintro e w3 ⟨rfl, hI3, hf3⟩
    have I3 := hid_ (And.intro hI3 hf3)
    clear hI3 hf3
    go_wp2_with fail
    go_ret
    have ef : fwd3D D kk sl gn = undoD D kk := if_neg HK.out
    refine ⟨sl, gn, kk, ss', { a' with ev := .iface 120 (.pointer (some ⟨b, 0, none⟩)) }, by rw [ef]; rfl, R1.out, M1.out.ty I3.out.2 I1.out.only_off, by rw [ef]; exact I3.out.1, mf_tr F1.out.1 (mf_i I3.out.2), F1.out.2.1, F1.out.2.2.2.2.2.1, F1.out.2.2.1, F1.out.2.2.2.1, F1.out.2.2.2.2.1⟩
end Go.Proofs.Ythcpccddcgbanaa

/- An installer's access where the head is swapped. Written by gen_ins5.py. -/
import Derived.Test.YthcpccddcgbanaaFwdA
namespace Go.Proofs.Ythcpccddcgbanaa
open Go.RowKit
set_option maxRecDepth 100000
set_option linter.unusedVariables false

def fwd4D (D : Dt) (ok : Bool) (c : Int) : Dt := if ok = true then { D with stage := 7, done := true } else undoD D c
def Fwd4 (m : Nat) (k : Int) (l : Lm) (x : St) (B i : Nat) (D : Dt) (a : Ia) (s g : Int) (w : World) (e : Ending) (w' : World) : Prop :=
  ∃ ok c ps' a', e = .returned (.bool ((fwd4D D ok c).stage == 7)) ∧ SwapR x.ps D.page D.os D.og s g ok c ps' ∧ Mm w' m (k + 1) l { x with ps := ps' } ∧ Inst w' B i (fwd4D D ok c) a' ∧ Fr (mf m x i a) w w' ∧ FootLe i a a' w ∧ (SameIa a a' ∧ a'.rv = a.rv)
/-- The swap's answer: where there is an error it is not done. -/
theorem SwapR.err {ps : List Pg} {n a b c d : Int} {ok : Bool} {k : Int} {ps' : List Pg} (h : SwapR ps n a b c d ok k ps') (hk : k ≠ 0) : ok = false := by
  rcases h with ⟨i, s, g, _, _, _, h, _⟩ | ⟨_, h, _⟩
  · exact absurd h hk
  · exact h
theorem rf9_get : ∀ (l : List (Int × Int)) (j : Nat) (p : Int × Int), l[j]? = some p → (rf9Flat l)[j * 2]? = some (.int .i64 p.1) ∧ (rf9Flat l)[j * 2 + 1]? = some (.int .i64 p.2)
  | [], j, p, h => by simp at h
  | q :: l, 0, p, h => by
    obtain rfl : q = p := by simpa using h
    simp [rf9Flat]
  | q :: l, j + 1, p, h => by
    have := rf9_get l j p (by simpa using h)
    rw [show (j + 1) * 2 = j * 2 + 1 + 1 by omega]
    simpa [rf9Flat] using this
theorem last_row {l : List (Int × Int)} {j : Nat} {s g : Int} (hl : l.length = j + 1) (hj : l[j]? = some (s, g)) : (rf9Flat l)[j * 2]? = some (.int .i64 s) ∧ (rf9Flat l)[j * 2 + 1]? = some (.int .i64 g) := rf9_get l j (s, g) hj
set_option maxHeartbeats 8000000 in
theorem fwd4 {w : World} {m : Nat} {k : Int} {l : Lm} {x : St} {B i : Nat} {D : Dt} {a : Ia} (h : Inst w B i D a) (hM : Mm w m k l x) (h0 : 0 ≤ k) (h1 : k ≤ 100000) (hs : D.stage = 4) {j : Nat} {s g : Int} (hl : D.refs.length = j + 1) (hj : D.refs[j]? = some (s, g)) :
    Calls Try.prog 44 #[.pointer (some ⟨i, 0, none⟩), .pointer (some ⟨m, 0, none⟩)] w (Fwd4 m k l x B i D a s g w) := by
  obtain ⟨A2, c2, e2, hcap, -, hcells⟩ := own_parts h.r
  obtain ⟨gb, rfl, hgb, hcc⟩ := hcells (by omega)
  have hz9 := h.zp.2.2
  have E1 := hid_ (And.intro e2 hs)
  have I0 := hid_ h
  have M0 := hid_ hM
  have i5 : w.cell? ⟨i, 5, none⟩ = some (.int .i64 4) := by rw [← hs]; exact h.b.cell' rfl
  have i0 : w.cell? ⟨i, 0, none⟩ = some (.int .i64 D.page) := h.b.cell' rfl
  have i1 : w.cell? ⟨i, 1, none⟩ = some (.int .i64 D.os) := h.b.cell' rfl
  have i2 : w.cell? ⟨i, 2, none⟩ = some (.int .i64 D.og) := h.b.cell' rfl
  have i23 : w.cell? ⟨i, 23, none⟩ = some (.slice (some ⟨gb, 0, none⟩) (j + 1) c2) := by rw [← hl, ← e2]; exact h.b.cell' rfl
  have g0 : w.cell? ⟨gb, j * 2, none⟩ = some (.int .i64 s) := hcc _ _ (last_row hl hj).1
  have g1 : w.cell? ⟨gb, j * 2 + 1, none⟩ = some (.int .i64 g) := hcc _ _ (last_row hl hj).2
  have hwj : IntKind.i64.wrap (j : Int) = (j : Int) := IntWalk.i64_in _ (by have := h.zp.2.2; omega)
  have nI : ¬ mall m x i ∧ ¬ mall m x gb := ⟨hM.mall_ty h.b (by decide), by
    have hgk : a.rv.ownBlock = some gb := by rw [e2]; rfl
    obtain ⟨_, cs, hb⟩ := own_blk h.r hgk
    exact hM.mall_ty hb (by decide)⟩
  rw [hl] at hcap hz9
  clear h hM hs hl hj e2 hcc
  go_enter Try.func44, Try.ntmps44
  go_upto_region 4 with fail
  have hS0 : (fun w' : World => Fr (mall m x) w w') w.drew := (Fr.refl _ w).drew
  refine wp_region_U (m := 29) (S := fun w' : World => Fr (mall m x) w w') (by kernel_rfl) ?_
  refine wpAnyU_take2 (i := 0) (v := _) rfl (by kernel_rfl) (by kernel_rfl) (by kernel_rfl) (by kernel_rfl) (fun _ _ _ h => h) (.inl ⟨by kernel_rfl, fun w' hS => by go_simp; rfl⟩) hS0 ?_
  refine wpAnyU_take2 (i := 1) (v := _) rfl (by kernel_rfl) (by kernel_rfl) (by kernel_rfl) (by kernel_rfl) (fun _ _ _ h => h) (.inl ⟨by kernel_rfl, fun w' hS => by go_simp; rfl⟩) hS0 ?_
  refine wpAnyU_take2 (i := 2) (v := _) rfl (by kernel_rfl) (by kernel_rfl) (by kernel_rfl) (by kernel_rfl) (fun _ _ _ h => h) (.inl ⟨by kernel_rfl, fun w' hS => by go_simp; rfl⟩) hS0 ?_
  refine wpAnyU_take2 (i := 3) (v := _) rfl (by kernel_rfl) (by kernel_rfl) (by kernel_rfl) (by kernel_rfl) (fun _ _ _ h => h) (.inl ⟨by kernel_rfl, fun w' hS => by go_simp; rfl⟩) hS0 ?_
  refine wpAnyU_take2 (i := 4) (v := _) rfl (by kernel_rfl) (by kernel_rfl) (by kernel_rfl) (by kernel_rfl) (fun _ _ _ h => h) (.inl ⟨by kernel_rfl, fun w' hS => by go_simp; rfl⟩) hS0 ?_
  refine wpAnyU_take2 (i := 5) (v := _) rfl (by kernel_rfl) (by kernel_rfl) (by kernel_rfl) (by kernel_rfl) (fun _ _ _ h => h) (.inl ⟨by kernel_rfl, fun w' hS => by have s_ := cellFrS i0 hS nI.1; go_simp; rfl⟩) hS0 ?_
  refine wpAnyU_take2 (i := 6) (v := _) rfl (by kernel_rfl) (by kernel_rfl) (by kernel_rfl) (by kernel_rfl) (fun _ _ _ h => h) (.inl ⟨by kernel_rfl, fun w' hS => by go_simp; rfl⟩) hS0 ?_
  refine wpAnyU_take2 (i := 7) (v := _) rfl (by kernel_rfl) (by kernel_rfl) (by kernel_rfl) (by kernel_rfl) (fun _ _ _ h => h) (.inl ⟨by kernel_rfl, fun w' hS => by go_simp; rfl⟩) hS0 ?_
  refine wpAnyU_take2 (i := 8) (v := _) rfl (by kernel_rfl) (by kernel_rfl) (by kernel_rfl) (by kernel_rfl) (fun _ _ _ h => h) (.inl ⟨by kernel_rfl, fun w' hS => by go_simp; rfl⟩) hS0 ?_
  refine wpAnyU_take2 (i := 9) (v := _) rfl (by kernel_rfl) (by kernel_rfl) (by kernel_rfl) (by kernel_rfl) (fun _ _ _ h => h) (.inl ⟨by kernel_rfl, fun w' hS => by go_simp; rfl⟩) hS0 ?_
  refine wpAnyU_take2 (i := 10) (v := _) rfl (by kernel_rfl) (by kernel_rfl) (by kernel_rfl) (by kernel_rfl) (fun _ _ _ h => h) (.inl ⟨by kernel_rfl, fun w' hS => by have s_0 := cellFrS i1 hS nI.1; have s_1 := cellFrS i2 hS nI.1; go_simp; rfl⟩) hS0 ?_
  refine wpAnyU_take2 (i := 11) (v := _) rfl (by kernel_rfl) (by kernel_rfl) (by kernel_rfl) (by kernel_rfl) (fun _ _ _ h => h) (.inl ⟨by kernel_rfl, fun w' hS => by go_simp; rfl⟩) hS0 ?_
  refine wpAnyU_take2 (i := 12) (v := _) rfl (by kernel_rfl) (by kernel_rfl) (by kernel_rfl) (by kernel_rfl) (fun _ _ _ h => h) (.inl ⟨by kernel_rfl, fun w' hS => by go_simp; rfl⟩) hS0 ?_
  refine wpAnyU_take2 (i := 13) (v := _) rfl (by kernel_rfl) (by kernel_rfl) (by kernel_rfl) (by kernel_rfl) (fun _ _ _ h => h) (.inl ⟨by kernel_rfl, fun w' hS => by go_simp; rfl⟩) hS0 ?_
  refine wpAnyU_take2 (i := 14) (v := _) rfl (by kernel_rfl) (by kernel_rfl) (by kernel_rfl) (by kernel_rfl) (fun _ _ _ h => h) (.inl ⟨by kernel_rfl, fun w' hS => by have s_ := cellFrS i23 hS nI.1; go_simp; rfl⟩) hS0 ?_
  refine wpAnyU_take2 (i := 15) (v := _) rfl (by kernel_rfl) (by kernel_rfl) (by kernel_rfl) (by kernel_rfl) (fun _ _ _ h => h) (.inl ⟨by kernel_rfl, fun w' hS => by go_simp; rfl⟩) hS0 ?_
  refine wpAnyU_take2 (i := 16) (v := _) rfl (by kernel_rfl) (by kernel_rfl) (by kernel_rfl) (by kernel_rfl) (fun _ _ _ h => h) (.inl ⟨by kernel_rfl, fun w' hS => by go_simp; rfl⟩) hS0 ?_
  refine wpAnyU_take2 (i := 17) (v := _) rfl (by kernel_rfl) (by kernel_rfl) (by kernel_rfl) (by kernel_rfl) (fun _ _ _ h => h) (.inl ⟨by kernel_rfl, fun w' hS => by go_simp; rfl⟩) hS0 ?_
  refine wpAnyU_take2 (i := 18) (v := _) rfl (by kernel_rfl) (by kernel_rfl) (by kernel_rfl) (by kernel_rfl) (fun _ _ _ h => h) (.inl ⟨by kernel_rfl, fun w' hS => by have s_ := cellFrS i23 hS nI.1; go_simp; rfl⟩) hS0 ?_
  refine wpAnyU_take2 (i := 19) (v := _) rfl (by kernel_rfl) (by kernel_rfl) (by kernel_rfl) (by kernel_rfl) (fun _ _ _ h => h) (.inl ⟨by kernel_rfl, fun w' hS => by go_simp; rfl⟩) hS0 ?_
  refine wpAnyU_take2 (i := 20) (v := _) rfl (by kernel_rfl) (by kernel_rfl) (by kernel_rfl) (by kernel_rfl) (fun _ _ _ h => h) (.inl ⟨by kernel_rfl, fun w' hS => by have s_w := hwj; go_simp; rfl⟩) hS0 ?_
  refine wpAnyU_take2 (i := 21) (v := _) rfl (by kernel_rfl) (by kernel_rfl) (by kernel_rfl) (by kernel_rfl) (fun _ _ _ h => h) (.inl ⟨by kernel_rfl, fun w' hS => by have s_w := hwj; have s_l : (j : Int) < (j : Int) + 1 := Int.lt_succ _; go_simp; rfl⟩) hS0 ?_
  refine wpAnyU_take2 (i := 22) (v := _) rfl (by kernel_rfl) (by kernel_rfl) (by kernel_rfl) (by kernel_rfl) (fun _ _ _ h => h) (.inl ⟨by kernel_rfl, fun w' hS => by have s_0 := cellFrS g0 hS nI.2; have s_1 := cellFrS g1 hS nI.2; go_simp; rfl⟩) hS0 ?_
  clear i0 i1 i2 i5 i23 g0 g1 hwj
  refine wpAnyU_oneW (i := 23) rfl (by kernel_rfl) (by kernel_rfl) ?_
  go_simp
  refine (memSwap_any m k l x _ (M0.out.keep (Fr.refl none_ w).drew) h0 h1 D.page D.os D.og s g).mono ?_
  rintro e w1 ⟨ok, c, ps', v, rfl, hR, hev, hM1, hf1⟩
  have R1 := hid_ hR
  have EV := hid_ hev
  have M1 := hid_ hM1
  have fS : Fr (mall m x) w w1 := (Fr.refl (mall m x) w).drew.trans hf1 (fun _ _ => id) (fun _ _ => id)
  have I1 := hid_ (I0.out.mall M0.out fS)
  refine ⟨fS, ?_⟩
  clear hR hev hM1 hf1 hS0
  refine wpAnyU_take2 (i := 24) (v := _) rfl (by kernel_rfl) (by kernel_rfl) (by kernel_rfl) (by kernel_rfl) (fun _ _ _ h => h) (.inl ⟨by kernel_rfl, fun w' hS => by go_simp; rfl⟩) fS ?_
  refine wpAnyU_take2 (i := 25) (v := _) rfl (by kernel_rfl) (by kernel_rfl) (by kernel_rfl) (by kernel_rfl) (fun _ _ _ h => h) (.inl ⟨by kernel_rfl, fun w' hS => by go_simp; rfl⟩) fS ?_
  refine wpAnyU_take2 (i := 26) (v := _) rfl (by kernel_rfl) (by kernel_rfl) (by kernel_rfl) (by kernel_rfl) (fun _ _ _ h => h) (.inl ⟨by kernel_rfl, fun w' hS => by go_simp; rfl⟩) fS ?_
  refine wpAnyU_take2 (i := 27) (v := _) rfl (by kernel_rfl) (by kernel_rfl) (by kernel_rfl) (by kernel_rfl) (fun _ _ _ h => h) (.inl ⟨by kernel_rfl, fun w' hS => by go_simp; rfl⟩) fS ?_
  refine wpAnyU_take2 (i := 28) (v := _) rfl (by kernel_rfl) (by kernel_rfl) (by kernel_rfl) (by kernel_rfl) (fun _ _ _ h => h) (.inl ⟨by kernel_rfl, fun w' hS => by go_simp; rfl⟩) fS ?_
  refine wpAnyU_done (by kernel_rfl) ?_ _
  have FS := hid_ fS
  clear fS
  cases ok with
  | true =>
    obtain rfl : c = 0 := by
      rcases Int.decEq c 0 with hc | hc
      · exact absurd (R1.out.err hc) (by simp)
      · exact hc
    obtain rfl : v = .nilIface := by
      rcases EV.out.nil_iff with ⟨_, h⟩ | ⟨h, _⟩
      · exact h
      · exact absurd rfl h
    have y5 := I1.out.b.frozen 5
    have y25 := I1.out.b.frozen 25
    have i5 : w1.cell? ⟨i, 5, none⟩ = some (.int .i64 D.stage) := I1.out.b.cell' rfl
    have i25 : w1.cell? ⟨i, 25, none⟩ = some (.bool D.done) := I1.out.b.cell' rfl
    go_wp2_with fail
    have I2 := hid_ I1.out.setEnd
    refine (over_ok I2.out.1).mono ?_
    rintro e w3 ⟨rfl, rfl⟩
    go_wp2_with fail
    go_ret
    have ef : fwd4D D true 0 = { D with stage := 7, done := true } := if_pos rfl
    exact ⟨true, 0, ps', a, by rw [ef]; rfl, R1.out, M1.out.ty I2.out.2 I1.out.only_off, by rw [ef]; exact I2.out.1, mf_tr (mf_m FS.out) (mf_i I2.out.2), FootLe.refl _ _ _, ⟨rfl, rfl, rfl, rfl⟩, rfl⟩
  | false =>
    have ef : fwd4D D false c = undoD D c := if_neg (by simp)
    rcases EV.out.nil_iff with ⟨rfl, rfl⟩ | ⟨hkk, b, rfl⟩
    · go_wp2_with fail
      refine (undo_ok _ _ I1.out EV.out.er).mono ?_
      rintro e w3 ⟨rfl, hI3, hf3⟩
      have I3 := hid_ (And.intro hI3 hf3)
      clear hI3 hf3
      go_wp2_with fail
      go_ret
      exact ⟨false, 0, ps', { a with ev := .nilIface }, by rw [ef]; rfl, R1.out, M1.out.ty I3.out.2 I1.out.only_off, by rw [ef]; exact I3.out.1, mf_tr (mf_m FS.out) (mf_i I3.out.2), FootLe.refl _ _ _, ⟨rfl, rfl, rfl, rfl⟩, rfl⟩
    · go_wp2_with fail
      refine (undo_ok _ _ I1.out EV.out.er).mono ?_
      rintro e w3 ⟨rfl, hI3, hf3⟩
      have I3 := hid_ (And.intro hI3 hf3)
      clear hI3 hf3
      go_wp2_with fail
      go_ret
      exact ⟨false, c, ps', { a with ev := .iface 120 (.pointer (some ⟨b, 0, none⟩)) }, by rw [ef]; rfl, R1.out, M1.out.ty I3.out.2 I1.out.only_off, by rw [ef]; exact I3.out.1, mf_tr (mf_m FS.out) (mf_i I3.out.2), FootLe.refl _ _ _, ⟨rfl, rfl, rfl, rfl⟩, rfl⟩
end Go.Proofs.Ythcpccddcgbanaa

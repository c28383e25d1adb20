/- Texts of one proof, merged: CloneB, Own8, Res7, Pg7, HoldM8, Dec7, Upk7, Nm11, Cs11, Md11, Qs7, Ux, Uv, LdrB10. -/
import Derived.Deep.MidRow
import Derived.Deep.QuietTactic
import Derived.Test.YtfihfjbakfadkaaDoorMsA
import Derived.Test.YtfihfjbakfadkaaDoorMsC
import Derived.Test.YtfihfjbakfadkaaDoorMsE
import Derived.Test.YtfihfjbakfadkaaDoorMsG
namespace Go.Proofs.YtfihfjbakfadkaaDoor
open Go.RowKit
set_option maxRecDepth 100000
set_option linter.unusedVariables false

set_option maxHeartbeats 2000000 in
theorem clone_big (R : Rc) (A : Option Addr) (c : Nat) (B : Option Addr) (d : Nat) (w : World) (h : RecReads w R A B) (hr : R.rows.length ≤ 4398046511104) (he : R.ents.length ≤ 1000) :
    Calls Tryd.prog 53 #[recV R (.slice A R.rows.length c) (.slice B R.ents.length d)] w (ClonePost R w) := by
  obtain ⟨i0, hi0, hz0, hs0, hb0⟩ := info_parts row_info
  obtain ⟨j0, hj0, hy0, ht0, hc0⟩ := info_parts entry_info
  have Hi := hid_ (And.intro hi0 (And.intro hz0 (And.intro hs0 hb0)))
  have Hj := hid_ (And.intro hj0 (And.intro hy0 (And.intro ht0 hc0)))
  have H := hid_ h
  clear hi0 hz0 hs0 hb0 hj0 hy0 ht0 hc0 h
  go_enter Tryd.func53, Tryd.ntmps53
  go_wp2_with (first
    | (at_builtin; refine wpList_append_any _ rfl (.tmp 3) (.tmp 5) 36 rfl w.heap.size 137 i0 _ 2 32 Tryd.underlying36 Hi.out.1 Hi.out.2.1 Hi.out.2.2.1 Hi.out.2.2.2 rfl (by omega) (.slice (some ⟨w.heap.size + 1 + 1, 0, none⟩) 0 0) 0 [] rfl (own_empty_at _ _ _ _ _ (by simp; omega) (by simp)) A R.rows.length c (rwFlat R.rows) rfl (((H.out.r.alloc _).alloc _).alloc _) (rwFlat_one _) (by simp only [maxLen]; omega) (by omega) (by simp; omega) ?_; intro A1 c1 w3 hown3 hgr3; have hp := clone_packA (vr := .slice A R.rows.length c) (ve := .slice B R.ents.length d) H.out hown3 hgr3; have HP := hid_ hp; have e6 : w3.cell? ⟨w.heap.size, 6, none⟩ = some (.slice B R.ents.length d) := hp.k0.cell' rfl; have e5 : w3.cell? ⟨w.heap.size, 5, none⟩ = some (.slice A R.rows.length c) := hp.k0.cell' rfl; have f5 := hp.k0.frozen 5; have l3 := hp.k0.lt; clear hown3 hgr3 hp)
    | (at_builtin; refine wpList_append_any _ rfl (.tmp 8) (.tmp 10) 37 rfl w.heap.size 139 j0 _ 2 24 Tryd.underlying37 Hj.out.1 Hj.out.2.1 Hj.out.2.2.1 Hj.out.2.2.2 rfl (by omega) (.slice (some ⟨w3.heap.size, 0, none⟩) 0 0) 0 [] rfl (own_empty_at _ _ _ _ _ (by simp; omega) (by simp)) B R.ents.length d (etFlat R.ents) rfl (HP.out.rd5 H.out) (etFlat_one _) (by simp only [maxLen]; omega) (by omega) (by simp; omega) ?_; intro A2 c2 w5 hown5 hgr5; have hp := clone_packB HP.out hown5 hgr5; have HQ := hid_ hp; have r0 : w5.cell? ⟨w.heap.size, 0, none⟩ = some (.int .i64 R.kind) := hp.k0.cell' rfl; have r1 : w5.cell? ⟨w.heap.size, 1, none⟩ = some (.string R.low) := hp.k0.cell' rfl; have r2 : w5.cell? ⟨w.heap.size, 2, none⟩ = some (.string R.high) := hp.k0.cell' rfl; have r3 : w5.cell? ⟨w.heap.size, 3, none⟩ = some (.bool R.unb) := hp.k0.cell' rfl; have r4 : w5.cell? ⟨w.heap.size, 4, none⟩ = some (.int .i64 R.right) := hp.k0.cell' rfl; have r5 : w5.cell? ⟨w.heap.size, 5, none⟩ = some (.slice A1 R.rows.length c1) := hp.k0.cell' rfl; have r6 : w5.cell? ⟨w.heap.size, 6, none⟩ = some (.slice B R.ents.length d) := hp.k0.cell' rfl; have r7 : w5.cell? ⟨w.heap.size, 7, none⟩ = some (.string R.key) := hp.k0.cell' rfl; have r8 : w5.cell? ⟨w.heap.size, 8, none⟩ = some (.string R.val) := hp.k0.cell' rfl; have r9 : w5.cell? ⟨w.heap.size, 9, none⟩ = some (.int .i64 R.page) := hp.k0.cell' rfl; have r10 : w5.cell? ⟨w.heap.size, 10, none⟩ = some (.int .i64 R.hpage) := hp.k0.cell' rfl; have r11 : w5.cell? ⟨w.heap.size, 11, none⟩ = some (.int .i64 R.hleft) := hp.k0.cell' rfl; have r12 : w5.cell? ⟨w.heap.size, 12, none⟩ = some (.string R.hkey) := hp.k0.cell' rfl; have r13 : w5.cell? ⟨w.heap.size, 13, none⟩ = some (.int .i64 R.nslot) := hp.k0.cell' rfl; have r14 : w5.cell? ⟨w.heap.size, 14, none⟩ = some (.int .i64 R.ngen) := hp.k0.cell' rfl; have fr6 := hp.k0.frozen 6; have s0 : w5.cell? ⟨w.heap.size + 1, 0, none⟩ = some (.int .i64 0) := hp.k1.cell' rfl; have s1 : w5.cell? ⟨w.heap.size + 1, 1, none⟩ = some (.string nilS) := hp.k1.cell' rfl; have s2 : w5.cell? ⟨w.heap.size + 1, 2, none⟩ = some (.string nilS) := hp.k1.cell' rfl; have s3 : w5.cell? ⟨w.heap.size + 1, 3, none⟩ = some (.bool false) := hp.k1.cell' rfl; have s4 : w5.cell? ⟨w.heap.size + 1, 4, none⟩ = some (.int .i64 0) := hp.k1.cell' rfl; have s5 : w5.cell? ⟨w.heap.size + 1, 5, none⟩ = some (.slice none 0 0) := hp.k1.cell' rfl; have s6 : w5.cell? ⟨w.heap.size + 1, 6, none⟩ = some (.slice none 0 0) := hp.k1.cell' rfl; have s7 : w5.cell? ⟨w.heap.size + 1, 7, none⟩ = some (.string nilS) := hp.k1.cell' rfl; have s8 : w5.cell? ⟨w.heap.size + 1, 8, none⟩ = some (.string nilS) := hp.k1.cell' rfl; have s9 : w5.cell? ⟨w.heap.size + 1, 9, none⟩ = some (.int .i64 0) := hp.k1.cell' rfl; have s10 : w5.cell? ⟨w.heap.size + 1, 10, none⟩ = some (.int .i64 0) := hp.k1.cell' rfl; have s11 : w5.cell? ⟨w.heap.size + 1, 11, none⟩ = some (.int .i64 0) := hp.k1.cell' rfl; have s12 : w5.cell? ⟨w.heap.size + 1, 12, none⟩ = some (.string nilS) := hp.k1.cell' rfl; have s13 : w5.cell? ⟨w.heap.size + 1, 13, none⟩ = some (.int .i64 0) := hp.k1.cell' rfl; have s14 : w5.cell? ⟨w.heap.size + 1, 14, none⟩ = some (.int .i64 0) := hp.k1.cell' rfl; have z0 := hp.k1.frozen 0; have z1 := hp.k1.frozen 1; have z2 := hp.k1.frozen 2; have z3 := hp.k1.frozen 3; have z4 := hp.k1.frozen 4; have z5 := hp.k1.frozen 5; have z6 := hp.k1.frozen 6; have z7 := hp.k1.frozen 7; have z8 := hp.k1.frozen 8; have z9 := hp.k1.frozen 9; have z10 := hp.k1.frozen 10; have z11 := hp.k1.frozen 11; have z12 := hp.k1.frozen 12; have z13 := hp.k1.frozen 13; have z14 := hp.k1.frozen 14; clear hown5 hgr5 hp))
  clear r0 s0 z0 r1 s1 z1 r2 s2 z2 r3 s3 z3 r4 s4 z4 r5 s5 z5 r6 s6 z6 r7 s7 z7 r8 s8 z8 r9 s9 z9 r10 s10 z10 r11 s11 z11 r12 s12 z12 r13 s13 z13 r14 s14 z14 fr6 e5 e6 f5
  have F6 := Fr.only1 w5 ⟨w.heap.size, 6, none⟩ (.slice A2 R.ents.length c2)
  have K1 := HQ.out.k1.fr F6 (only_ne (by simp))
  obtain ⟨qb, qf⟩ := box15 K1 (.int .i64 R.kind) (.string R.low) (.string R.high) (.bool R.unb) (.int .i64 R.right) (.slice A1 R.rows.length c1) (.slice A2 R.ents.length c2) (.string R.key) (.string R.val) (.int .i64 R.page) (.int .i64 R.hpage) (.int .i64 R.hleft) (.string R.hkey) (.int .i64 R.nslot) (.int .i64 R.ngen)
  have q0 := qb.cell' (i := 0) rfl
  have q1 := qb.cell' (i := 1) rfl
  have q2 := qb.cell' (i := 2) rfl
  have q3 := qb.cell' (i := 3) rfl
  have q4 := qb.cell' (i := 4) rfl
  have q5 := qb.cell' (i := 5) rfl
  have q6 := qb.cell' (i := 6) rfl
  have q7 := qb.cell' (i := 7) rfl
  have q8 := qb.cell' (i := 8) rfl
  have q9 := qb.cell' (i := 9) rfl
  have q10 := qb.cell' (i := 10) rfl
  have q11 := qb.cell' (i := 11) rfl
  have q12 := qb.cell' (i := 12) rfl
  have q13 := qb.cell' (i := 13) rfl
  have q14 := qb.cell' (i := 14) rfl
  have O1 := own_fr (own_fr HQ.out.o1 F6 (fun k hk e => own_blk_ne HQ.out.o1 HQ.out.k0 (by decide) (by rw [hk, show k = w.heap.size from e]))) qf (fun k hk e => own_blk_ne HQ.out.o1 HQ.out.k1 (by decide) (by rw [hk, show k = w.heap.size + 1 from e]))
  have O2 := own_fr (own_fr HQ.out.o2 F6 (fun k hk e => own_blk_ne HQ.out.o2 HQ.out.k0 (by decide) (by rw [hk, show k = w.heap.size from e]))) qf (fun k hk e => own_blk_ne HQ.out.o2 HQ.out.k1 (by decide) (by rw [hk, show k = w.heap.size + 1 from e]))
  have G := (HQ.out.f5.then_only F6 (.inr (Nat.le_refl _))).then_only qf (.inr (by omega))
  clear K1 F6 qb qf
  refine bodyPost_ret (v := recV R (.slice A1 R.rows.length c1) (.slice A2 R.ents.length c2)) ?_ rfl ⟨A1, c1, A2, c2, rfl, ⟨O1, O2⟩, G⟩
  simp [results, Tryd.results53, go_sem, q0, q1, q2, q3, q4, q5, q6, q7, q8, q9, q10, q11, q12, q13, q14]
end Go.Proofs.YtfihfjbakfadkaaDoor
namespace Go.Proofs.YtfihfjbakfadkaaDoor
open Go.RowKit Go.BigFrame
set_option maxRecDepth 100000
set_option linter.unusedVariables false

def recFlat (L : List Ch) : List Value := (L.map recL).flatten
theorem recFlat_app (L M : List Ch) : recFlat (L ++ M) = recFlat L ++ recFlat M := by simp [recFlat]
theorem recFlat_get : ∀ (L : List Ch) (i : Nat) (C : Ch), L[i]? = some C → ∀ (j : Nat) (v : Value), (recL C)[j]? = some v → (recFlat L)[i * 15 + j]? = some v
  | [], i, C, h, _, _, _ => by simp at h
  | q :: L, 0, C, h, j, v, hv => by
    obtain rfl : q = C := by simpa using h
    have hj : j < (recL q).length := (List.getElem?_eq_some_iff.1 hv).1
    show (recL q ++ recFlat L)[0 * 15 + j]? = some v
    rw [show 0 * 15 + j = j by omega, List.getElem?_append_left hj]
    exact hv
  | q :: L, i + 1, C, h, j, v, hv => by
    have := recFlat_get L i C (by simpa using h) j v hv
    show (recL q ++ recFlat L)[(i + 1) * 15 + j]? = some v
    rw [List.getElem?_append_right (by simp; omega)]
    simp only [List.length_cons, List.length_nil]
    rw [show (i + 1) * 15 + j - (0 + 1 + 1 + 1 + 1 + 1 + 1 + 1 + 1 + 1 + 1 + 1 + 1 + 1 + 1 + 1) = i * 15 + j by omega]
    exact this
theorem record_info : (Tryd.prog.info? 41).map (fun i => (i.zero, i.size, i.bytes)) = some (some (.agg recZ8), 15, 192) := by kernel_rfl
/-- A record of the call's own. -/
structure ChOwn (w : World) (C : Ch) : Prop where
  own : RecOwn w 0 C.R (.slice C.A C.R.rows.length C.c) (.slice C.B C.R.ents.length C.d)
  low : SzOk C.R.low
  high : SzOk C.R.high
  key : SzOk C.R.key
  hkey : SzOk C.R.hkey
  ents : EtsOk C.R.ents
theorem ChOwn.ok {w : World} {C : Ch} (h : ChOwn w C) : ChOk w C := by
  obtain ⟨A', c', e, h1, h2, _⟩ := own_parts h.own.e
  have e1 : C.B = A' ∧ C.d = c' := by injection e with e1 e2 e3; exact ⟨e1, e3⟩
  exact ⟨h.own.reads, h.low, h.high, h.key, h.hkey, h.ents, by rw [e1.2]; exact h1, by rw [e1.2]; exact h2⟩
theorem ChOwn.keep {w w' : World} {C : Ch} (h : ChOwn w C) (hf : Fr none_ w w') : ChOwn w' C := ⟨h.own.keep hf, h.low, h.high, h.key, h.hkey, h.ents⟩
theorem ChOwn.beside {w w' : World} {C : Ch} (h : ChOwn w C) {base n : Nat} {v : Value} {xs : List Value} (ho : w.ownsRow base 41 15 v n xs) (hg : w.grownBy w' v.ownBlock) : ChOwn w' C := by
  refine ⟨?_, h.low, h.high, h.key, h.hkey, h.ents⟩
  have hf : Fr (fun k => v.ownBlock = some k) w w' := (Fr.refl _ w).grown hg (fun k hk => .inl hk)
  exact h.own.fr hf (fun k hk e => own_own_ne h.own.r ho (by decide) k hk e) (fun k hk e => own_own_ne h.own.e ho (by decide) k hk e)
/-- A row of records of the call's own, read as a chain. -/
theorem chReads_own {w : World} {base n c : Nat} {A : Option Addr} {Cs : List Ch} (ho : w.ownsRow base 41 15 (.slice A n c) n (recFlat Cs)) (hn : Cs.length = n) (hc : ∀ C ∈ Cs, ChOk w C) : ChReads w A n Cs := by
  refine ⟨hn, fun h0 => ?_⟩
  obtain ⟨A', c', e, _, _, hp⟩ := own_parts ho
  have e1 : A = A' := by injection e
  obtain ⟨g, hg, hl, hcell⟩ := hp h0
  refine ⟨g, 0, by rw [e1, hg], hl, fun k C hC => ⟨fun j v hv => ?_, hc C (List.mem_of_getElem? hC)⟩⟩
  have := hcell (k * 15 + j) v (recFlat_get Cs k C hC j v hv)
  rw [Nat.zero_add]
  exact this
end Go.Proofs.YtfihfjbakfadkaaDoor
namespace Go.Proofs.YtfihfjbakfadkaaDoor
open Go.RowKit
set_option linter.unusedVariables false
section
variable {P : Program} {fn : Func} (tmps : Array Value) (w : World)
/-- A function's results that lie in boxes, read whole. -/
theorem results_cell7 {t : Tmp} {ty : TypeId} (h : fn.results = #[.cell t ty]) (b o : Nat) (cs : List Value) (d : TypeDesc) (ha : tmps.getD t undef = .pointer (some ⟨b, o, none⟩)) (hc : w.rangeAt b o cs)
    (hu : P.underlying ty = some d) (hd : d.isRow = true) (hi : (P.info? ty).map (·.size) = some cs.length) : (results fn tmps).run P w = .ok (.agg cs.toArray) w := by
  have hl := run_loadVar_mid (P := P) w b o ty cs d hc hu hd hi
  have ha' : tmps[t]?.getD undef = .pointer (some ⟨b, o, none⟩) := by simpa using ha
  simp [results, h, ha', asAddr, hl]
theorem results_cell_tmp7 {t s : Tmp} {ty : TypeId} (h : fn.results = #[.cell t ty, .tmp s]) (b o : Nat) (cs : List Value) (d : TypeDesc) (ha : tmps.getD t undef = .pointer (some ⟨b, o, none⟩)) (hc : w.rangeAt b o cs)
    (hu : P.underlying ty = some d) (hd : d.isRow = true) (hi : (P.info? ty).map (·.size) = some cs.length) : (results fn tmps).run P w = .ok (.tuple #[.agg cs.toArray, tmps.getD s undef]) w := by
  have hl := run_loadVar_mid (P := P) w b o ty cs d hc hu hd hi
  have ha' : tmps[t]?.getD undef = .pointer (some ⟨b, o, none⟩) := by simpa using ha
  simp [results, h, ha', asAddr, hl]
end
end Go.Proofs.YtfihfjbakfadkaaDoor
namespace Go.Proofs.YtfihfjbakfadkaaDoor
open Go.RowKit Go.BigFrame
set_option maxRecDepth 100000
set_option linter.unusedVariables false

abbrev pgA (n hs hg : Int) (vc vr : Value) (leaf : Bool) (lv : Lw) (sl : Value) (iv : Vw) (si : Value) : Array Value := #[.int .i64 n, .int .i64 hs, .int .i64 hg, vc, vr, .bool leaf, .string lv.low, .string lv.high, .bool lv.unb, .int .i64 lv.right, sl, .bool lv.gone, .string iv.low, .string iv.high, .bool iv.unb, .int .i64 iv.right, si, .bool iv.held, .int .i64 iv.hp, .int .i64 iv.hl, .string iv.hk]
abbrev pgZ : Array Value := #[.int .i64 0, .int .i64 0, .int .i64 0, .slice none 0 0, .slice none 0 0, .bool false, .string ⟨#[]⟩, .string ⟨#[]⟩, .bool false, .int .i64 0, .slice none 0 0, .bool false, .string ⟨#[]⟩, .string ⟨#[]⟩, .bool false, .int .i64 0, .slice none 0 0, .bool false, .int .i64 0, .int .i64 0, .string ⟨#[]⟩]
theorem page_size : (Tryd.prog.info? 83).map (·.size) = some 21 := by kernel_rfl
theorem pref_info : (Tryd.prog.info? 25).map (fun i => (i.zero, i.size, i.bytes)) = some (some (.agg #[.int .i64 0, .int .i64 0]), 2, 16) := by kernel_rfl
/-- A row of refs, flat. -/
def rpFlat (L : List (Int × Int)) : List Value := (L.map fun p => [.int .i64 p.1, .int .i64 p.2]).flatten
theorem rpFlat_one (L : List (Int × Int)) : ∀ u ∈ rpFlat L, u.oneCell' = true := by
  intro u hu
  simp only [rpFlat, List.mem_flatten, List.mem_map] at hu
  obtain ⟨l, ⟨p, _, rfl⟩, hu⟩ := hu
  simp only [List.mem_cons, List.not_mem_nil, or_false] at hu
  rcases hu with rfl | rfl <;> rfl
theorem upM_kind {V V' : Vw} {R : Rc} (h : upM V R = some V') : KindOk R := by
  unfold upM at h
  unfold KindOk
  split at h
  · omega
  split at h
  · omega
  split at h
  · omega
  split at h
  · omega
  · cases h
theorem foldU_kind : ∀ {l : List Rc} {V : Vw}, foldU l = some V → ∀ R ∈ l, KindOk R
  | [], V, h, R, hR => by cases hR
  | [b], V, h, R, hR => by
    obtain rfl : R = b := by simpa using hR
    unfold foldU at h
    split at h
    · rename_i hb; unfold KindOk; omega
    · cases h
  | r :: s :: t, V, h, R, hR => by
    rw [foldU_cons _ (by simp)] at h
    cases hf : foldU (s :: t) with
    | none => rw [hf] at h; cases h
    | some V0 =>
      rw [hf] at h
      rcases List.mem_cons.1 hR with rfl | hR
      · exact upM_kind h
      · exact foldU_kind hf R hR
theorem foldU_no {l : List Rc} (h : (∀ R ∈ l, KindOk R) → foldU l = none) : foldU l = none := by
  cases hf : foldU l with
  | none => rfl
  | some V => rw [h (foldU_kind hf)] at hf; cases hf
theorem upL_kind {V V' : Lw} {R : Rc} (h : upL V R = some V') : KindL R := by
  unfold upL at h
  unfold KindL
  split at h
  · cases h
  split at h
  · omega
  split at h
  · omega
  split at h
  · omega
  split at h
  · omega
  split at h
  · omega
  · cases h
theorem foldL_kind : ∀ {l : List Rc} {V : Lw}, foldL l = some V → ∀ R ∈ l, KindL R
  | [], V, h, R, hR => by cases hR
  | [b], V, h, R, hR => by
    obtain rfl : R = b := by simpa using hR
    unfold foldL at h
    split at h
    · rename_i hb; unfold KindL; omega
    · cases h
  | r :: s :: t, V, h, R, hR => by
    rw [foldL_cons _ (by simp)] at h
    cases hf : foldL (s :: t) with
    | none => rw [hf] at h; cases h
    | some V0 =>
      rw [hf] at h
      rcases List.mem_cons.1 hR with rfl | hR
      · exact upL_kind h
      · exact foldL_kind hf R hR
theorem foldL_bad {l : List Rc} (h : ∃ R ∈ l, ¬ KindL R) : foldL l = none := by
  obtain ⟨R, hR, hn⟩ := h
  cases hf : foldL l with
  | none => rfl
  | some V => exact absurd (foldL_kind hf R hR) hn
theorem LwIn.base {b0 b : Nat} {w : World} {V : Lw} {A : Option Addr} {c : Nat} (h : LwIn b w V A c) (hb : b0 ≤ b) : LwIn b0 w V A c := ⟨own_base h.own hb, h.ok⟩
def leafB (l : List Rc) : Bool := match l[l.length - 1]? with
  | some R => decide (R.kind = 1)
  | none => false
/-- What a chain's page is: is it a leaf, and its views. -/
noncomputable def ofM (l : List Rc) : Option (Bool × Lw × Vw) :=
  if leafB l then (foldL l).map fun v => (true, v, Vw.zero) else (foldU l).map fun v => (false, Lw.zero, v)
/-- A page that Of told. -/
structure PgIn (b0 : Nat) (w : World) (L : List Rc) (refs : List (Int × Int)) (lv : Lw) (iv : Vw) (A : Option Addr) (c : Nat) (B : Option Addr) (d : Nat) (C : Option Addr) (x : Nat) (D : Option Addr) (y : Nat) : Prop where
  lv : LwIn b0 w lv A c
  iv : VwIn w iv B d
  ch : ∃ Cs : List Ch, Cs.map (·.R) = L ∧ w.ownsRow b0 41 15 (.slice C L.length x) L.length (recFlat Cs) ∧ ∀ E ∈ Cs, ChOwn w E
  rf : w.ownsRow b0 25 2 (.slice D refs.length y) refs.length (rpFlat refs)
theorem ChOwn.only {w w' : World} {C : Ch} {g : Nat} {t : TypeId} {cs : Array Value} (h : ChOwn w C) (hf : Fr (only g) w w') (hg : Blk w g t cs) (h1 : 137 ≠ t) (h2 : 139 ≠ t) : ChOwn w' C := ⟨h.own.only hf hg h1 h2, h.low, h.high, h.key, h.hkey, h.ents⟩
/-- A page's box is none of its entries' rows: no text stands ahead of a number in it. -/
theorem VwIn.farP {w w' : World} {V : Vw} {A : Option Addr} {c X : Nat} {n hs hg : Int} {vc vr sl si : Value} {leaf : Bool} {lv : Lw} {iv : Vw} (h : VwIn w V A c) (hX : Blk w X 83 (pgA n hs hg vc vr leaf lv sl iv si)) (hsl : ∃ A n c, sl = .slice A n c) (hsi : ∃ A n c, si = .slice A n c) (hvr : ∃ A n c, vr = .slice A n c) (hf : Fr (only X) w w') : VwIn w' V A c := by
  refine ⟨?_, h.cap, h.capm, h.ok⟩
  rcases Nat.eq_zero_or_pos V.ents.length with h0 | h0
  · exact ⟨h.rd.1, fun hn => absurd hn (by omega)⟩
  · obtain ⟨p, hp⟩ : ∃ p, V.ents[0]? = some p := ⟨_, List.getElem?_eq_getElem h0⟩
    obtain ⟨b, off, rfl, hb, c0, c1⟩ := et_at h.rd hp
    refine h.rd.fr hf (fun ad e => ?_)
    cases e
    intro e
    have e' : b = X := e
    subst e'
    rw [hX.cell] at c0 c1
    simp only [Nat.zero_mul, Nat.add_zero] at c0 c1
    obtain ⟨_, _, _, rfl⟩ := hsl
    obtain ⟨_, _, _, rfl⟩ := hsi
    obtain ⟨_, _, _, rfl⟩ := hvr
    match off, c0, c1 with
    | 0, c0, c1 => simp at c0
    | 1, c0, c1 => simp at c0
    | 2, c0, c1 => simp at c0
    | 3, c0, c1 => simp at c1
    | 4, c0, c1 => simp at c0
    | 5, c0, c1 => simp at c0
    | 6, c0, c1 => simp at c1
    | 7, c0, c1 => simp at c1
    | 8, c0, c1 => simp at c0
    | 9, c0, c1 => simp at c0
    | 10, c0, c1 => simp at c0
    | 11, c0, c1 => simp at c0
    | 12, c0, c1 => simp at c1
    | 13, c0, c1 => simp at c1
    | 14, c0, c1 => simp at c0
    | 15, c0, c1 => simp at c0
    | 16, c0, c1 => simp at c0
    | 17, c0, c1 => simp at c0
    | 18, c0, c1 => simp at c0
    | 19, c0, c1 => simp at c0
    | 20, c0, c1 => simp at c1
    | k + 21, c0, c1 => simp at c0
/-- .. kept where a page's box was turned. -/
theorem PgIn.far {b0 : Nat} {w w' : World} {L : List Rc} {refs : List (Int × Int)} {lv : Lw} {iv : Vw} {A : Option Addr} {c : Nat} {B : Option Addr} {d : Nat} {C : Option Addr} {x : Nat} {D : Option Addr} {y X : Nat} {n hs hg : Int} {vc vr sl si : Value} {leaf : Bool} {lv' : Lw} {iv' : Vw} (h : PgIn b0 w L refs lv iv A c B d C x D y) (hX : Blk w X 83 (pgA n hs hg vc vr leaf lv' sl iv' si)) (hsl : ∃ A n c, sl = .slice A n c) (hsi : ∃ A n c, si = .slice A n c) (hvr : ∃ A n c, vr = .slice A n c) (hf : Fr (only X) w w') : PgIn b0 w' L refs lv iv A c B d C x D y := by
  obtain ⟨Cs, h1, h2, h3⟩ := h.ch
  refine ⟨h.lv.far hX (by decide) hf, h.iv.farP hX hsl hsi hvr hf, ⟨Cs, h1, own_fr h2 hf (fun k hk e => own_blk_ne h2 hX (by decide) (by rw [hk, show k = X from e])), fun E hE => (h3 E hE).only hf hX (by decide) (by decide)⟩, own_fr h.rf hf (fun k hk e => own_blk_ne h.rf hX (by decide) (by rw [hk, show k = X from e]))⟩
theorem LwIn.zero (b0 : Nat) (w : World) : LwIn b0 w Lw.zero none 0 := ⟨World.ownsRow_nil _ _ _ _, ⟨SzOk.nil, SzOk.nil, by show (0:Nat) ≤ 300000; omega, fun p hp => by simp [Lw.zero] at hp⟩⟩
theorem VwIn.zero (w : World) : VwIn w Vw.zero none 0 := ⟨Reads.nil_, Nat.le_refl _, by simp, ⟨SzOk.nil, SzOk.nil, SzOk.nil, ⟨by show (0:Nat) ≤ 1000; omega, fun p hp => by simp [Vw.zero] at hp⟩⟩⟩
/-- The page in its box, with the chain up to k. -/
structure OfSt (n hs hg : Int) (L : List Ch) (refs : List (Int × Int)) (w : World) (X k : Nat) (wr : World) : Prop where
  st : ∃ (vc vr : Value) (Cs : List Ch), Cs.length = k ∧ Cs.map (·.R) = (L.take k).map (·.R) ∧ Blk wr X 83 (pgA n hs hg vc vr false Lw.zero (.slice none 0 0) Vw.zero (.slice none 0 0)) ∧ wr.ownsRow w.heap.size 41 15 vc k (recFlat Cs) ∧ (∀ C ∈ Cs, ChOwn wr C) ∧ wr.ownsRow w.heap.size 25 2 vr refs.length (rpFlat refs)
  bo : Blk wr (w.heap.size + 1) 83 pgZ
  fr : Fr none_ w wr
theorem OfSt.keep {n hs hg : Int} {L : List Ch} {refs : List (Int × Int)} {w w1 w2 : World} {X k : Nat} (h : OfSt n hs hg L refs w X k w1) (hf : Fr none_ w1 w2) : OfSt n hs hg L refs w X k w2 := by
  obtain ⟨vc, vr, Cs, h1, h2, h3, h4, h5, h6⟩ := h.st
  exact ⟨⟨vc, vr, Cs, h1, h2, h3.fr hf id, own_none h4 hf, fun C hC => (h5 C hC).keep hf, own_none h6 hf⟩, h.bo.fr hf id, h.fr.then_none hf⟩
end Go.Proofs.YtfihfjbakfadkaaDoor
namespace Go.Proofs.YtfihfjbakfadkaaDoor
open Go.RowKit Go.BigFrame
set_option maxRecDepth 100000
set_option linter.unusedVariables false

/-- No entry behind the first, ahead of k, is of that page. -/
def NB (V : Vw) (page : Int) (k : Nat) : Prop := ∀ (j : Nat) (p : Et), 1 ≤ j → j < k → V.ents[j]? = some p → p.2 ≠ page
theorem NB.one (V : Vw) (page : Int) {k : Nat} (h : k ≤ 1) : NB V page k := fun j p h1 h2 _ => by omega
def HoldIs (V : Vw) (page : Int) (o : Option (Int × Int × ByteArray)) : Prop :=
  (NB V page V.ents.length ∧ o = none) ∨ ∃ (i : Nat) (l q : Et), V.ents[i]? = some l ∧ V.ents[i + 1]? = some q ∧ q.2 = page ∧ NB V page (i + 1) ∧ o = some (q.2, l.2, q.1)
theorem HoldIs.uniq {V : Vw} {page : Int} {o o' : Option (Int × Int × ByteArray)} (h : HoldIs V page o) (h' : HoldIs V page o') : o = o' := by
  rcases h with ⟨hn, rfl⟩ | ⟨i, l, q, h1, h2, h3, h4, rfl⟩
  · rcases h' with ⟨_, rfl⟩ | ⟨i, l, q, h1, h2, h3, h4, rfl⟩
    · rfl
    · exact absurd h3 (hn (i + 1) q (by omega) (List.getElem?_eq_some_iff.1 h2).1 h2)
  · rcases h' with ⟨hn, rfl⟩ | ⟨j, l', q', g1, g2, g3, g4, rfl⟩
    · exact absurd h3 (hn (i + 1) q (by omega) (List.getElem?_eq_some_iff.1 h2).1 h2)
    · have hij : i = j := by
        rcases Nat.lt_trichotomy i j with h | h | h
        · exact absurd h3 (g4 (i + 1) q (by omega) (by omega) h2)
        · exact h
        · exact absurd g3 (h4 (j + 1) q' (by omega) (by omega) g2)
      subst hij
      obtain rfl := Option.some.inj (h1.symm.trans g1)
      obtain rfl := Option.some.inj (h2.symm.trans g2)
      rfl
end Go.Proofs.YtfihfjbakfadkaaDoor
namespace Go.Proofs.YtfihfjbakfadkaaDoor
open Go.RowKit Go.BigFrame
set_option maxRecDepth 100000
set_option linter.unusedVariables false

/-- A page as a value. -/
structure Pz where
  n : Int
  hs : Int
  hg : Int
  C : Option Addr
  nc : Nat
  x : Nat
  vr : Value
  leaf : Bool
  lv : Lw
  A : Option Addr
  c : Nat
  iv : Vw
  B : Option Addr
  d : Nat
abbrev pzA (P : Pz) : Array Value := pgA P.n P.hs P.hg (.slice P.C P.nc P.x) P.vr P.leaf P.lv (.slice P.A P.lv.rows.length P.c) P.iv (.slice P.B P.iv.ents.length P.d)
structure PzOk (w : World) (P : Pz) : Prop where
  low : SzOk P.lv.low
  high : SzOk P.lv.high
  rows : P.lv.rows.length ≤ 300000
  iv : VwIn w P.iv P.B P.d
  nc : P.nc ≤ 4000
theorem PzOk.keep {w w' : World} {P : Pz} (h : PzOk w P) (hf : Fr none_ w w') : PzOk w' P := ⟨h.low, h.high, h.rows, h.iv.keep hf, h.nc⟩
def Pz.low (P : Pz) : ByteArray := if P.leaf then P.lv.low else P.iv.low
def Pz.high (P : Pz) : ByteArray := if P.leaf then P.lv.high else P.iv.high
def Pz.unb (P : Pz) : Bool := if P.leaf then P.lv.unb else P.iv.unb
def Pz.right (P : Pz) : Int := if P.leaf then P.lv.right else P.iv.right
def Pz.size (P : Pz) : Nat := P.lv.rows.length + P.iv.ents.length
theorem results_tmp4 {fn : Func} {t u v x : Tmp} (h : fn.results = #[.tmp t, .tmp u, .tmp v, .tmp x]) (tmps : Array Value) (P : Program) (w : World) :
    (results fn tmps).run P w = .ok (.tuple #[tmps.getD t undef, tmps.getD u undef, tmps.getD v undef, tmps.getD x undef]) w := by
  simp [results, h]
abbrev RetQ (v : Value) (w : World) (e : Ending) (w' : World) : Prop := e = .returned v ∧ Fr none_ w w'
set_option maxHeartbeats 4000000 in
theorem bounds_ok (P : Pz) (w : World) : Calls Tryd.prog 69 #[.agg (pzA P)] w (RetQ (.tuple #[.string P.low, .string P.high, .bool P.unb, .int .i64 P.right]) w) := by
  obtain ⟨w0, hw0⟩ : ∃ z, z = w.alloc (.cells (pzA P) 83) := ⟨_, rfl⟩
  have f0 : Fr none_ w w0 := by rw [hw0]; exact (Fr.refl none_ w).alloc _
  have B0 : Hid (Blk w0 w.heap.size 83 (pzA P)) := hid_ (by rw [hw0]; exact Blk.new w _ _)
  have F0 := hid_ f0
  clear f0
  go_enter Tryd.func69, Tryd.ntmps69
  go_upto_region 1 with fail
  change Code.wp _ _ _ _ (w.alloc (.cells (pzA P) 83))
  rw [← hw0]
  clear hw0
  have p5 : w0.cell? ⟨w.heap.size, 5, none⟩ = some (.bool P.leaf) := B0.out.cell' rfl
  have p6 : w0.cell? ⟨w.heap.size, 6, none⟩ = some (.string P.lv.low) := B0.out.cell' rfl
  have p7 : w0.cell? ⟨w.heap.size, 7, none⟩ = some (.string P.lv.high) := B0.out.cell' rfl
  have p8 : w0.cell? ⟨w.heap.size, 8, none⟩ = some (.bool P.lv.unb) := B0.out.cell' rfl
  have p9 : w0.cell? ⟨w.heap.size, 9, none⟩ = some (.int .i64 P.lv.right) := B0.out.cell' rfl
  have p12 : w0.cell? ⟨w.heap.size, 12, none⟩ = some (.string P.iv.low) := B0.out.cell' rfl
  have p13 : w0.cell? ⟨w.heap.size, 13, none⟩ = some (.string P.iv.high) := B0.out.cell' rfl
  have p14 : w0.cell? ⟨w.heap.size, 14, none⟩ = some (.bool P.iv.unb) := B0.out.cell' rfl
  have p15 : w0.cell? ⟨w.heap.size, 15, none⟩ = some (.int .i64 P.iv.right) := B0.out.cell' rfl
  cases hl : P.leaf with
  | true =>
    rw [hl] at p5
    have HL := hid_ hl
    clear hl
    go_wp2_with fail
    go_quiet (fail)
    go_wp2
    (try simp only [Exit.inBlock, Exit.then])
    refine bodyPost_ret (results_tmp4 rfl _ _ _) rfl ?_
    exact ⟨by simp [Pz.low, Pz.high, Pz.unb, Pz.right, HL.out], by repeat (first | exact F0.out | apply Fr.drewN | apply Fr.drew)⟩
  | false =>
    rw [hl] at p5
    have HL := hid_ hl
    clear hl
    go_wp2_with fail
    go_quiet (fail)
    go_wp2
    (try simp only [Exit.inBlock, Exit.then])
    refine bodyPost_ret (results_tmp4 rfl _ _ _) rfl ?_
    exact ⟨by simp [Pz.low, Pz.high, Pz.unb, Pz.right, HL.out], by repeat (first | exact F0.out | apply Fr.drewN | apply Fr.drew)⟩
set_option maxHeartbeats 4000000 in
theorem phas_ok (P : Pz) (key : ByteArray) (w : World) (h1 : SzOk P.low) (h2 : SzOk P.high) (h3 : SzOk key) : Calls Tryd.prog 51 #[.agg (pzA P), .string key] w (RetQ (.bool (inS P.low P.high P.unb key)) w) := by
  obtain ⟨w0, hw0⟩ : ∃ z, z = w.alloc (.cells (pzA P) 83) := ⟨_, rfl⟩
  have f0 : Fr none_ w w0 := by rw [hw0]; exact (Fr.refl none_ w).alloc _
  have B0 : Hid (Blk w0 w.heap.size 83 (pzA P)) := hid_ (by rw [hw0]; exact Blk.new w _ _)
  have F0 := hid_ f0
  have HS := hid_ (And.intro h1 (And.intro h2 h3))
  clear f0 h1 h2 h3
  go_enter Tryd.func51, Tryd.ntmps51
  go_upto_region 1 with fail
  change Code.wp _ _ _ _ (w.alloc (.cells (pzA P) 83))
  rw [← hw0]
  clear hw0
  go_wp2_with (refine wpList_load_mid rfl 83 (.tmp 2) rfl w.heap.size 0 rfl (pzA P).toList _ (Blk.range7 (l := (pzA P).toList) B0.out) Tryd.underlying83 rfl page_size ?_)
  refine (bounds_ok P w0).mono ?_
  rintro e w1 ⟨rfl, hf⟩
  replace F0 := hid_ (F0.out.then_none hf)
  clear hf
  go_wp2_with fail
  refine (in_ok P.low P.high P.unb key _ HS.out.1.le HS.out.2.1.le HS.out.2.2.le).mono ?_
  rintro e w2 ⟨rfl, q, rfl⟩
  go_wp2
  go_ret
  exact ⟨rfl, F0.out.drewN q⟩
set_option maxHeartbeats 4000000 in
theorem psize_ok (P : Pz) (w : World) (h1 : P.lv.rows.length ≤ 300000) (h2 : P.iv.ents.length ≤ 1000) : Calls Tryd.prog 25 #[.agg (pzA P)] w (RetQ (.int .i64 (P.size : Nat)) w) := by
  obtain ⟨w0, hw0⟩ : ∃ z, z = w.alloc (.cells (pzA P) 83) := ⟨_, rfl⟩
  have f0 : Fr none_ w w0 := by rw [hw0]; exact (Fr.refl none_ w).alloc _
  have B0 : Hid (Blk w0 w.heap.size 83 (pzA P)) := hid_ (by rw [hw0]; exact Blk.new w _ _)
  have F0 := hid_ f0
  clear f0
  go_enter Tryd.func25, Tryd.ntmps25
  go_upto_region 1 with fail
  change Code.wp _ _ _ _ (w.alloc (.cells (pzA P) 83))
  rw [← hw0]
  clear hw0
  have p10 : w0.cell? ⟨w.heap.size, 10, none⟩ = some (.slice P.A P.lv.rows.length P.c) := B0.out.cell' rfl
  have p16 : w0.cell? ⟨w.heap.size, 16, none⟩ = some (.slice P.B P.iv.ents.length P.d) := B0.out.cell' rfl
  have hsum : (P.lv.rows.length : Int) + (P.iv.ents.length : Int) = ((P.size : Nat) : Int) := by unfold Pz.size; omega
  have hw1 : IntKind.i64.wrap ((P.lv.rows.length : Int) + (P.iv.ents.length : Int)) = ((P.size : Nat) : Int) := by rw [hsum]; exact IntWalk.i64_in _ (by unfold Pz.size; omega)
  have HW := hid_ hw1
  go_wp2
  go_ret
  refine ⟨?_, F0.out⟩
  first | rfl | (simp only [Pz.size, Int.natCast_add]; rfl)
end Go.Proofs.YtfihfjbakfadkaaDoor
namespace Go.Proofs.YtfihfjbakfadkaaDoor
open Go.RowKit Go.BigFrame
set_option maxRecDepth 100000
set_option linter.unusedVariables false

structure L6 where
  a0 : Int
  a1 : Int
  a2 : Int
  rows : Int
  chain : Int
  a5 : Int
end Go.Proofs.YtfihfjbakfadkaaDoor
namespace Go.Proofs.YtfihfjbakfadkaaDoor
open Go.RowKit Go.BigFrame
set_option maxRecDepth 100000
set_option linter.unusedVariables false

/-- A guarded load of a whole struct. -/
theorem wpList_load_midG {P : Program} {ops : Array Oper} {rest : List Oper} {op : Oper} {a : Act} {w : World} {Q : Exit → Act → World → Prop} (hw : Region.wanted op (yielded ops a.tmps) = true) (ty : TypeId) (x : Operand) (ho : op.op = .load ty x)
    (b o : Nat) (hx : a.eval x = .pointer (some ⟨b, o, none⟩)) (cs : List Value) (d : TypeDesc) (hc : w.rangeAt b o cs)
    (hu : P.underlying ty = some d) (hd : d.isRow = true) (hi : (P.info? ty).map (·.size) = some cs.length)
    (h : wpList P ops Q rest (a.put op.dst (.agg cs.toArray)) w) : wpList P ops Q (op :: rest) a w := by
  unfold wpList
  rw [if_pos hw]
  exact .inl (wp_load_mid ty x ho b o hx cs d hc hu hd hi h)
end Go.Proofs.YtfihfjbakfadkaaDoor
namespace Go.Proofs.YtfihfjbakfadkaaDoor
open Go.RowKit Go.BigFrame Go.ChangeShapes Go.WideShapes
set_option maxRecDepth 100000
set_option linter.unusedVariables false

set_option maxHeartbeats 1000000 in
theorem ins_of2 {H : Type} {enc : TypeId × Value → H} {w : World} {A : Option Addr} {n : Nat} (h : RecordAt enc w A n) : ∃ L, InReads w A n L ∧ RwIn L := by
  rcases Nat.eq_zero_or_pos n with h0 | h0
  · subst h0; exact ⟨[], ⟨rfl, fun h => absurd h (by omega)⟩, fun C hC => by simp at hC⟩
  · obtain ⟨b, off, hA, hb, hc⟩ := h h0
    obtain ⟨L, hl, hL⟩ := choose_list (α := Ch) (P := fun k C => (w.rangeAt b (off + k * 15) (recL C) ∧ ChIn w C) ∧ (SzOk C.R.val ∧ ∀ p ∈ C.R.rows, SzOk p.1 ∧ SzOk p.2)) n (fun k hk => by
      obtain ⟨x0, x1, x2, x3, x4, x5, x6, x7, x8, x9, x10, x11, x12, x13, x14, w0, w1, w2, w4, w5, w6, w7, w8, w9, w10, w11, w12, w13, w14, h0, h1, h2, h3, h4, h5, h6, h7, h8, h9, h10, h11, h12, h13, h14⟩ := hc k hk
      obtain ⟨A5, n5, c5, L5, rfl, q1, q2, r5⟩ := rows_conf2 w5
      obtain ⟨A6, n6, c6, L6, rfl, p1, p2, -, r6⟩ := ents_conf w6
      have ks : ∀ p ∈ L6, SzOk p.1 := fun p hp => by
        obtain ⟨j, hj⟩ := List.mem_iff_getElem?.1 hp
        obtain ⟨_, _, _, _, hc⟩ := r6.2 (by have := (List.getElem?_eq_some_iff.1 hj).1; have := r6.1; omega)
        exact szOk_of (hc j p hj).1.1
      have kr : ∀ p ∈ L5, SzOk p.1 ∧ SzOk p.2 := fun p hp => by
        obtain ⟨j, hj⟩ := List.mem_iff_getElem?.1 hp
        obtain ⟨_, _, _, _, hc⟩ := r5.2 (by have := (List.getElem?_eq_some_iff.1 hj).1; have := r5.1; omega)
        exact ⟨szOk_of (hc j p hj).1.1, szOk_of (hc j p hj).1.2⟩
      obtain rfl := r5.1
      obtain rfl := r6.1
      refine ⟨⟨⟨x0, x1, x2, x3, x4, L5, L6, x7, x8, x9, x10, x11, x12, x13, x14⟩, A5, c5, A6, c6⟩, ⟨fun j v hv => ?_, ⟨r5.reads, r6.reads⟩, szOk_of w1, szOk_of w2, szOk_of w7, szOk_of w12, ks, p1, p2, by show L5.length ≤ _; omega⟩, szOk_of w8, kr⟩
      match j, hv with
      | 0, hv => have e : some (.int .i64 x0) = some v := hv; rw [← Option.some.inj e]; exact h0
      | 1, hv => have e : some (.string x1) = some v := hv; rw [← Option.some.inj e]; exact h1
      | 2, hv => have e : some (.string x2) = some v := hv; rw [← Option.some.inj e]; exact h2
      | 3, hv => have e : some (.bool x3) = some v := hv; rw [← Option.some.inj e]; exact h3
      | 4, hv => have e : some (.int .i64 x4) = some v := hv; rw [← Option.some.inj e]; exact h4
      | 5, hv => have e : some (.slice A5 L5.length c5) = some v := hv; rw [← Option.some.inj e]; exact h5
      | 6, hv => have e : some (.slice A6 L6.length c6) = some v := hv; rw [← Option.some.inj e]; exact h6
      | 7, hv => have e : some (.string x7) = some v := hv; rw [← Option.some.inj e]; exact h7
      | 8, hv => have e : some (.string x8) = some v := hv; rw [← Option.some.inj e]; exact h8
      | 9, hv => have e : some (.int .i64 x9) = some v := hv; rw [← Option.some.inj e]; exact h9
      | 10, hv => have e : some (.int .i64 x10) = some v := hv; rw [← Option.some.inj e]; exact h10
      | 11, hv => have e : some (.int .i64 x11) = some v := hv; rw [← Option.some.inj e]; exact h11
      | 12, hv => have e : some (.string x12) = some v := hv; rw [← Option.some.inj e]; exact h12
      | 13, hv => have e : some (.int .i64 x13) = some v := hv; rw [← Option.some.inj e]; exact h13
      | 14, hv => have e : some (.int .i64 x14) = some v := hv; rw [← Option.some.inj e]; exact h14
      | j + 15, hv => simp at hv)
    exact ⟨L, ⟨hl, fun _ => ⟨b, off, hA, hb, fun k C hC => (hL k C hC).1⟩⟩, fun C hC => by obtain ⟨k, hk⟩ := List.mem_iff_getElem?.1 hC; exact (hL k C hk).2⟩
structure Cz where
  n : Int
  A1 : Option Addr
  n1 : Nat
  c1 : Nat
  A2 : Option Addr
  n2 : Nat
  c2 : Nat
  some_ : Bool
  key : ByteArray
  l : L6
  writes : Bool
structure CzIn (w : World) (c : Cz) (L1 L2 : List Ch) : Prop where
  i1 : InReads w c.A1 c.n1 L1
  r1 : RwIn L1
  m1 : c.n1 ≤ maxLen
  i2 : InReads w c.A2 c.n2 L2
  r2 : RwIn L2
  m2 : c.n2 ≤ maxLen
  key : SzOk c.key
theorem CzIn.keep {w w' : World} {c : Cz} {L1 L2 : List Ch} (h : CzIn w c L1 L2) (hf : Fr none_ w w') : CzIn w' c L1 L2 := ⟨h.i1.keep hf, h.r1, h.m1, h.i2.keep hf, h.r2, h.m2, h.key⟩
end Go.Proofs.YtfihfjbakfadkaaDoor
namespace Go.Proofs.YtfihfjbakfadkaaDoor
open Go.RowKit Go.BigFrame
set_option maxRecDepth 100000
set_option linter.unusedVariables false

section
variable {P : Program} {md : Region.Mode} {ops : Array Oper} {Q : Exit → Act → World → Prop} {S : World → Prop}
end
theorem VwIn.farZ {w w' : World} {V : Vw} {A : Option Addr} {c X : Nat} (h : VwIn w V A c) (hX : Blk w X 83 pgZ) (hf : Fr (only X) w w') : VwIn w' V A c :=
  h.farP (n := 0) (hs := 0) (hg := 0) (vc := .slice none 0 0) (vr := .slice none 0 0) (leaf := false) (lv := Lw.zero) (sl := .slice none 0 0) (iv := Vw.zero) (si := .slice none 0 0) hX ⟨_, _, _, rfl⟩ ⟨_, _, _, rfl⟩ ⟨_, _, _, rfl⟩ hf
theorem few_ents {L : List Ch} (h : FewOk8 L) : ∀ C ∈ L, C.R.ents.length ≤ 100 := fun C hC => by obtain ⟨k, hk⟩ := List.mem_iff_getElem?.1 hC; exact h.2 k C hk
theorem few_rows {L : List Ch} (h : FewOk7 L) (hw : RwIn L) : RwOkL L := fun C hC => by
  obtain ⟨k, hk⟩ := List.mem_iff_getElem?.1 hC
  have := h.2 k C hk
  exact ⟨(hw C hC).1, ⟨by omega, (hw C hC).2⟩, by omega⟩
end Go.Proofs.YtfihfjbakfadkaaDoor
namespace Go.Proofs.YtfihfjbakfadkaaDoor
open Go.RowKit Go.BigFrame
set_option linter.unusedVariables false
section
/-- wpQuiet, closed to the unifier. -/
structure Qw7 (P : Program) (ops : Array Oper) (C : World → Prop) (Q : Act → Prop) (l : List Oper) (a : Act) : Prop where
  h : wpQuiet P ops C Q l a
variable {P : Program} {ops : Array Oper} {C : World → Prop} {Q : Act → Prop} {a : Act} {o : Oper} {rest : List Oper}
theorem q_val7 (d : Option Tmp) (v : Value) (hd : o.dst = d) (hw : Region.wanted o (yielded ops a.tmps) = true) (hx : ∀ w, C w → (execOp a.eval o).run P w = .ok (.value v) w) (h : Qw7 P ops C Q rest (a.put d v)) : Qw7 P ops C Q (o :: rest) a := by
  subst hd
  refine ⟨wpQuiet_want hw fun K hK => ⟨v, fun w hC => ?_, hK _ h.h⟩⟩
  unfold Oper.quietAt
  rw [hx w hC]
  exact ⟨rfl, rfl⟩
theorem q_call7 (d : Option Tmp) (v : Value) (f : FuncId) (vs : Array Value) (hd : o.dst = d) (hw : Region.wanted o (yielded ops a.tmps) = true) (hx : ∀ w, C w → (execOp a.eval o).run P w = .ok (.enter f vs) w) (hc : ∀ w, C w → Calls P f vs w fun e w' => e = .returned v ∧ C w') (h : Qw7 P ops C Q rest (a.put d v)) : Qw7 P ops C Q (o :: rest) a := by
  subst hd
  refine ⟨wpQuiet_want hw fun K hK => ⟨v, fun w hC => ?_, hK _ h.h⟩⟩
  unfold Oper.quietAt
  rw [hx w hC]
  exact ⟨rfl, hc w hC⟩
theorem run_loadAt_cell7 (w : World) (ad : Addr) (ty : TypeId) (v : Value) (d : TypeDesc) (hc : w.cell? ad = some v) (hu : P.underlying ty = some d) (hd : d.isRow = false) :
    (Instr.loadAt ty (.pointer (some ad))).run P w = .ok v w := by
  have hagg : (isAgg ty).run P w = .ok false w := by
    unfold isAgg
    rw [Sem.run_bind, run_underlying hu w]
    cases d <;> simp_all
  have hl : (load ad).run P w = .ok v w := by
    rw [run_load, hc]
  simp only [Instr.loadAt, Instr.sureAddr, loadVar, Sem.run_bind, Sem.run_pure, Result.andThen_ok, hagg, Bool.false_eq_true, if_false, hl]
theorem q_cell7 (d : Option Tmp) (v : Value) (ty : TypeId) (x : Operand) (ad : Addr) (td : TypeDesc) (hd : o.dst = d) (hw : Region.wanted o (yielded ops a.tmps) = true) (ho : o.op = .load ty x) (hx : a.eval x = .pointer (some ad)) (hc : ∀ w, C w → w.cell? ad = some v) (hu : P.underlying ty = some td) (hr : td.isRow = false) (h : Qw7 P ops C Q rest (a.put d v)) : Qw7 P ops C Q (o :: rest) a :=
  q_val7 d v hd hw (fun w hC => by
    unfold execOp
    simp only [ho, hx, Sem.run_bind, Sem.run_pure, Result.andThen_ok, run_loadAt_cell7 w ad ty v td (hc w hC) hu hr]) h
theorem q_mid7 (d : Option Tmp) (cs : List Value) (ty : TypeId) (x : Operand) (b off : Nat) (td : TypeDesc) (hd : o.dst = d) (hw : Region.wanted o (yielded ops a.tmps) = true) (ho : o.op = .load ty x) (hx : a.eval x = .pointer (some ⟨b, off, none⟩)) (hc : ∀ w, C w → w.rangeAt b off cs) (hu : P.underlying ty = some td) (hr : td.isRow = true) (hi : (P.info? ty).map (·.size) = some cs.length) (h : Qw7 P ops C Q rest (a.put d (.agg cs.toArray))) : Qw7 P ops C Q (o :: rest) a :=
  q_val7 d _ hd hw (fun w hC => by
    unfold execOp
    simp only [ho, hx, Sem.run_bind, Sem.run_pure, Result.andThen_ok, run_loadAt_mid w b off ty cs td (hc w hC) hu hr hi]) h
theorem q_done7 (h : Q a) : Qw7 P ops C Q [] a := ⟨h⟩
theorem wp_region_q7 (C : World → Prop) {id : Nat} {K : Exit → Act → World → Prop} {l : List Oper} {w : World} (hm : P.follows .mixedOrders = true) (hB : Region.lexB .any l.toArray = true) (h0 : C w.drew)
    (h : Qw7 P l.toArray C (fun a' => ∀ w', C w' → K .normal a' w') l a) : (Code.region id l.toArray true).wp P K a w :=
  wp_region_quiet (C := C) hm hB h0 (by simpa using h.h)
/-- An operation whose value is a function's of the model. -/
theorem q_op7 (d : Option Tmp) (v : Value) (m : Sem Value) (hd : o.dst = d) (hw : Region.wanted o (yielded ops a.tmps) = true) (he : execOp a.eval o = (do pure (.value (← m)))) (hx : ∀ w, C w → m.run P w = .ok v w) (h : Qw7 P ops C Q rest (a.put d v)) : Qw7 P ops C Q (o :: rest) a :=
  q_val7 d v hd hw (fun w hC => by rw [he]; simp only [Sem.run_bind, Sem.run_pure, Result.andThen_ok, hx w hC]) h
theorem q_bool7 (d : Option Tmp) (b c : Bool) (hbc : b = c) (hd : o.dst = d) (hw : Region.wanted o (yielded ops a.tmps) = true) (hx : ∀ w, C w → (execOp a.eval o).run P w = .ok (.value (.bool b)) w) (h : Qw7 P ops C Q rest (a.put d (.bool c))) : Qw7 P ops C Q (o :: rest) a :=
  q_val7 d (.bool c) hd hw (fun w hC => by rw [← hbc]; exact hx w hC) h
end
end Go.Proofs.YtfihfjbakfadkaaDoor
namespace Go.Proofs.YtfihfjbakfadkaaDoor
open Go.RowKit
set_option linter.unusedVariables false
section
variable {ops : Array Oper} {S : World → Prop} {a : Act} {oi : Oper}
variable {P : Program} {md : Region.Mode} {Q : Exit → Act → World → Prop} {m fuel : Nat} {listed : Array Bool} {w : World}
/-- The one operation that is ready, whose value and world are known. -/
theorem u_run (i : Nat) (d : Option Tmp) (v : Value) (w2 : World) (hi : ops[i]? = some oi) (hd : oi.dst = d) (hw : Region.wanted oi (yielded ops a.tmps) = true) (hr : Region.ready md ops listed = [i])
    (hx : (execOp a.eval oi).run P w = .ok (.value v) w2) (hS : m ≤ i ∨ S w2) (h : UwA P md ops Q S m fuel (listed.setIfInBounds i true) (a.put d v) w2) : UwA P md ops Q S m (fuel + 1) listed a w := by
  subst hd
  refine u_one i hi hw hr ?_
  unfold Oper.wp
  rw [hx, Oper.upon_value]
  exact ⟨hS, h⟩
/-- One of two operations comes first. -/
theorem u_two {oj : Oper} (i j : Nat) (hi : ops[i]? = some oi) (hj : ops[j]? = some oj) (wi : Region.wanted oi (yielded ops a.tmps) = true) (wj : Region.wanted oj (yielded ops a.tmps) = true) (hr : Region.ready md ops listed = [i, j])
    (h1 : Oper.wp P oi a w (fun a' w' => (m ≤ i ∨ S w') ∧ UwA P md ops Q S m fuel (listed.setIfInBounds i true) a' w') Q)
    (h2 : Oper.wp P oj a w (fun a' w' => (m ≤ j ∨ S w') ∧ UwA P md ops Q S m fuel (listed.setIfInBounds j true) a' w') Q) : UwA P md ops Q S m (fuel + 1) listed a w :=
  ⟨wpAnyU_two7 hi hj wi wj hr (Oper.wp_mono (fun a' w' h' => ⟨h'.1, h'.2.h⟩) h1) (Oper.wp_mono (fun a' w' h' => ⟨h'.1, h'.2.h⟩) h2)⟩
end
end Go.Proofs.YtfihfjbakfadkaaDoor
namespace Go.Proofs.YtfihfjbakfadkaaDoor
open Go.RowKit
open Go
set_option linter.unusedVariables false
section
variable {P : Program} {md : Region.Mode} {ops : Array Oper} {Q : Exit → Act → World → Prop} {S : World → Prop}
/-- As wpAnyU, but that each operation ahead of the tail keeps S. -/
def wpAnyV (P : Program) (md : Region.Mode) (ops : Array Oper) (Q : Exit → Act → World → Prop) (S : World → Prop) (m : Nat) : Nat → Array Bool → Act → World → Prop
  | 0, listed, a, w => Region.ready md ops listed = [] ∧ Q .normal a w
  | fuel + 1, listed, a, w =>
    (Region.ready md ops listed = [] → Q .normal a w) ∧
    ∀ i ∈ Region.ready md ops listed, wpOp P ops Q i (fun a' w' => (m ≤ i ∨ (S w → S w')) ∧ wpAnyV P md ops Q S m fuel (listed.setIfInBounds i true) a' w') a w
theorem wpAny_of_V {m : Nat} : ∀ (fuel : Nat) (listed : Array Bool) (a : Act) (w : World), wpAnyV P md ops Q S m fuel listed a w → wpAny P md ops Q fuel listed a w
  | 0, _, _, _, h => h
  | fuel + 1, _, _, _, h => ⟨h.1, fun i hi => wpOp_mono (fun a' w' h' => wpAny_of_V fuel _ a' w' h'.2) (h.2 i hi)⟩
theorem wpAnyV_of_U {m : Nat} : ∀ (fuel : Nat) (listed : Array Bool) (a : Act) (w : World), wpAnyU P md ops Q S m fuel listed a w → wpAnyV P md ops Q S m fuel listed a w
  | 0, _, _, _, h => h
  | fuel + 1, _, _, _, h => ⟨h.1, fun i hi => wpOp_mono (fun a' w' h' => ⟨h'.1.imp_right (fun hs _ => hs), wpAnyV_of_U fuel _ a' w' h'.2⟩) (h.2 i hi)⟩
theorem wpAnyV_pure {m i : Nat} {oi : Oper} {v : Value} (hi : ops[i]? = some oi) (hsel : ∀ (j : Nat) (o : Oper) cs b, ops[j]? = some o → o.op ≠ .select cs b)
    (hQ : ∀ c a w, Q (.panic c) (a.put oi.dst v) w → Q (.panic c) a w) :
    ∀ (fuel : Nat) (listed : Array Bool) (a : Act) (w : World),
      (∀ j oj, ops[j]? = some oj → j ≠ i → listed.getD j true = false → (∀ e ∈ oj.after, Region.binds md e = true → e.on ≠ i) → oi.apart ops oj = true) →
      i ∈ Region.ready md ops listed → YieldsIf P ops (fun _ => True) oi v a →
      wpAnyV P md ops Q S m fuel (listed.setIfInBounds i true) (a.put oi.dst v) w → wpAnyV P md ops Q S m (fuel + 1) listed a w := by
  intro fuel
  induction fuel with
  | zero =>
    intro listed a w _ hr hy H
    refine ⟨fun h => (by rw [h] at hr; cases hr), fun j hj => ?_⟩
    by_cases hji : j = i
    · subst hji; exact hy.wpOp hi trivial ⟨.inr id, H⟩
    · have := ready_mono hj hji
      rw [H.1] at this
      cases this
  | succ fuel ih =>
    intro listed a w hfree hr hy H
    refine ⟨fun h => (by rw [h] at hr; cases hr), fun j hj => ?_⟩
    by_cases hji : j = i
    · subst hji; exact hy.wpOp hi trivial ⟨.inr id, H⟩
    · have h1 := H.2 j (ready_mono hj hji)
      obtain ⟨hjun, oj, hoj, hall⟩ := mem_ready.1 hj
      have hnot : ∀ e ∈ oj.after, Region.binds md e = true → e.on ≠ i := fun e he hb heq => by
        have h1 := hall e he hb
        have h0 := (mem_ready.1 hr).1
        rw [heq] at h1
        rcases Nat.lt_or_ge i listed.size with h' | h'
        · simp [h'] at h0 h1; rw [h0] at h1; cases h1
        · simp [Array.getElem?_eq_none h'] at h1
      have h2 := wpOp_putIf hoj (hfree j oj hoj hji hjun hnot) (fun cs b => hsel i oi cs b hi) (fun cs b => hsel j oj cs b hoj) hQ hy h1
      have hfree' : ∀ k ok, ops[k]? = some ok → k ≠ i → (listed.setIfInBounds j true).getD k true = false →
          (∀ e ∈ ok.after, Region.binds md e = true → e.on ≠ i) → oi.apart ops ok = true := fun k ok hk hki hun hno => by
        refine hfree k ok hk hki ?_ hno
        by_cases hjk : j = k
        · subst hjk; exact hjun
        · rw [getD_set_ne true hjk] at hun; exact hun
      refine wpOp_mono (fun a' w' h3 => ?_) h2
      refine ⟨h3.2.1, ih (listed.setIfInBounds j true) a' w' hfree' (ready_mono hr (Ne.symm hji)) h3.1 ?_⟩
      rw [Array.setIfInBounds_comm _ _ hji]
      exact h3.2.2
/-- A region that draws, of which one operation reads no memory and is taken first. -/
theorem wp_region_u1 (m : Nat) (S : World → Prop) (i n : Nat) (d : Option Tmp) (v : Value) {id : Nat} {oi : Oper} {a : Act} {w : World} (hm : P.follows .mixedOrders = true) (hn : ops.size = n + 1) (hi : ops[i]? = some oi) (hd : oi.dst = d)
    (hs : Region.noSelect ops = true) (hf : Region.free .any ops (Array.replicate ops.size false) i = true) (hr : (Region.ready .any ops (Array.replicate ops.size false)).contains i = true)
    (hQ : ∀ c a w, Q (.panic c) (a.put oi.dst v) w → Q (.panic c) a w) (hy : YieldsIf P ops (fun _ => True) oi v a)
    (h : UwA P .any ops Q S m n ((Array.replicate ops.size false).setIfInBounds i true) (a.put d v) w.drew) : (Code.region id ops true).wp P Q a w := by
  subst hd
  refine wp_region_any hm (wpAny_of_V (S := S) (m := m) _ _ _ _ ?_)
  rw [show ops.size = n + 1 from hn]
  rw [show ops.size = n + 1 from hn] at hf hr h
  exact wpAnyV_pure hi (Region.noSelect_spec hs) hQ n _ _ _ (Region.free_spec hi hf) (by simpa using hr) hy (wpAnyV_of_U _ _ _ _ h.h)
variable {oi : Oper} {a : Act} {w : World}
theorem wp_knownD {K : Act → World → Prop} (d : Option Tmp) (hd : oi.dst = d) (v : Value) (w2 : World) (hx : (execOp a.eval oi).run P w = .ok (.value v) w2) (h : K (a.put d v) w2) : Oper.wp P oi a w K Q := by
  subst hd
  unfold Oper.wp
  rw [hx, Oper.upon_value]
  exact h
/-- What the operation yields, at its slot. -/
theorem wp_dst {K : Act → World → Prop} (d : Option Tmp) (hd : oi.dst = d) (h : oi.dst = d → Oper.wp P oi a w K Q) : Oper.wp P oi a w K Q := h hd
end
end Go.Proofs.YtfihfjbakfadkaaDoor
namespace Go.Proofs.YtfihfjbakfadkaaDoor
open Go.RowKit Go.BigFrame
set_option maxRecDepth 100000
set_option linter.unusedVariables false

theorem lim_size9 : (Tryd.prog.info? 23).map (·.size) = some 6 := by kernel_rfl
theorem memLimits_ok {m : Nat} {k : Int} {l : Lm} {x : St} (w : World) (h : Mm w m k l x) : Calls Tryd.prog 57 #[.pointer (some ⟨m, 0, none⟩)] w fun e w' => e = .returned (.agg (lmA l)) ∧ Fr none_ w w' := by
  obtain ⟨w0, hw0⟩ : ∃ z, z = w.alloc (.cells #[.int .i64 0, .int .i64 0, .int .i64 0, .int .i64 0, .int .i64 0, .int .i64 0] 23) := ⟨_, rfl⟩
  have f0 : Fr none_ w w0 := by rw [hw0]; exact (Fr.refl none_ w).alloc _
  have BZ : Hid (Blk w0 w.heap.size 23 #[.int .i64 0, .int .i64 0, .int .i64 0, .int .i64 0, .int .i64 0, .int .i64 0]) := hid_ (by rw [hw0]; exact Blk.new w _ _)
  have h2 := h.b.fr f0 id
  have F0 := hid_ f0
  have c1 : w0.cell? ⟨m, 1, none⟩ = some (.int .i64 (l.s : Int)) := h2.cell' rfl
  have c2 : w0.cell? ⟨m, 2, none⟩ = some (.int .i64 (l.p : Int)) := h2.cell' rfl
  have c3 : w0.cell? ⟨m, 3, none⟩ = some (.int .i64 l.t) := h2.cell' rfl
  have c4 : w0.cell? ⟨m, 4, none⟩ = some (.int .i64 l.r) := h2.cell' rfl
  have c5 : w0.cell? ⟨m, 5, none⟩ = some (.int .i64 l.c) := h2.cell' rfl
  have c6 : w0.cell? ⟨m, 6, none⟩ = some (.int .i64 l.n) := h2.cell' rfl
  clear h h2 f0
  go_enter Tryd.func57, Tryd.ntmps57
  go_upto_region 1 with fail
  change Code.wp _ _ _ _ (w.alloc (.cells #[.int .i64 0, .int .i64 0, .int .i64 0, .int .i64 0, .int .i64 0, .int .i64 0] 23))
  rw [← hw0]
  clear hw0
  go_wp2_with (refine wpList_store_mid rfl 23 (.tmp 2) (.tmp 9) rfl w.heap.size 0 (lmA l) rfl rfl (BZ.out.there9 rfl) lim_size9 (by simp [Value.oneCell']) ?_; have ov := BZ.out.over9 (lmA l).toList rfl; obtain ⟨w9, hw9⟩ : ∃ z, z = w0.setCells w.heap.size 0 (lmA l).toList := ⟨_, rfl⟩; rw [← hw9] at ov; change wpList _ _ _ _ _ (w0.setCells w.heap.size 0 (lmA l).toList); rw [← hw9]; have OV := hid_ ov; clear hw9 ov)
  exact bodyPost_ret (results_cell7 _ _ rfl w.heap.size 0 (lmA l).toList _ rfl (Blk.range7 (l := (lmA l).toList) OV.out.1) Tryd.underlying23 rfl lim_size9) rfl ⟨rfl, F0.out.then_only OV.out.2 (.inr (Nat.le_refl _))⟩
theorem ld_range5 {w : World} {g : Nat} {s : LdS} (h : Blk w g 133 (ldA s)) : w.rangeAt g 5 [.int .i64 s.ns, .int .i64 s.ng] := fun j v hv => by
  match j, hv with
  | 0, hv => have e : some _ = some v := hv; rw [← e]; exact h.cell' rfl
  | 1, hv => have e : some _ = some v := hv; rw [← e]; exact h.cell' rfl
  | k + 2, hv => simp at hv
theorem ref_size9 : (Tryd.prog.info? 25).map (·.size) = some 2 := by kernel_rfl
/-- Within a step: a loader whose rows grow. -/
structure LdW (b0 g b m : Nat) (k : Int) (l : Lm) (x : St) (w : World) (s : LdS) (C : Cr) (vl : Value) (nl : Nat) (xl : List Value) (vr : Value) (nr : Nat) (xr : List Value) (wr : World) : Prop where
  l_ : wr.ownsRow b0 41 15 vl nl xl
  r_ : wr.ownsRow b0 25 2 vr nr xr
  nl : ∀ k, vl.ownBlock = some k → k ≠ b
  bg : Blk wr g 133 (ldA s)
  bt : Blk wr b 41 (crA C)
  lb : b0 ≤ g
  own : ∀ D ∈ s.L ++ [C], RecOwn wr b0 D.R (.slice D.A D.R.rows.length D.c) (.slice D.B D.R.ents.length D.d)
  mm : Mm wr m k l x
  f : Fr (lown m x g s) w wr
  ol : ∀ k, vl.ownBlock = some k → (Value.slice s.A s.L.length s.c).ownBlock = some k ∨ w.heap.size ≤ k
  or_ : ∀ k, vr.ownBlock = some k → (Value.slice s.B s.refs.length s.e).ownBlock = some k ∨ w.heap.size ≤ k
section
variable {b0 g b m : Nat} {k : Int} {l : Lm} {x : St} {w wr w' : World} {s : LdS} {C : Cr} {vl : Value} {nl : Nat} {xl : List Value} {vr : Value} {nr : Nat} {xr : List Value}
theorem LdW.keep (h : LdW b0 g b m k l x w s C vl nl xl vr nr xr wr) (hf : Fr none_ wr w') : LdW b0 g b m k l x w s C vl nl xl vr nr xr w' :=
  ⟨own_none h.l_ hf, own_none h.r_ hf, h.nl, h.bg.fr hf id, h.bt.fr hf id, h.lb, fun D hD => (h.own D hD).keep hf, h.mm.keep hf, h.f.then_none hf, h.ol, h.or_⟩
theorem LdW.sz (h : LdW b0 g b m k l x w s C vl nl xl vr nr xr wr) : b0 ≤ wr.heap.size := by have := h.bg.lt; have := h.lb; omega
theorem LdW.putL (h : LdW b0 g b m k l x w s C vl nl xl vr nr xr wr) {v' : Value} {q : Nat} {ys : List Value} (ho : w'.ownsRow b0 41 15 v' (nl + q) (xl ++ ys)) (hg : wr.grownBy w' vl.ownBlock) (hat : v'.ownBlock = vl.ownBlock ∨ v'.ownBlock = some wr.heap.size) : LdW b0 g b m k l x w s C v' (nl + q) (xl ++ ys) vr nr xr w' :=
  ⟨ho, own_kept h.r_ h.l_ (by decide) hg, fun k hk => by
      rcases hat with e | e
      · exact h.nl k (e ▸ hk)
      · have h1 := h.bt.lt
        have : wr.heap.size = k := Option.some.inj (e.symm.trans hk)
        omega, h.bg.grown hg (fun e => own_blk_ne h.l_ h.bg (by decide) e.symm), h.bt.grown hg (fun e => h.nl b e.symm rfl), h.lb, fun D hD => (h.own D hD).grown h.l_ (by decide) (by decide) hg, h.mm.grown h.l_ (.inl rfl) hg, h.f.grown hg (fun k hk => (h.ol k hk).imp (fun e => .inr (.inr (.inl e))) id), fun k hk => by
      rcases hat with e | e
      · exact h.ol k (e ▸ hk)
      · have : wr.heap.size = k := Option.some.inj (e.symm.trans hk)
        have := h.f.size
        exact .inr (by omega), h.or_⟩
theorem LdW.putR (h : LdW b0 g b m k l x w s C vl nl xl vr nr xr wr) {v' : Value} {q : Nat} {ys : List Value} (ho : w'.ownsRow b0 25 2 v' (nr + q) (xr ++ ys)) (hg : wr.grownBy w' vr.ownBlock) (hat : v'.ownBlock = vr.ownBlock ∨ v'.ownBlock = some wr.heap.size) : LdW b0 g b m k l x w s C vl nl xl v' (nr + q) (xr ++ ys) w' :=
  ⟨own_kept h.l_ h.r_ (by decide) hg, ho, h.nl, h.bg.grown hg (fun e => own_blk_ne h.r_ h.bg (by decide) e.symm), h.bt.grown hg (fun e => own_blk_ne h.r_ h.bt (by decide) e.symm), h.lb, fun D hD => (h.own D hD).grown h.r_ (by decide) (by decide) hg, h.mm.grown h.r_ (.inr rfl) hg, h.f.grown hg (fun k hk => (h.or_ k hk).imp (fun e => .inr (.inr (.inr e))) id), h.ol, fun k hk => by
      rcases hat with e | e
      · exact h.or_ k (e ▸ hk)
      · have : wr.heap.size = k := Option.some.inj (e.symm.trans hk)
        have := h.f.size
        exact .inr (by omega)⟩
theorem LdW.fin {A' B' : Option Addr} {c' d' : Nat} (h : LdW b0 g b m k l x w s C (.slice A' (s.L.length + 1) c') (s.L.length + 1) (crFlat s.L ++ (crA C).toList) (.slice B' (s.refs.length + 1) d') (s.refs.length + 1) (rf9Flat s.refs ++ [.int .i64 s.ns, .int .i64 s.ng]) wr)
    (hb : Blk w' g 133 #[.int .i64 s.n, .bool s.begun, .bool s.over, .int .i64 s.hs, .int .i64 s.hg, .int .i64 s.ns, .int .i64 s.ng, .slice A' (s.L.length + 1) c', .slice B' (s.refs.length + 1) d', s.ve]) (hf : Fr (only g) wr w') :
    Ldr b0 w' g ⟨s.n, s.begun, s.over, s.hs, s.hg, s.ns, s.ng, A', c', s.L ++ [C], B', d', s.refs ++ [(s.ns, s.ng)], s.ve⟩ ∧ Mm w' m k l x ∧ Blk w' b 41 (crA C) ∧ Fr (lown m x g s) w w' ∧ (∀ k, (Value.slice A' (s.L.length + 1) c').ownBlock = some k → (Value.slice s.A s.L.length s.c).ownBlock = some k ∨ w.heap.size ≤ k) ∧ (∀ k, (Value.slice B' (s.refs.length + 1) d').ownBlock = some k → (Value.slice s.B s.refs.length s.e).ownBlock = some k ∨ w.heap.size ≤ k) := by
  have e1 : (s.L ++ [C]).length = s.L.length + 1 := by simp
  have e2 : (s.refs ++ [(s.ns, s.ng)]).length = s.refs.length + 1 := by simp
  refine ⟨⟨?_, h.lb, ?_, ?_, fun D hD => (h.own D hD).only hf h.bg (by decide) (by decide)⟩, h.mm.ldr h.bg hf, h.bt.fr hf (only_ne (Blk.ne_ h.bt h.bg (by decide))), h.f.then_only hf (.inl (.inr (.inl rfl))), h.ol, h.or_⟩
  · show Blk w' g 133 #[.int .i64 s.n, .bool s.begun, .bool s.over, .int .i64 s.hs, .int .i64 s.hg, .int .i64 s.ns, .int .i64 s.ng, .slice A' (s.L ++ [C]).length c', .slice B' (s.refs ++ [(s.ns, s.ng)]).length d', s.ve]
    rw [e1, e2]
    exact hb
  · show w'.ownsRow b0 41 15 (.slice A' (s.L ++ [C]).length c') (s.L ++ [C]).length (crFlat (s.L ++ [C]))
    rw [e1, crFlat_snoc]
    exact own_fr h.l_ hf (fun k hk e => own_blk_ne h.l_ h.bg (by decide) (by rw [hk, show k = g from e]))
  · show w'.ownsRow b0 25 2 (.slice B' (s.refs ++ [(s.ns, s.ng)]).length d') (s.refs ++ [(s.ns, s.ng)]).length (rf9Flat (s.refs ++ [(s.ns, s.ng)]))
    rw [e2, rf9Flat_snoc]
    exact own_fr h.r_ hf (fun k hk e => own_blk_ne h.r_ h.bg (by decide) (by rw [hk, show k = g from e]))
end
/-- What Step's later accesses tell. -/
def LdNextO (b0 g m : Nat) (k : Int) (l : Lm) (x : St) (s : LdS) (w : World) (e : Ending) (w' : World) : Prop :=
  ∃ (R : Rc) (A : Option Addr) (c : Nat) (B : Option Addr) (d : Nat) (kk : Int) (v : Value), LoadR x.ss s.ns s.ng R kk ∧ Ev w' v sArena9 s.ns kk ∧ Mm w' m (k + 1) l x ∧ Fr (lown m x g s) w w' ∧
    ((kk ≠ 0 ∧ e = .returned (.bool true) ∧ Ldr b0 w' g { s with over := true, ve := v }) ∨
     (kk = 0 ∧ ∃ (A' : Option Addr) (c' : Nat) (B' : Option Addr) (d' : Nat) (ov : Bool) (ve : Value), e = .returned (.bool ov) ∧ Ldr b0 w' g ⟨s.n, s.begun, ov, s.hs, s.hg, R.nslot, R.ngen, A', c', s.L ++ [⟨R, A, c, B, d⟩], B', d', s.refs ++ [(s.ns, s.ng)], ve⟩ ∧ (∀ k, (Value.slice A' (s.L.length + 1) c').ownBlock = some k → (Value.slice s.A s.L.length s.c).ownBlock = some k ∨ w.heap.size ≤ k) ∧ (∀ k, (Value.slice B' (s.refs.length + 1) d').ownBlock = some k → (Value.slice s.B s.refs.length s.e).ownBlock = some k ∨ w.heap.size ≤ k) ∧
       ((R.nslot = 0 ∧ R.ngen = 0 ∧ ov = true ∧ ve = .nilIface) ∨ (¬ (R.nslot = 0 ∧ R.ngen = 0) ∧ l.s ≤ s.L.length + 1 ∧ ov = true ∧ ve = errV 10) ∨ (¬ (R.nslot = 0 ∧ R.ngen = 0) ∧ s.L.length + 1 < l.s ∧ ov = false ∧ ve = s.ve))))
set_option maxHeartbeats 8000000 in
theorem step_nextO {b0 g m : Nat} {k : Int} {l : Lm} {x : St} {w : World} {s : LdS} (h : Ldr b0 w g s) (hm : Mm w m k l x) (hb : ∀ i, mall m x i → i < b0) (h0 : 0 ≤ k) (h1 : k ≤ 100000) (ho : s.over = false) (hg : s.begun = true) (hl1 : s.L.length ≤ 5000) (hl2 : s.refs.length ≤ 5000) :
    Calls Tryd.prog 23 #[.pointer (some ⟨g, 0, none⟩), .pointer (some ⟨m, 0, none⟩)] w (LdNextO b0 g m k l x s w) := by
  have H := hid_ h
  have HM := hid_ hm
  have HB := hid_ hb
  have HO := hid_ ho
  have c1 : w.cell? ⟨g, 1, none⟩ = some (.bool true) := by rw [← hg]; exact h.b.cell' rfl
  have c5 : w.cell? ⟨g, 5, none⟩ = some (.int .i64 s.ns) := h.b.cell' rfl
  have c6 : w.cell? ⟨g, 6, none⟩ = some (.int .i64 s.ng) := h.b.cell' rfl
  have hsg := h.b.lt
  have HG := hid_ hg
  obtain ⟨i0, hi0, hz0, hs0, hb0⟩ := info_parts rec_info9
  have Hi := hid_ (And.intro hi0 (And.intro hz0 (And.intro hs0 hb0)))
  obtain ⟨j0, hj0, hy0, ht0, hc0⟩ := info_parts ref_info9
  have Hj := hid_ (And.intro hj0 (And.intro hy0 (And.intro ht0 hc0)))
  clear hi0 hz0 hs0 hb0 hj0 hy0 ht0 hc0 h hm hb ho hg
  go_enter Tryd.func23, Tryd.ntmps23
  go_wp2_with fail
  refine (ldOver_ok H.out).mono ?_
  rintro e w' ⟨rfl, rfl⟩
  rw [HO.out]
  go_wp2_with fail
  refine (memLoad_any m k l x _ HM.out h0 h1 s.ns s.ng).mono ?_
  rintro e w1 ⟨R, A, c, B, d, kk, v, rfl, hld, hev, hmm, hro, hf1⟩
  have LD := hid_ hld
  have EV := hid_ hev
  have RO := hid_ (hro.base (show b0 ≤ w.heap.size by have := H.out.lb; omega))
  replace H := hid_ (H.out.fr hf1 HB.out)
  replace HM := hid_ hmm
  have F1 := hid_ (hf1.mono (S' := lown m x g s) (fun i _ e => .inl e))
  have hsz1 := hf1.size
  have hNL1 : Hid (∀ k, (Value.slice s.A s.L.length s.c).ownBlock = some k → k ≠ w1.heap.size) := hid_ (fun k hk => by have := (H.out.l.lt k hk).2; omega)
  clear hld hev hmm hro hf1 c1 c5 c6
  go_upto_region 12 with (refine wpList_store_mid rfl 41 (.tmp 7) (.tmp 56) rfl w1.heap.size 0 (crA (⟨R, A, c, B, d⟩ : Cr)) rfl rfl (new_there w1 _ recZ) rec_size (by simp [Value.oneCell']) ?_; obtain ⟨w2, hw2⟩ : ∃ z, z = (w1.alloc (.cells recZ 41)).setCells w1.heap.size 0 (crA (⟨R, A, c, B, d⟩ : Cr)).toList := ⟨_, rfl⟩; change wpList _ _ _ _ _ ((w1.alloc (.cells recZ 41)).setCells w1.heap.size 0 (crA (⟨R, A, c, B, d⟩ : Cr)).toList); rw [← hw2]; have P2 : Hid (Blk w2 w1.heap.size 41 (crA (⟨R, A, c, B, d⟩ : Cr)) ∧ Fr none_ w1 w2) := hid_ (by rw [hw2]; exact new_copy w1 _ recZ _ rfl); clear hw2)
  replace H := hid_ (H.out.keep P2.out.2)
  replace HM := hid_ (HM.out.keep P2.out.2)
  replace EV := hid_ (EV.out.keep P2.out.2)
  replace RO := hid_ (RO.out.keep P2.out.2)
  replace F1 := hid_ (F1.out.then_none P2.out.2)
  have BT := hid_ P2.out.1
  have hszb := P2.out.1.lt
  have hlb := H.out.lb
  obtain ⟨b, hbq⟩ : ∃ b, b = w1.heap.size := ⟨_, rfl⟩
  rw [← hbq] at BT hszb
  rw [← hbq]
  have hgb : g < b := by have := H.out.b; omega
  have hNL : Hid (∀ k, (Value.slice s.A s.L.length s.c).ownBlock = some k → k ≠ b) := hid_ (by rw [hbq]; exact hNL1.out)
  clear hbq P2
  rcases EV.out with ⟨hc, rfl⟩ | ⟨hc, q, rfl, -⟩
  rotate_left
  · have HC := hid_ hc
    have EQ := hid_ EV.out
    clear hc
    go_wp2_with fail
    refine (ldStop_ok (.iface 159 (.pointer (some ⟨q, 0, none⟩))) (.inr ⟨_, _, rfl⟩) H.out).mono ?_
    rintro e w3 ⟨rfl, hl3, hf3⟩
    go_wp2_with fail
    go_ret
    exact ⟨R, A, c, B, d, kk, _, LD.out, EQ.out.only hf3 H.out.b (by decide), HM.out.ldr H.out.b hf3, F1.out.then_only hf3 (.inl (.inr (.inl rfl))), .inl ⟨HC.out, rfl, hl3⟩⟩
  have HC := hid_ hc
  clear hc EV
  have P0 : Hid (LdW b0 g b m (k + 1) l x w s (⟨R, A, c, B, d⟩ : Cr) (.slice s.A s.L.length s.c) s.L.length (crFlat s.L) (.slice s.B s.refs.length s.e) s.refs.length (rf9Flat s.refs) w2) := hid_ ⟨H.out.l, H.out.r, hNL.out, H.out.b, BT.out, hlb, fun D hD => by
    rcases List.mem_append.1 hD with h | h
    · exact H.out.own D h
    · obtain rfl : D = ⟨R, A, c, B, d⟩ := by simpa using h
      exact RO.out, HM.out, F1.out, fun k hk => .inl hk, fun k hk => .inl hk⟩
  clear H HM RO F1 BT hNL
  go_upto_region 14 with fail
  (try go_frame)
  go_cut [4] (fun u wq => ∃ (A' : Option Addr) (c' : Nat) (B' : Option Addr) (d' : Nat), u = .bool false ∧ Ldr b0 wq g (⟨s.n, s.begun, s.over, s.hs, s.hg, s.ns, s.ng, A', c', s.L ++ [⟨R, A, c, B, d⟩], B', d', s.refs ++ [(s.ns, s.ng)], s.ve⟩ : LdS) ∧ Mm wq m (k + 1) l x ∧ Blk wq b 41 (crA (⟨R, A, c, B, d⟩ : Cr)) ∧ Fr (lown m x g s) w wq ∧ (∀ k, (Value.slice A' (s.L.length + 1) c').ownBlock = some k → (Value.slice s.A s.L.length s.c).ownBlock = some k ∨ w.heap.size ≤ k) ∧ (∀ k, (Value.slice B' (s.refs.length + 1) d').ownBlock = some k → (Value.slice s.B s.refs.length s.e).ownBlock = some k ∨ w.heap.size ≤ k))
  case first =>
    have hS0 : (fun w' : World => Blk w' g 133 (ldA s) ∧ Blk w' b 41 (crA (⟨R, A, c, B, d⟩ : Cr))) w2.drew := ⟨P0.out.bg.drew, P0.out.bt.drew⟩
    refine wp_region_u1 21 (fun w' : World => Blk w' g 133 (ldA s) ∧ Blk w' b 41 (crA (⟨R, A, c, B, d⟩ : Cr))) 1 24 (some 64) (.pointer (some ⟨g, 0, none⟩)) (by kernel_rfl) rfl rfl rfl (by kernel_rfl) (by kernel_rfl) (by kernel_rfl) (fun _ _ _ h => h) (y_val (by kernel_rfl) (fun w' hS => by kernel_rfl)) ?_
    refine u_take 0 (some 63) (.pointer (some ⟨g, 0, none⟩)) rfl rfl (by kernel_rfl) (by kernel_rfl) (by kernel_rfl) (by kernel_rfl) (fun _ _ _ h => h) (y_val (by kernel_rfl) (fun w' hS => by kernel_rfl)) hS0 ?_
    go_frame
    refine u_take 2 (some 65) (.pointer (some ⟨g, 0, none⟩)) rfl rfl (by kernel_rfl) (by kernel_rfl) (by kernel_rfl) (by kernel_rfl) (fun _ _ _ h => h) (y_val (by kernel_rfl) (fun w' hS => by kernel_rfl)) hS0 ?_
    go_frame
    refine u_take 3 (some 66) (.pointer (some ⟨g, 0, none⟩)) rfl rfl (by kernel_rfl) (by kernel_rfl) (by kernel_rfl) (by kernel_rfl) (fun _ _ _ h => h) (y_val (by kernel_rfl) (fun w' hS => by kernel_rfl)) hS0 ?_
    go_frame
    refine u_take 4 (some 67) (.pointer (some ⟨g, 7, none⟩)) rfl rfl (by kernel_rfl) (by kernel_rfl) (by kernel_rfl) (by kernel_rfl) (fun _ _ _ h => h) (y_val (by kernel_rfl) (fun w' hS => by kernel_rfl)) hS0 ?_
    go_frame
    refine u_take 5 (some 68) (.slice s.A s.L.length s.c) rfl rfl (by kernel_rfl) (by kernel_rfl) (by kernel_rfl) (by kernel_rfl) (fun _ _ _ h => h) (y_cell 61 (.tmp 67) ⟨g, 7, none⟩ _ (by kernel_rfl) rfl (by kernel_rfl) (fun w' hS => hS.1.cell' rfl) Tryd.underlying61 rfl) hS0 ?_
    go_frame
    refine u_take 6 (some 69) (.agg (crA (⟨R, A, c, B, d⟩ : Cr))) rfl rfl (by kernel_rfl) (by kernel_rfl) (by kernel_rfl) (by kernel_rfl) (fun _ _ _ h => h) (yieldsIf_load_mid (by kernel_rfl) 41 (.tmp 7) rfl b 0 (by kernel_rfl) (crA (⟨R, A, c, B, d⟩ : Cr)).toList _ (fun w' hS => Blk.range7 (l := (crA (⟨R, A, c, B, d⟩ : Cr)).toList) hS.2) Tryd.underlying41 rfl rec_size) hS0 ?_
    go_frame
    refine u_take 9 (some 72) (.pointer (some ⟨g, 0, none⟩)) rfl rfl (by kernel_rfl) (by kernel_rfl) (by kernel_rfl) (by kernel_rfl) (fun _ _ _ h => h) (y_val (by kernel_rfl) (fun w' hS => by kernel_rfl)) hS0 ?_
    go_frame
    refine u_take 10 (some 73) (.pointer (some ⟨g, 0, none⟩)) rfl rfl (by kernel_rfl) (by kernel_rfl) (by kernel_rfl) (by kernel_rfl) (fun _ _ _ h => h) (y_val (by kernel_rfl) (fun w' hS => by kernel_rfl)) hS0 ?_
    go_frame
    refine u_take 11 (some 74) (.pointer (some ⟨g, 8, none⟩)) rfl rfl (by kernel_rfl) (by kernel_rfl) (by kernel_rfl) (by kernel_rfl) (fun _ _ _ h => h) (y_val (by kernel_rfl) (fun w' hS => by kernel_rfl)) hS0 ?_
    go_frame
    refine u_take 12 (some 75) (.slice s.B s.refs.length s.e) rfl rfl (by kernel_rfl) (by kernel_rfl) (by kernel_rfl) (by kernel_rfl) (fun _ _ _ h => h) (y_cell 62 (.tmp 74) ⟨g, 8, none⟩ _ (by kernel_rfl) rfl (by kernel_rfl) (fun w' hS => hS.1.cell' rfl) Tryd.underlying62 rfl) hS0 ?_
    go_frame
    refine u_take 13 (some 76) (.pointer (some ⟨g, 0, none⟩)) rfl rfl (by kernel_rfl) (by kernel_rfl) (by kernel_rfl) (by kernel_rfl) (fun _ _ _ h => h) (y_val (by kernel_rfl) (fun w' hS => by kernel_rfl)) hS0 ?_
    go_frame
    refine u_take 14 (some 77) (.pointer (some ⟨g, 0, none⟩)) rfl rfl (by kernel_rfl) (by kernel_rfl) (by kernel_rfl) (by kernel_rfl) (fun _ _ _ h => h) (y_val (by kernel_rfl) (fun w' hS => by kernel_rfl)) hS0 ?_
    go_frame
    refine u_take 15 (some 78) (.pointer (some ⟨g, 5, none⟩)) rfl rfl (by kernel_rfl) (by kernel_rfl) (by kernel_rfl) (by kernel_rfl) (fun _ _ _ h => h) (y_val (by kernel_rfl) (fun w' hS => by kernel_rfl)) hS0 ?_
    go_frame
    refine u_take 16 (some 79) (.agg #[.int .i64 s.ns, .int .i64 s.ng]) rfl rfl (by kernel_rfl) (by kernel_rfl) (by kernel_rfl) (by kernel_rfl) (fun _ _ _ h => h) (yieldsIf_load_mid (by kernel_rfl) 25 (.tmp 78) rfl g 5 (by kernel_rfl) [.int .i64 s.ns, .int .i64 s.ng] _ (fun w' hS => ld_range5 hS.1) Tryd.underlying25 rfl ref_size9) hS0 ?_
    go_frame
    clear hS0
    obtain ⟨y0, hy0⟩ : ∃ z, z = w2.drew := ⟨_, rfl⟩
    have Q0 := hid_ (P0.out.keep (Fr.refl none_ w2).drew)
    rw [← hy0] at Q0
    rw [← hy0]
    clear hy0 P0
    refine u_two 7 17 rfl rfl (by kernel_rfl) (by kernel_rfl) (by kernel_rfl) ?_ ?_
    · skip
      refine wp_knownD (some 70) rfl (.slice (some ⟨y0.heap.size, 0, none⟩) 1 1) (y0.alloc (.cells (crA (⟨R, A, c, B, d⟩ : Cr)) 41)) (by kernel_rfl) ⟨(.inr ⟨(Q0.out.keep ((Fr.refl none_ _).alloc _)).bg, (Q0.out.keep ((Fr.refl none_ _).alloc _)).bt⟩), ?_⟩
      go_frame
      obtain ⟨y1, hy1⟩ : ∃ z, z = y0.alloc (.cells (crA (⟨R, A, c, B, d⟩ : Cr)) 41) := ⟨_, rfl⟩
      have f2 : Fr none_ y0 y1 := by rw [hy1]; exact (Fr.refl none_ _).alloc _
      have B4 : Hid (Blk y1 y0.heap.size 41 (crA (⟨R, A, c, B, d⟩ : Cr))) := hid_ (by rw [hy1]; exact Blk.new _ _ _)
      have Q3 := hid_ (Q0.out.keep f2)
      rw [← hy1]
      clear hy1 f2 Q0
      refine u_two 8 17 rfl rfl (by kernel_rfl) (by kernel_rfl) (by kernel_rfl) ?_ ?_
      · skip
        refine wp_dst (some 71) rfl (fun hds => ?_)
        refine wp_append_at _ (.tmp 68) (.tmp 70) 61 rfl b0 41 i0 _ 15 192 Tryd.underlying61 Hi.out.1 Hi.out.2.1 Hi.out.2.2.1 Hi.out.2.2.2 rfl (by omega) _ _ _ (by kernel_rfl) Q3.out.l_ (some ⟨y0.heap.size, 0, none⟩) 1 1 (crA (⟨R, A, c, B, d⟩ : Cr)).toList (by kernel_rfl) (reads_blk9 B4.out) (cr_one _) (by simp only [maxLen]; omega) (by omega) Q3.out.sz ?_
        intro v7 y6 hown hgr hat
        have Q5 := hid_ (Q3.out.putL hown hgr hat)
        refine ⟨.inr ⟨Q5.out.bg, Q5.out.bt⟩, ?_⟩
        rw [hds]
        clear hown hgr hat hds Q3 B4
        go_frame
        refine u_run 17 (some 80) (.slice (some ⟨y6.heap.size, 0, none⟩) 1 1) (y6.alloc (.cells #[.int .i64 s.ns, .int .i64 s.ng] 25)) rfl rfl (by kernel_rfl) (by kernel_rfl) (by kernel_rfl) (.inr ⟨(Q5.out.keep ((Fr.refl none_ _).alloc _)).bg, (Q5.out.keep ((Fr.refl none_ _).alloc _)).bt⟩) ?_
        go_frame
        obtain ⟨y8, hy8⟩ : ∃ z, z = y6.alloc (.cells #[.int .i64 s.ns, .int .i64 s.ng] 25) := ⟨_, rfl⟩
        have f9 : Fr none_ y6 y8 := by rw [hy8]; exact (Fr.refl none_ _).alloc _
        have B11 : Hid (Blk y8 y6.heap.size 25 #[.int .i64 s.ns, .int .i64 s.ng]) := hid_ (by rw [hy8]; exact Blk.new _ _ _)
        have Q10 := hid_ (Q5.out.keep f9)
        rw [← hy8]
        clear hy8 f9 Q5
        refine u_one 18 rfl (by kernel_rfl) (by kernel_rfl) ?_
        refine wp_dst (some 81) rfl (fun hds => ?_)
        refine wp_append_at _ (.tmp 75) (.tmp 80) 62 rfl b0 25 j0 _ 2 16 Tryd.underlying62 Hj.out.1 Hj.out.2.1 Hj.out.2.2.1 Hj.out.2.2.2 rfl (by omega) _ _ _ (by kernel_rfl) Q10.out.r_ (some ⟨y6.heap.size, 0, none⟩) 1 1 [.int .i64 s.ns, .int .i64 s.ng] (by kernel_rfl) (reads_blk9 B11.out) (by simp [Value.oneCell']) (by simp only [maxLen]; omega) (by omega) Q10.out.sz ?_
        intro v14 y13 hown hgr hat
        have Q12 := hid_ (Q10.out.putR hown hgr hat)
        refine ⟨.inr ⟨Q12.out.bg, Q12.out.bt⟩, ?_⟩
        rw [hds]
        clear hown hgr hat hds Q10 B11
        go_frame
        obtain ⟨A', c', e1⟩ := Q12.out.l_.shape
        obtain ⟨B', d', e2⟩ := Q12.out.r_.shape
        subst e1
        subst e2
        (try go_frame)
        refine u_run 19 (some 82) (.pointer (some ⟨g, 0, none⟩)) y13 rfl rfl (by kernel_rfl) (by kernel_rfl) (by kernel_rfl) (.inr ⟨Q12.out.bg, Q12.out.bt⟩) ?_
        go_frame
        refine u_run 20 (some 83) (.pointer (some ⟨g, 7, none⟩)) y13 rfl rfl (by kernel_rfl) (by kernel_rfl) (by kernel_rfl) (.inr ⟨Q12.out.bg, Q12.out.bt⟩) ?_
        go_frame
        refine u_one 21 rfl (by kernel_rfl) (by kernel_rfl) ?_
        have c7 : y13.cell? ⟨g, 7, none⟩ = some (.slice s.A s.L.length s.c) := Q12.out.bg.cell' rfl
        have y7 := Q12.out.bg.frozen 7
        go_simp
        have hk := And.intro (Q12.out.bg.set_ 7 (.slice A' (s.L.length + 1) c')) (Fr.only1 y13 ⟨g, 7, none⟩ (.slice A' (s.L.length + 1) c'))
        obtain ⟨y15, hy15⟩ : ∃ z, z = y13.setCell ⟨g, 7, none⟩ (.slice A' (s.L.length + 1) c') := ⟨_, rfl⟩
        rw [← hy15] at hk
        rw [← hy15]
        have K16 := hid_ hk
        clear hk hy15 c7 y7
        refine u_run 22 (some 84) (.pointer (some ⟨g, 0, none⟩)) y15 rfl rfl (by kernel_rfl) (by kernel_rfl) (by kernel_rfl) (.inl (by decide)) ?_
        go_frame
        refine u_run 23 (some 85) (.pointer (some ⟨g, 8, none⟩)) y15 rfl rfl (by kernel_rfl) (by kernel_rfl) (by kernel_rfl) (.inl (by decide)) ?_
        go_frame
        refine u_one 24 rfl (by kernel_rfl) (by kernel_rfl) ?_
        have c7 : y15.cell? ⟨g, 8, none⟩ = some (.slice s.B s.refs.length s.e) := K16.out.1.cell' rfl
        have y7 := K16.out.1.frozen 8
        go_simp
        have hk := And.intro (K16.out.1.set_ 8 (.slice B' (s.refs.length + 1) d')) (Fr.setCell (p := ⟨g, 8, none⟩) K16.out.2 (.inl rfl) (.slice B' (s.refs.length + 1) d'))
        obtain ⟨y17, hy17⟩ : ∃ z, z = y15.setCell ⟨g, 8, none⟩ (.slice B' (s.refs.length + 1) d') := ⟨_, rfl⟩
        rw [← hy17] at hk
        rw [← hy17]
        have K18 := hid_ hk
        clear hk hy17 c7 y7
        have FIN := hid_ (Q12.out.fin K18.out.1 K18.out.2)
        refine u_done (by kernel_rfl) ?_
        (try simp only [Exit.then])
        (try go_frame)
        (first | (rename_i hKm; refine hKm _ _ ?_) | (rename_i hKm _; refine hKm _ _ ?_) | (rename_i hKm _ _; refine hKm _ _ ?_) | (rename_i hKm _ _ _; refine hKm _ _ ?_))
        go_meet
        case rel => exact ⟨A', c', B', d', rfl, FIN.out⟩
      · skip
        refine wp_knownD (some 80) rfl (.slice (some ⟨y1.heap.size, 0, none⟩) 1 1) (y1.alloc (.cells #[.int .i64 s.ns, .int .i64 s.ng] 25)) (by kernel_rfl) ⟨(.inr ⟨(Q3.out.keep ((Fr.refl none_ _).alloc _)).bg, (Q3.out.keep ((Fr.refl none_ _).alloc _)).bt⟩), ?_⟩
        go_frame
        obtain ⟨y19, hy19⟩ : ∃ z, z = y1.alloc (.cells #[.int .i64 s.ns, .int .i64 s.ng] 25) := ⟨_, rfl⟩
        have f20 : Fr none_ y1 y19 := by rw [hy19]; exact (Fr.refl none_ _).alloc _
        have B22 : Hid (Blk y19 y1.heap.size 25 #[.int .i64 s.ns, .int .i64 s.ng]) := hid_ (by rw [hy19]; exact Blk.new _ _ _)
        have Q21 := hid_ (Q3.out.keep f20)
        replace B4 := hid_ (B4.out.fr f20 id)
        rw [← hy19]
        clear hy19 f20 Q3
        refine u_one 8 rfl (by kernel_rfl) (by kernel_rfl) ?_
        refine wp_dst (some 71) rfl (fun hds => ?_)
        refine wp_append_at _ (.tmp 68) (.tmp 70) 61 rfl b0 41 i0 _ 15 192 Tryd.underlying61 Hi.out.1 Hi.out.2.1 Hi.out.2.2.1 Hi.out.2.2.2 rfl (by omega) _ _ _ (by kernel_rfl) Q21.out.l_ (some ⟨y0.heap.size, 0, none⟩) 1 1 (crA (⟨R, A, c, B, d⟩ : Cr)).toList (by kernel_rfl) (reads_blk9 B4.out) (cr_one _) (by simp only [maxLen]; omega) (by omega) Q21.out.sz ?_
        intro v25 y24 hown hgr hat
        have Q23 := hid_ (Q21.out.putL hown hgr hat)
        replace B22 := hid_ (B22.out.grown hgr (fun e => own_blk_ne Q21.out.l_ B22.out (by decide) e.symm))
        refine ⟨.inr ⟨Q23.out.bg, Q23.out.bt⟩, ?_⟩
        rw [hds]
        clear hown hgr hat hds Q21 B4
        go_frame
        refine u_one 18 rfl (by kernel_rfl) (by kernel_rfl) ?_
        refine wp_dst (some 81) rfl (fun hds => ?_)
        refine wp_append_at _ (.tmp 75) (.tmp 80) 62 rfl b0 25 j0 _ 2 16 Tryd.underlying62 Hj.out.1 Hj.out.2.1 Hj.out.2.2.1 Hj.out.2.2.2 rfl (by omega) _ _ _ (by kernel_rfl) Q23.out.r_ (some ⟨y1.heap.size, 0, none⟩) 1 1 [.int .i64 s.ns, .int .i64 s.ng] (by kernel_rfl) (reads_blk9 B22.out) (by simp [Value.oneCell']) (by simp only [maxLen]; omega) (by omega) Q23.out.sz ?_
        intro v28 y27 hown hgr hat
        have Q26 := hid_ (Q23.out.putR hown hgr hat)
        refine ⟨.inr ⟨Q26.out.bg, Q26.out.bt⟩, ?_⟩
        rw [hds]
        clear hown hgr hat hds Q23 B22
        go_frame
        obtain ⟨A', c', e1⟩ := Q26.out.l_.shape
        obtain ⟨B', d', e2⟩ := Q26.out.r_.shape
        subst e1
        subst e2
        (try go_frame)
        refine u_run 19 (some 82) (.pointer (some ⟨g, 0, none⟩)) y27 rfl rfl (by kernel_rfl) (by kernel_rfl) (by kernel_rfl) (.inr ⟨Q26.out.bg, Q26.out.bt⟩) ?_
        go_frame
        refine u_run 20 (some 83) (.pointer (some ⟨g, 7, none⟩)) y27 rfl rfl (by kernel_rfl) (by kernel_rfl) (by kernel_rfl) (.inr ⟨Q26.out.bg, Q26.out.bt⟩) ?_
        go_frame
        refine u_one 21 rfl (by kernel_rfl) (by kernel_rfl) ?_
        have c7 : y27.cell? ⟨g, 7, none⟩ = some (.slice s.A s.L.length s.c) := Q26.out.bg.cell' rfl
        have y7 := Q26.out.bg.frozen 7
        go_simp
        have hk := And.intro (Q26.out.bg.set_ 7 (.slice A' (s.L.length + 1) c')) (Fr.only1 y27 ⟨g, 7, none⟩ (.slice A' (s.L.length + 1) c'))
        obtain ⟨y29, hy29⟩ : ∃ z, z = y27.setCell ⟨g, 7, none⟩ (.slice A' (s.L.length + 1) c') := ⟨_, rfl⟩
        rw [← hy29] at hk
        rw [← hy29]
        have K30 := hid_ hk
        clear hk hy29 c7 y7
        refine u_run 22 (some 84) (.pointer (some ⟨g, 0, none⟩)) y29 rfl rfl (by kernel_rfl) (by kernel_rfl) (by kernel_rfl) (.inl (by decide)) ?_
        go_frame
        refine u_run 23 (some 85) (.pointer (some ⟨g, 8, none⟩)) y29 rfl rfl (by kernel_rfl) (by kernel_rfl) (by kernel_rfl) (.inl (by decide)) ?_
        go_frame
        refine u_one 24 rfl (by kernel_rfl) (by kernel_rfl) ?_
        have c7 : y29.cell? ⟨g, 8, none⟩ = some (.slice s.B s.refs.length s.e) := K30.out.1.cell' rfl
        have y7 := K30.out.1.frozen 8
        go_simp
        have hk := And.intro (K30.out.1.set_ 8 (.slice B' (s.refs.length + 1) d')) (Fr.setCell (p := ⟨g, 8, none⟩) K30.out.2 (.inl rfl) (.slice B' (s.refs.length + 1) d'))
        obtain ⟨y31, hy31⟩ : ∃ z, z = y29.setCell ⟨g, 8, none⟩ (.slice B' (s.refs.length + 1) d') := ⟨_, rfl⟩
        rw [← hy31] at hk
        rw [← hy31]
        have K32 := hid_ hk
        clear hk hy31 c7 y7
        have FIN := hid_ (Q26.out.fin K32.out.1 K32.out.2)
        refine u_done (by kernel_rfl) ?_
        (try simp only [Exit.then])
        (try go_frame)
        (first | (rename_i hKm; refine hKm _ _ ?_) | (rename_i hKm _; refine hKm _ _ ?_) | (rename_i hKm _ _; refine hKm _ _ ?_) | (rename_i hKm _ _ _; refine hKm _ _ ?_))
        go_meet
        case rel => exact ⟨A', c', B', d', rfl, FIN.out⟩
    · skip
      refine wp_knownD (some 80) rfl (.slice (some ⟨y0.heap.size, 0, none⟩) 1 1) (y0.alloc (.cells #[.int .i64 s.ns, .int .i64 s.ng] 25)) (by kernel_rfl) ⟨(.inr ⟨(Q0.out.keep ((Fr.refl none_ _).alloc _)).bg, (Q0.out.keep ((Fr.refl none_ _).alloc _)).bt⟩), ?_⟩
      go_frame
      obtain ⟨y33, hy33⟩ : ∃ z, z = y0.alloc (.cells #[.int .i64 s.ns, .int .i64 s.ng] 25) := ⟨_, rfl⟩
      have f34 : Fr none_ y0 y33 := by rw [hy33]; exact (Fr.refl none_ _).alloc _
      have B36 : Hid (Blk y33 y0.heap.size 25 #[.int .i64 s.ns, .int .i64 s.ng]) := hid_ (by rw [hy33]; exact Blk.new _ _ _)
      have Q35 := hid_ (Q0.out.keep f34)
      rw [← hy33]
      clear hy33 f34 Q0
      refine u_run 7 (some 70) (.slice (some ⟨y33.heap.size, 0, none⟩) 1 1) (y33.alloc (.cells (crA (⟨R, A, c, B, d⟩ : Cr)) 41)) rfl rfl (by kernel_rfl) (by kernel_rfl) (by kernel_rfl) (.inr ⟨(Q35.out.keep ((Fr.refl none_ _).alloc _)).bg, (Q35.out.keep ((Fr.refl none_ _).alloc _)).bt⟩) ?_
      go_frame
      obtain ⟨y37, hy37⟩ : ∃ z, z = y33.alloc (.cells (crA (⟨R, A, c, B, d⟩ : Cr)) 41) := ⟨_, rfl⟩
      have f38 : Fr none_ y33 y37 := by rw [hy37]; exact (Fr.refl none_ _).alloc _
      have B40 : Hid (Blk y37 y33.heap.size 41 (crA (⟨R, A, c, B, d⟩ : Cr))) := hid_ (by rw [hy37]; exact Blk.new _ _ _)
      have Q39 := hid_ (Q35.out.keep f38)
      replace B36 := hid_ (B36.out.fr f38 id)
      rw [← hy37]
      clear hy37 f38 Q35
      refine u_one 8 rfl (by kernel_rfl) (by kernel_rfl) ?_
      refine wp_dst (some 71) rfl (fun hds => ?_)
      refine wp_append_at _ (.tmp 68) (.tmp 70) 61 rfl b0 41 i0 _ 15 192 Tryd.underlying61 Hi.out.1 Hi.out.2.1 Hi.out.2.2.1 Hi.out.2.2.2 rfl (by omega) _ _ _ (by kernel_rfl) Q39.out.l_ (some ⟨y33.heap.size, 0, none⟩) 1 1 (crA (⟨R, A, c, B, d⟩ : Cr)).toList (by kernel_rfl) (reads_blk9 B40.out) (cr_one _) (by simp only [maxLen]; omega) (by omega) Q39.out.sz ?_
      intro v43 y42 hown hgr hat
      have Q41 := hid_ (Q39.out.putL hown hgr hat)
      replace B36 := hid_ (B36.out.grown hgr (fun e => own_blk_ne Q39.out.l_ B36.out (by decide) e.symm))
      refine ⟨.inr ⟨Q41.out.bg, Q41.out.bt⟩, ?_⟩
      rw [hds]
      clear hown hgr hat hds Q39 B40
      go_frame
      refine u_one 18 rfl (by kernel_rfl) (by kernel_rfl) ?_
      refine wp_dst (some 81) rfl (fun hds => ?_)
      refine wp_append_at _ (.tmp 75) (.tmp 80) 62 rfl b0 25 j0 _ 2 16 Tryd.underlying62 Hj.out.1 Hj.out.2.1 Hj.out.2.2.1 Hj.out.2.2.2 rfl (by omega) _ _ _ (by kernel_rfl) Q41.out.r_ (some ⟨y0.heap.size, 0, none⟩) 1 1 [.int .i64 s.ns, .int .i64 s.ng] (by kernel_rfl) (reads_blk9 B36.out) (by simp [Value.oneCell']) (by simp only [maxLen]; omega) (by omega) Q41.out.sz ?_
      intro v46 y45 hown hgr hat
      have Q44 := hid_ (Q41.out.putR hown hgr hat)
      refine ⟨.inr ⟨Q44.out.bg, Q44.out.bt⟩, ?_⟩
      rw [hds]
      clear hown hgr hat hds Q41 B36
      go_frame
      obtain ⟨A', c', e1⟩ := Q44.out.l_.shape
      obtain ⟨B', d', e2⟩ := Q44.out.r_.shape
      subst e1
      subst e2
      (try go_frame)
      refine u_run 19 (some 82) (.pointer (some ⟨g, 0, none⟩)) y45 rfl rfl (by kernel_rfl) (by kernel_rfl) (by kernel_rfl) (.inr ⟨Q44.out.bg, Q44.out.bt⟩) ?_
      go_frame
      refine u_run 20 (some 83) (.pointer (some ⟨g, 7, none⟩)) y45 rfl rfl (by kernel_rfl) (by kernel_rfl) (by kernel_rfl) (.inr ⟨Q44.out.bg, Q44.out.bt⟩) ?_
      go_frame
      refine u_one 21 rfl (by kernel_rfl) (by kernel_rfl) ?_
      have c7 : y45.cell? ⟨g, 7, none⟩ = some (.slice s.A s.L.length s.c) := Q44.out.bg.cell' rfl
      have y7 := Q44.out.bg.frozen 7
      go_simp
      have hk := And.intro (Q44.out.bg.set_ 7 (.slice A' (s.L.length + 1) c')) (Fr.only1 y45 ⟨g, 7, none⟩ (.slice A' (s.L.length + 1) c'))
      obtain ⟨y47, hy47⟩ : ∃ z, z = y45.setCell ⟨g, 7, none⟩ (.slice A' (s.L.length + 1) c') := ⟨_, rfl⟩
      rw [← hy47] at hk
      rw [← hy47]
      have K48 := hid_ hk
      clear hk hy47 c7 y7
      refine u_run 22 (some 84) (.pointer (some ⟨g, 0, none⟩)) y47 rfl rfl (by kernel_rfl) (by kernel_rfl) (by kernel_rfl) (.inl (by decide)) ?_
      go_frame
      refine u_run 23 (some 85) (.pointer (some ⟨g, 8, none⟩)) y47 rfl rfl (by kernel_rfl) (by kernel_rfl) (by kernel_rfl) (.inl (by decide)) ?_
      go_frame
      refine u_one 24 rfl (by kernel_rfl) (by kernel_rfl) ?_
      have c7 : y47.cell? ⟨g, 8, none⟩ = some (.slice s.B s.refs.length s.e) := K48.out.1.cell' rfl
      have y7 := K48.out.1.frozen 8
      go_simp
      have hk := And.intro (K48.out.1.set_ 8 (.slice B' (s.refs.length + 1) d')) (Fr.setCell (p := ⟨g, 8, none⟩) K48.out.2 (.inl rfl) (.slice B' (s.refs.length + 1) d'))
      obtain ⟨y49, hy49⟩ : ∃ z, z = y47.setCell ⟨g, 8, none⟩ (.slice B' (s.refs.length + 1) d') := ⟨_, rfl⟩
      rw [← hy49] at hk
      rw [← hy49]
      have K50 := hid_ hk
      clear hk hy49 c7 y7
      have FIN := hid_ (Q44.out.fin K50.out.1 K50.out.2)
      refine u_done (by kernel_rfl) ?_
      (try simp only [Exit.then])
      (try go_frame)
      (first | (rename_i hKm; refine hKm _ _ ?_) | (rename_i hKm _; refine hKm _ _ ?_) | (rename_i hKm _ _; refine hKm _ _ ?_) | (rename_i hKm _ _ _; refine hKm _ _ ?_))
      go_meet
      case rel => exact ⟨A', c', B', d', rfl, FIN.out⟩
  case rest =>
  obtain ⟨A', c', B', d', rfl, hL, hM, hT, hF, ho1⟩ := hcut
  obtain ⟨w3, rfl⟩ : ∃ z : World, z = wc := ⟨_, rfl⟩
  have HL := hid_ hL
  have HM := hid_ hM
  have HT := hid_ hT
  have HF := hid_ hF
  have HOW := hid_ ho1
  have hlc : (s.L ++ [(⟨R, A, c, B, d⟩ : Cr)]).length = s.L.length + 1 := by simp
  clear hL hM hT hF ho1
  have b13 : w3.cell? ⟨b, 13, none⟩ = some (.int .i64 R.nslot) := HT.out.cell' rfl
  have b14 : w3.cell? ⟨b, 14, none⟩ = some (.int .i64 R.ngen) := HT.out.cell' rfl
  have g5 : w3.cell? ⟨g, 5, none⟩ = some (.int .i64 s.ns) := HL.out.b.cell' rfl
  have g6 : w3.cell? ⟨g, 6, none⟩ = some (.int .i64 s.ng) := HL.out.b.cell' rfl
  have y5 := HL.out.b.frozen 5
  have y6 := HL.out.b.frozen 6
  go_upto_region 16 with fail
  obtain ⟨w4, hw4⟩ : ∃ z, z = (w3.setCell ⟨g, 5, none⟩ (.int .i64 R.nslot)).setCell ⟨g, 6, none⟩ (.int .i64 R.ngen) := ⟨_, rfl⟩
  have f4 : Fr (only g) w3 w4 := by rw [hw4]; exact Fr.setCell (p := ⟨g, 6, none⟩) (Fr.only1 w3 ⟨g, 5, none⟩ _) (.inl rfl) _
  have b4 := (HL.out.b.set_ 5 (.int .i64 R.nslot)).set_ 6 (.int .i64 R.ngen)
  rw [← hw4] at b4
  rw [← hw4]
  clear hw4 b13 b14 g5 g6 y5 y6
  have L4 : Hid (Ldr b0 w4 g (⟨s.n, s.begun, s.over, s.hs, s.hg, R.nslot, R.ngen, A', c', s.L ++ [⟨R, A, c, B, d⟩], B', d', s.refs ++ [(s.ns, s.ng)], s.ve⟩ : LdS)) := hid_ (HL.out.upd b4 f4 rfl)
  replace HM := hid_ (HM.out.ldr HL.out.b f4)
  replace HF := hid_ (HF.out.then_only f4 (.inl (.inr (.inl rfl))))
  clear HL HT f4 b4
  have hg5 : w4.cell? ⟨g, 5, none⟩ = some (.int .i64 R.nslot) := L4.out.b.cell' rfl
  have hg6 : w4.cell? ⟨g, 6, none⟩ = some (.int .i64 R.ngen) := L4.out.b.cell' rfl
  have hq := eql_ref
  by_cases hz : R.nslot = 0 ∧ R.ngen = 0
  · have hd : (R.nslot == 0 && R.ngen == 0) = true := by simp [hz.1, hz.2]
    have HZ := hid_ hz
    clear hz
    go_wp2_with fail
    refine (ldStop_ok .nilIface (.inl rfl) L4.out).mono ?_
    rintro e w5 ⟨rfl, hl5, hf5⟩
    go_wp2_with fail
    go_ret
    exact ⟨R, A, c, B, d, kk, .nilIface, LD.out, .inl ⟨HC.out, rfl⟩, HM.out.ldr L4.out.b hf5, HF.out.then_only hf5 (.inl (.inr (.inl rfl))), .inr ⟨HC.out, A', c', B', d', true, .nilIface, rfl, hl5, HOW.out.1, HOW.out.2, .inl ⟨HZ.out.1, HZ.out.2, rfl, rfl⟩⟩⟩
  · have hd : (R.nslot == 0 && R.ngen == 0) = false := by
      simp only [Bool.and_eq_false_iff, beq_eq_false_iff_ne]
      omega
    have HZ := hid_ hz
    clear hz
    have hg7 : w4.cell? ⟨g, 7, none⟩ = some (.slice A' (s.L.length + 1) c') := by have := L4.out.b.cell' (i := 7) (v := .slice A' (s.L ++ [(⟨R, A, c, B, d⟩ : Cr)]).length c') rfl; rwa [hlc] at this
    go_upto_region 18 with fail
    (try go_frame)
    go_cut [107] (fun u wq => u = .bool (decide ((l.s : Int) ≤ ((s.L.length + 1 : Nat) : Int))) ∧ Fr none_ w4 wq)
    case first =>
      have hS0 : (fun w' : World => Fr none_ w4 w') w4.drew := (Fr.refl none_ w4).drew
      refine wp_region_u 9 (fun w' : World => Fr none_ w4 w') (by kernel_rfl) ?_
      refine u_take 0 (some 99) (.pointer (some ⟨g, 0, none⟩)) rfl rfl (by kernel_rfl) (by kernel_rfl) (by kernel_rfl) (by kernel_rfl) (fun _ _ _ h => h) (y_val (by kernel_rfl) (fun w' hS => by kernel_rfl)) hS0 ?_
      go_frame
      refine u_take 1 (some 100) (.pointer (some ⟨g, 0, none⟩)) rfl rfl (by kernel_rfl) (by kernel_rfl) (by kernel_rfl) (by kernel_rfl) (fun _ _ _ h => h) (y_val (by kernel_rfl) (fun w' hS => by kernel_rfl)) hS0 ?_
      go_frame
      refine u_take 2 (some 101) (.pointer (some ⟨g, 7, none⟩)) rfl rfl (by kernel_rfl) (by kernel_rfl) (by kernel_rfl) (by kernel_rfl) (fun _ _ _ h => h) (y_val (by kernel_rfl) (fun w' hS => by kernel_rfl)) hS0 ?_
      go_frame
      refine u_take 3 (some 102) (.slice A' (s.L.length + 1) c') rfl rfl (by kernel_rfl) (by kernel_rfl) (by kernel_rfl) (by kernel_rfl) (fun _ _ _ h => h) (y_cell 61 (.tmp 101) ⟨g, 7, none⟩ _ (by kernel_rfl) rfl (by kernel_rfl) (fun w' hS => cellFr hg7 hS) Tryd.underlying61 rfl) hS0 ?_
      go_frame
      refine u_take 4 (some 103) (.int .i64 ((s.L.length + 1 : Nat) : Int)) rfl rfl (by kernel_rfl) (by kernel_rfl) (by kernel_rfl) (by kernel_rfl) (fun _ _ _ h => h) (y_val (by kernel_rfl) (fun w' hS => by kernel_rfl)) hS0 ?_
      go_frame
      refine u_take 5 (some 104) (.pointer (some ⟨m, 0, none⟩)) rfl rfl (by kernel_rfl) (by kernel_rfl) (by kernel_rfl) (by kernel_rfl) (fun _ _ _ h => h) (y_val (by kernel_rfl) (fun w' hS => by kernel_rfl)) hS0 ?_
      go_frame
      clear hS0
      refine u_call 6 (some 105) 57 #[.pointer (some ⟨m, 0, none⟩)] (.agg (lmA l)) (Fr none_ w4.drew) rfl rfl (by kernel_rfl) (by kernel_rfl) (by kernel_rfl) (memLimits_ok _ (HM.out.keep (Fr.refl none_ w4).drew)) ?_
      intro w5 hf5
      have F5 := hid_ (((Fr.refl none_ w4).drew).then_none hf5)
      refine ⟨F5.out, ?_⟩
      go_frame
      refine u_run 7 (some 106) (.int .i64 (l.s : Int)) w5 rfl rfl (by kernel_rfl) (by kernel_rfl) (by kernel_rfl) (.inr F5.out) ?_
      go_frame
      refine u_run 8 (some 107) (.bool (decide ((l.s : Int) ≤ ((s.L.length + 1 : Nat) : Int)))) w5 rfl rfl (by kernel_rfl) (by kernel_rfl) (by kernel_rfl) (.inr F5.out) ?_
      go_frame
      refine u_done (by kernel_rfl) ?_
      (try simp only [Exit.then])
      (try go_frame)
      (first | (rename_i hKm; refine hKm _ _ ?_) | (rename_i hKm _; refine hKm _ _ ?_) | (rename_i hKm _ _; refine hKm _ _ ?_) | (rename_i hKm _ _ _; refine hKm _ _ ?_))
      go_meet
      case rel => exact ⟨rfl, F5.out⟩
    case rest =>
    obtain ⟨rfl, hf5⟩ := hcut
    obtain ⟨w5, rfl⟩ : ∃ z : World, z = wc := ⟨_, rfl⟩
    replace L4 := hid_ (L4.out.keep hf5)
    replace HM := hid_ (HM.out.keep hf5)
    replace HF := hid_ (HF.out.then_none hf5)
    clear hf5 hg5 hg6 hg7 hq hd
    by_cases hle : l.s ≤ s.L.length + 1
    · have hd : decide ((l.s : Int) ≤ ((s.L.length + 1 : Nat) : Int)) = true := by simp; omega
      have HLE := hid_ hle
      rw [hd]
      clear hd hle
      go_wp2_with fail
      refine (ldStop_ok (errV 10) (.inr ⟨_, _, rfl⟩) L4.out).mono ?_
      rintro e w6 ⟨rfl, hl6, hf6⟩
      go_wp2_with fail
      go_ret
      exact ⟨R, A, c, B, d, kk, .nilIface, LD.out, .inl ⟨HC.out, rfl⟩, HM.out.ldr L4.out.b hf6, HF.out.then_only hf6 (.inl (.inr (.inl rfl))), .inr ⟨HC.out, A', c', B', d', true, errV 10, rfl, hl6, HOW.out.1, HOW.out.2, .inr (.inl ⟨HZ.out, HLE.out, rfl, rfl⟩)⟩⟩
    · have hd : decide ((l.s : Int) ≤ ((s.L.length + 1 : Nat) : Int)) = false := by simp; omega
      have HLE := hid_ hle
      rw [hd]
      clear hd hle
      go_wp2_with fail
      go_ret
      exact ⟨R, A, c, B, d, kk, .nilIface, LD.out, .inl ⟨HC.out, rfl⟩, HM.out, HF.out, .inr ⟨HC.out, A', c', B', d', false, s.ve, rfl, by rw [← HO.out]; exact L4.out, HOW.out.1, HOW.out.2, .inr (.inr ⟨HZ.out, by have := HLE.out; omega, rfl, rfl⟩)⟩⟩
/-- What Step's later accesses tell. -/
def LdNext (b0 g m : Nat) (k : Int) (l : Lm) (x : St) (s : LdS) (w : World) (e : Ending) (w' : World) : Prop :=
  ∃ (R : Rc) (A : Option Addr) (c : Nat) (B : Option Addr) (d : Nat) (kk : Int) (v : Value), LoadR x.ss s.ns s.ng R kk ∧ Ev w' v sArena9 s.ns kk ∧ Mm w' m (k + 1) l x ∧ Fr (lall m x b0) w w' ∧
    ((kk ≠ 0 ∧ e = .returned (.bool true) ∧ Ldr b0 w' g { s with over := true, ve := v }) ∨
     (kk = 0 ∧ ∃ (A' : Option Addr) (c' : Nat) (B' : Option Addr) (d' : Nat) (ov : Bool) (ve : Value), e = .returned (.bool ov) ∧ Ldr b0 w' g ⟨s.n, s.begun, ov, s.hs, s.hg, R.nslot, R.ngen, A', c', s.L ++ [⟨R, A, c, B, d⟩], B', d', s.refs ++ [(s.ns, s.ng)], ve⟩ ∧
       ((R.nslot = 0 ∧ R.ngen = 0 ∧ ov = true ∧ ve = .nilIface) ∨ (¬ (R.nslot = 0 ∧ R.ngen = 0) ∧ l.s ≤ s.L.length + 1 ∧ ov = true ∧ ve = errV 10) ∨ (¬ (R.nslot = 0 ∧ R.ngen = 0) ∧ s.L.length + 1 < l.s ∧ ov = false ∧ ve = s.ve))))
theorem step_next {b0 g m : Nat} {k : Int} {l : Lm} {x : St} {w : World} {s : LdS} (h : Ldr b0 w g s) (hm : Mm w m k l x) (hb : ∀ i, mall m x i → i < b0) (h0 : 0 ≤ k) (h1 : k ≤ 100000) (ho : s.over = false) (hg : s.begun = true) (hl1 : s.L.length ≤ 5000) (hl2 : s.refs.length ≤ 5000) :
    Calls Tryd.prog 23 #[.pointer (some ⟨g, 0, none⟩), .pointer (some ⟨m, 0, none⟩)] w (LdNext b0 g m k l x s w) := (step_nextO h hm hb h0 h1 ho hg hl1 hl2).mono fun e w' hh => by
  obtain ⟨R, A, c, B, d, kk, v, h1, h2, h3, h4, h5⟩ := hh
  refine ⟨R, A, c, B, d, kk, v, h1, h2, h3, h4.mono (fun i _ e => h.lall i e), ?_⟩
  rcases h5 with h5 | ⟨h5, A', c', B', d', ov, ve, h6, h7, _, _, h8⟩
  · exact .inl h5
  · exact .inr ⟨h5, A', c', B', d', ov, ve, h6, h7, h8⟩
end Go.Proofs.YtfihfjbakfadkaaDoor

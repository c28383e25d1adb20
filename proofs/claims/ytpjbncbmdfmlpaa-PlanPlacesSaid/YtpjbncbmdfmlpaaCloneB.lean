/- arena.Clone by contract, at as many rows as may be. (XClone's walk.) -/
import Derived.Test.YtpjbncbmdfmlpaaClone
namespace Go.Proofs.Ytpjbncbmdfmlpaa
open Go.RowKit
set_option maxRecDepth 100000
set_option linter.unusedVariables false

set_option maxHeartbeats 2000000 in
theorem clone_big (R : Rc) (A : Option Addr) (c : Nat) (B : Option Addr) (d : Nat) (w : World) (h : RecReads w R A B) (hr : R.rows.length ≤ 4398046511104) (he : R.ents.length ≤ 1000) :
    Calls Try.prog 23 #[recV R (.slice A R.rows.length c) (.slice B R.ents.length d)] w (ClonePost R w) := by
  obtain ⟨i0, hi0, hz0, hs0, hb0⟩ := info_parts row_info
  obtain ⟨j0, hj0, hy0, ht0, hc0⟩ := info_parts entry_info
  have Hi := hid_ (And.intro hi0 (And.intro hz0 (And.intro hs0 hb0)))
  have Hj := hid_ (And.intro hj0 (And.intro hy0 (And.intro ht0 hc0)))
  have H := hid_ h
  clear hi0 hz0 hs0 hb0 hj0 hy0 ht0 hc0 h
  go_enter Try.func23, Try.ntmps23
  go_wp2_with (first
    | (at_builtin; refine wpList_append_any _ rfl (.tmp 3) (.tmp 5) 36 rfl w.heap.size 62 i0 _ 2 32 Try.underlying36 Hi.out.1 Hi.out.2.1 Hi.out.2.2.1 Hi.out.2.2.2 rfl (by omega) (.slice (some ⟨w.heap.size + 1 + 1, 0, none⟩) 0 0) 0 [] rfl (own_empty_at _ _ _ _ _ (by simp; omega) (by simp)) A R.rows.length c (rwFlat R.rows) rfl (((H.out.r.alloc _).alloc _).alloc _) (rwFlat_one _) (by simp only [maxLen]; omega) (by omega) (by simp; omega) ?_; intro A1 c1 w3 hown3 hgr3; have hp := clone_packA (vr := .slice A R.rows.length c) (ve := .slice B R.ents.length d) H.out hown3 hgr3; have HP := hid_ hp; have e6 : w3.cell? ⟨w.heap.size, 6, none⟩ = some (.slice B R.ents.length d) := hp.k0.cell' rfl; have e5 : w3.cell? ⟨w.heap.size, 5, none⟩ = some (.slice A R.rows.length c) := hp.k0.cell' rfl; have f5 := hp.k0.frozen 5; have l3 := hp.k0.lt; clear hown3 hgr3 hp)
    | (at_builtin; refine wpList_append_any _ rfl (.tmp 8) (.tmp 10) 39 rfl w.heap.size 64 j0 _ 2 24 Try.underlying39 Hj.out.1 Hj.out.2.1 Hj.out.2.2.1 Hj.out.2.2.2 rfl (by omega) (.slice (some ⟨w3.heap.size, 0, none⟩) 0 0) 0 [] rfl (own_empty_at _ _ _ _ _ (by simp; omega) (by simp)) B R.ents.length d (etFlat R.ents) rfl (HP.out.rd5 H.out) (etFlat_one _) (by simp only [maxLen]; omega) (by omega) (by simp; omega) ?_; intro A2 c2 w5 hown5 hgr5; have hp := clone_packB HP.out hown5 hgr5; have HQ := hid_ hp; have r0 : w5.cell? ⟨w.heap.size, 0, none⟩ = some (.int .i64 R.kind) := hp.k0.cell' rfl; have r1 : w5.cell? ⟨w.heap.size, 1, none⟩ = some (.string R.low) := hp.k0.cell' rfl; have r2 : w5.cell? ⟨w.heap.size, 2, none⟩ = some (.string R.high) := hp.k0.cell' rfl; have r3 : w5.cell? ⟨w.heap.size, 3, none⟩ = some (.bool R.unb) := hp.k0.cell' rfl; have r4 : w5.cell? ⟨w.heap.size, 4, none⟩ = some (.int .i64 R.right) := hp.k0.cell' rfl; have r5 : w5.cell? ⟨w.heap.size, 5, none⟩ = some (.slice A1 R.rows.length c1) := hp.k0.cell' rfl; have r6 : w5.cell? ⟨w.heap.size, 6, none⟩ = some (.slice B R.ents.length d) := hp.k0.cell' rfl; have r7 : w5.cell? ⟨w.heap.size, 7, none⟩ = some (.string R.key) := hp.k0.cell' rfl; have r8 : w5.cell? ⟨w.heap.size, 8, none⟩ = some (.string R.val) := hp.k0.cell' rfl; have r9 : w5.cell? ⟨w.heap.size, 9, none⟩ = some (.int .i64 R.page) := hp.k0.cell' rfl; have r10 : w5.cell? ⟨w.heap.size, 10, none⟩ = some (.int .i64 R.hpage) := hp.k0.cell' rfl; have r11 : w5.cell? ⟨w.heap.size, 11, none⟩ = some (.int .i64 R.hleft) := hp.k0.cell' rfl; have r12 : w5.cell? ⟨w.heap.size, 12, none⟩ = some (.string R.hkey) := hp.k0.cell' rfl; have r13 : w5.cell? ⟨w.heap.size, 13, none⟩ = some (.int .i64 R.nslot) := hp.k0.cell' rfl; have r14 : w5.cell? ⟨w.heap.size, 14, none⟩ = some (.int .i64 R.ngen) := hp.k0.cell' rfl; have fr6 := hp.k0.frozen 6; have s0 : w5.cell? ⟨w.heap.size + 1, 0, none⟩ = some (.int .i64 0) := hp.k1.cell' rfl; have s1 : w5.cell? ⟨w.heap.size + 1, 1, none⟩ = some (.string nilS) := hp.k1.cell' rfl; have s2 : w5.cell? ⟨w.heap.size + 1, 2, none⟩ = some (.string nilS) := hp.k1.cell' rfl; have s3 : w5.cell? ⟨w.heap.size + 1, 3, none⟩ = some (.bool false) := hp.k1.cell' rfl; have s4 : w5.cell? ⟨w.heap.size + 1, 4, none⟩ = some (.int .i64 0) := hp.k1.cell' rfl; have s5 : w5.cell? ⟨w.heap.size + 1, 5, none⟩ = some (.slice none 0 0) := hp.k1.cell' rfl; have s6 : w5.cell? ⟨w.heap.size + 1, 6, none⟩ = some (.slice none 0 0) := hp.k1.cell' rfl; have s7 : w5.cell? ⟨w.heap.size + 1, 7, none⟩ = some (.string nilS) := hp.k1.cell' rfl; have s8 : w5.cell? ⟨w.heap.size + 1, 8, none⟩ = some (.string nilS) := hp.k1.cell' rfl; have s9 : w5.cell? ⟨w.heap.size + 1, 9, none⟩ = some (.int .i64 0) := hp.k1.cell' rfl; have s10 : w5.cell? ⟨w.heap.size + 1, 10, none⟩ = some (.int .i64 0) := hp.k1.cell' rfl; have s11 : w5.cell? ⟨w.heap.size + 1, 11, none⟩ = some (.int .i64 0) := hp.k1.cell' rfl; have s12 : w5.cell? ⟨w.heap.size + 1, 12, none⟩ = some (.string nilS) := hp.k1.cell' rfl; have s13 : w5.cell? ⟨w.heap.size + 1, 13, none⟩ = some (.int .i64 0) := hp.k1.cell' rfl; have s14 : w5.cell? ⟨w.heap.size + 1, 14, none⟩ = some (.int .i64 0) := hp.k1.cell' rfl; have z0 := hp.k1.frozen 0; have z1 := hp.k1.frozen 1; have z2 := hp.k1.frozen 2; have z3 := hp.k1.frozen 3; have z4 := hp.k1.frozen 4; have z5 := hp.k1.frozen 5; have z6 := hp.k1.frozen 6; have z7 := hp.k1.frozen 7; have z8 := hp.k1.frozen 8; have z9 := hp.k1.frozen 9; have z10 := hp.k1.frozen 10; have z11 := hp.k1.frozen 11; have z12 := hp.k1.frozen 12; have z13 := hp.k1.frozen 13; have z14 := hp.k1.frozen 14; clear hown5 hgr5 hp))
  clear r0 s0 z0 r1 s1 z1 r2 s2 z2 r3 s3 z3 r4 s4 z4 r5 s5 z5 r6 s6 z6 r7 s7 z7 r8 s8 z8 r9 s9 z9 r10 s10 z10 r11 s11 z11 r12 s12 z12 r13 s13 z13 r14 s14 z14 fr6 e5 e6 f5
  have F6 := Fr.only1 w5 ⟨w.heap.size, 6, none⟩ (.slice A2 R.ents.length c2)
  have K1 := HQ.out.k1.fr F6 (only_ne (by simp))
  obtain ⟨qb, qf⟩ := box15 K1 (.int .i64 R.kind) (.string R.low) (.string R.high) (.bool R.unb) (.int .i64 R.right) (.slice A1 R.rows.length c1) (.slice A2 R.ents.length c2) (.string R.key) (.string R.val) (.int .i64 R.page) (.int .i64 R.hpage) (.int .i64 R.hleft) (.string R.hkey) (.int .i64 R.nslot) (.int .i64 R.ngen)
  have q0 := qb.cell' (i := 0) rfl
  have q1 := qb.cell' (i := 1) rfl
  have q2 := qb.cell' (i := 2) rfl
  have q3 := qb.cell' (i := 3) rfl
  have q4 := qb.cell' (i := 4) rfl
  have q5 := qb.cell' (i := 5) rfl
  have q6 := qb.cell' (i := 6) rfl
  have q7 := qb.cell' (i := 7) rfl
  have q8 := qb.cell' (i := 8) rfl
  have q9 := qb.cell' (i := 9) rfl
  have q10 := qb.cell' (i := 10) rfl
  have q11 := qb.cell' (i := 11) rfl
  have q12 := qb.cell' (i := 12) rfl
  have q13 := qb.cell' (i := 13) rfl
  have q14 := qb.cell' (i := 14) rfl
  have O1 := own_fr (own_fr HQ.out.o1 F6 (fun k hk e => own_blk_ne HQ.out.o1 HQ.out.k0 (by decide) (by rw [hk, show k = w.heap.size from e]))) qf (fun k hk e => own_blk_ne HQ.out.o1 HQ.out.k1 (by decide) (by rw [hk, show k = w.heap.size + 1 from e]))
  have O2 := own_fr (own_fr HQ.out.o2 F6 (fun k hk e => own_blk_ne HQ.out.o2 HQ.out.k0 (by decide) (by rw [hk, show k = w.heap.size from e]))) qf (fun k hk e => own_blk_ne HQ.out.o2 HQ.out.k1 (by decide) (by rw [hk, show k = w.heap.size + 1 from e]))
  have G := (HQ.out.f5.then_only F6 (.inr (Nat.le_refl _))).then_only qf (.inr (by omega))
  clear K1 F6 qb qf
  refine bodyPost_ret (v := recV R (.slice A1 R.rows.length c1) (.slice A2 R.ents.length c2)) ?_ rfl ⟨A1, c1, A2, c2, rfl, ⟨O1, O2⟩, G⟩
  simp [results, Try.results23, go_sem, q0, q1, q2, q3, q4, q5, q6, q7, q8, q9, q10, q11, q12, q13, q14]
end Go.Proofs.Ytpjbncbmdfmlpaa

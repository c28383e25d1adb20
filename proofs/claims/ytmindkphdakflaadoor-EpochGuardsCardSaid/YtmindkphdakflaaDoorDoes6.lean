/- Layer 6's does: a step in both: they tell the same, and stay in step. Written by gen_does6.py. -/
import Derived.Test.YtmindkphdakflaaDoorRef6
namespace Go.Proofs.YtmindkphdakflaaDoor
open Go.RowKit
set_option maxRecDepth 100000
set_option linter.unusedVariables false

theorem rbump_any (now last : Int) (A : Option Addr) (c : Nat) (S : List Int) (w : World) (h1 : 1 ≤ now) (hn : now ≤ last) (hl : last ≤ 1099511627776) : Calls Tryd.prog 25 #[rclk now last (.slice A S.length c)] w fun e w' => e = .returned (.tuple #[rclk (bumpN now last) last (.slice A S.length c), .int .i64 (bumpN now last), .int .i64 (bumpC now last)]) ∧ Fr none_ w w' := by
  by_cases he : now = last
  · have e1 : bumpN now last = now := by simp [bumpN, he]
    have e2 : bumpC now last = 5 := by simp [bumpC, he]
    rw [e1, e2]
    exact rbump_end now last A c S w he
  · have e1 : bumpN now last = now + 1 := by simp [bumpN, he]
    have e2 : bumpC now last = 0 := by simp [bumpC, he]
    rw [e1, e2]
    exact rbump_ok now last A c S w (by omega) h1 hl

structure DSt6 (w w' : World) (C M : Nat) (now0 last : Int) (v : Value) (S0 : List Int) (now : Int) (S : List Int) (k : Nat) (verb t a : Int) : Prop where
  b0 : Blk w' w.heap.size 28 #[.int .i64 now0, .int .i64 last, v]
  b1 : Blk w' (w.heap.size + 1) 33 #[.int .i64 verb, .int .i64 t, .int .i64 a]
  b2 : Blk w' (w.heap.size + 1 + 1) 28 #[.int .i64 0, .int .i64 0, .slice none 0 0]
  ck : Ck w' C M now last S k
  own : SOwn w' v S0
  fr : Fr (either C M) w w'
  la : Laid w'
  hC : C < w.heap.size
  hM : M < w.heap.size
  h0 : 0 ≠ C ∧ 0 ≠ M
/-- A row of the call's own is none of the clock's blocks. -/
theorem Ck.off {w : World} {C M k : Nat} {now last : Int} {S : List Int} (h : Ck w C M now last S k) {base : Nat} {e : TypeId} {size n : Nat} {v : Value} {xs : List Value} (ho : w.ownsRow base e size v n xs) (he : e ≠ 57) : ∀ b, v.ownBlock = some b → ¬ either C M b := by
  intro b hb hh
  rcases hh with rfl | rfl
  · obtain ⟨cs, hc⟩ := h.blkC
    exact own_blk_ne ho hc he hb
  · obtain ⟨es, cl, hm⟩ := h.objM
    rcases ho.2 with ⟨rfl, _⟩ | ⟨g, cap, cur, rfl, _, hh, _⟩
    · simp [Value.ownBlock] at hb
    · obtain rfl : g = b := by simpa [Value.ownBlock] using hb
      rw [hh] at hm
      cases hm
section
variable {w w' w2 : World} {C M k k2 : Nat} {now0 now now2 last : Int} {v : Value} {S0 S S2 : List Int} {verb t a : Int}
theorem DSt6.start (w : World) (C M : Nat) (now last : Int) (v : Value) (S : List Int) (k : Nat) (verb t a : Int) (hk : Ck w C M now last S k) (ho : SOwn w v S) (hL : Laid w) (h0 : 0 ≠ C ∧ 0 ≠ M) :
    DSt6 w (((w.alloc (rclkB now last v)).alloc (.cells #[.int .i64 verb, .int .i64 t, .int .i64 a] 33)).alloc (rclkB 0 0 (.slice none 0 0))) C M now last v S now S k verb t a := by
  have F : Fr none_ w (((w.alloc (rclkB now last v)).alloc (.cells #[.int .i64 verb, .int .i64 t, .int .i64 a] 33)).alloc (rclkB 0 0 (.slice none 0 0))) := by repeat (first | exact Fr.refl _ _ | apply Fr.drew | apply Fr.alloc)
  have k1 := (Blk.new (w.alloc (rclkB now last v)) 33 #[.int .i64 verb, .int .i64 t, .int .i64 a])
  have k2 := (Blk.new ((w.alloc (rclkB now last v)).alloc (.cells #[.int .i64 verb, .int .i64 t, .int .i64 a] 33)) 28 #[.int .i64 0, .int .i64 0, .slice none 0 0])
  simp only [World.size_alloc] at k1 k2
  exact ⟨((Blk.new w _ _).alloc _).alloc _, k1.alloc _, k2, hk.keep F, own_none ho F, F.mono (fun _ _ e => e.elim), hL.fr F id, hk.ltC, hk.ltM, h0⟩
theorem DSt6.keepC (h : DSt6 w w' C M now0 last v S0 now S k verb t a) (hf : Fr (either C M) w' w2) (hk : Ck w2 C M now2 last S2 k2) : DSt6 w w2 C M now0 last v S0 now2 S2 k2 verb t a := by
  have hC := h.hC
  have hM := h.hM
  exact ⟨h.b0.fr hf (either_ne (by omega) (by omega)), h.b1.fr hf (either_ne (by omega) (by omega)), h.b2.fr hf (either_ne (by omega) (by omega)), hk, own_fr h.own hf (h.ck.off h.own (by decide)), h.fr.trans hf (fun _ _ => id) (fun _ _ => id), h.la.fr hf (either_ne h.h0.1 h.h0.2), hC, hM, h.h0⟩
theorem DSt6.keep (h : DSt6 w w' C M now0 last v S0 now S k verb t a) (hf : Fr none_ w' w2) : DSt6 w w2 C M now0 last v S0 now S k verb t a :=
  h.keepC (hf.mono (fun _ _ e => e.elim)) (h.ck.keep hf)
theorem DSt6.done (h : DSt6 w w' C M now0 last v S0 now S k verb t a) (x y z : Value) {w9 : World} (hw : w9 = ((w'.setCell ⟨w.heap.size + 1 + 1, 0, none⟩ x).setCell ⟨w.heap.size + 1 + 1, 1, none⟩ y).setCell ⟨w.heap.size + 1 + 1, 2, none⟩ z) :
    Blk w9 (w.heap.size + 1 + 1) 28 #[x, y, z] ∧ Fr (either C M) w w9 ∧ Ck w9 C M now last S k ∧ Laid w9 ∧ ∀ v' S', SOwn w' v' S' → SOwn w9 v' S' := by
  subst hw
  have hC := h.hC
  have hM := h.hM
  have hl := h.la.lt
  obtain ⟨qb, qf⟩ := box3 h.b2 x y z
  have h00 := h.b0.lt
  have hw0 : 0 < w.heap.size := by omega
  exact ⟨qb, h.fr.then_only qf (.inr (by omega)), h.ck.fr qf (only_ne (by omega)) (only_ne (by omega)), h.la.fr qf (only_ne (by omega)), fun v' S' ho => own_fr ho qf (fun b hb e => own_blk_ne ho h.b2 (by decide) (by rw [hb, show b = w.heap.size + 1 + 1 from e]))⟩
end
def DoesPost6 (w : World) (C M : Nat) (now last : Int) (S : List Int) (k : Nat) (e : Ending) (w' : World) : Prop :=
  ∃ A c, e = .returned (.tuple #[rclk now last (.slice A S.length c), .bool true]) ∧ Ck w' C M now last S k ∧ SOwn w' (.slice A S.length c) S ∧ Fr (either C M) w w' ∧ Laid w'

section
variable (C M k : Nat) (now last : Int) (A : Option Addr) (cp : Nat) (S : List Int) (verb t a : Int) (w : World)

set_option maxHeartbeats 4000000 in
theorem does6_bump (hk : Ck w C M now last S k) (ho : SOwn w (.slice A S.length cp) S) (hL : Laid w) (h0 : 0 ≠ C ∧ 0 ≠ M) :
    Calls Tryd.prog 13 #[.pointer (some ⟨C, 0, none⟩), rclk now last (.slice A S.length cp), .agg #[.int .i64 0, .int .i64 t, .int .i64 a]] w (DoesPost6 w C M (bumpN now last) last S (k + 1)) := by
  obtain ⟨bd1, bd2, bd3, bd4, bd5, bd6⟩ := hk.bd
  have S0 := hid_ (DSt6.start w C M now last (.slice A S.length cp) S k 0 t a hk ho hL h0)
  have Bd6 := hid_ bd6
  clear hk ho hL h0 bd6
  go_enter Tryd.func13, Tryd.ntmps13
  go_wp2_with fail
  refine (bump_ck S0.out.ck).mono ?_
  rintro e w3 ⟨rfl, hk3, hf3⟩
  have S3 := hid_ (S0.out.keepC hf3 hk3)
  clear hk3 hf3
  have c0 : w3.cell? ⟨w.heap.size, 0, none⟩ = some (.int .i64 now) := S3.out.b0.cell' rfl
  have c1 : w3.cell? ⟨w.heap.size, 1, none⟩ = some (.int .i64 last) := S3.out.b0.cell' rfl
  have c2 : w3.cell? ⟨w.heap.size, 2, none⟩ = some (.slice A S.length cp) := S3.out.b0.cell' rfl
  go_wp2_with fail
  refine (rbump_any now last A cp S _ bd3 bd4 bd5).mono ?_
  rintro e w2 ⟨rfl, hf2⟩
  have ho2 := own_none S3.out.own hf2
  obtain ⟨wq, hwq⟩ : ∃ wq, wq = w2.alloc (rclkB (bumpN now last) last (.slice A S.length cp)) := ⟨_, rfl⟩
  have hfq : Fr none_ w2 wq := by rw [hwq]; exact (Fr.refl none_ w2).alloc _
  have S2 := hid_ ((S3.out.keep hf2).keep hfq)
  have O2 := hid_ (own_none ho2 hfq)
  have Q2 : Hid (Blk wq w2.heap.size 28 #[.int .i64 (bumpN now last), .int .i64 last, .slice A S.length cp]) := hid_ (by rw [hwq]; exact Blk.new w2 _ _)
  have hz2 : w.heap.size + 1 + 1 < w2.heap.size := (S3.out.keep hf2).b2.lt
  clear c0 c1 c2 ho2 hf2 hfq
  go_wp2_with fail
  change Code.wp _ _ _ _ (w2.alloc (rclkB (bumpN now last) last (.slice A S.length cp)))
  rw [← hwq]
  clear hwq
  have q0 : wq.cell? ⟨w2.heap.size, 0, none⟩ = some (.int .i64 (bumpN now last)) := Q2.out.cell' rfl
  have q1 : wq.cell? ⟨w2.heap.size, 1, none⟩ = some (.int .i64 last) := Q2.out.cell' rfl
  have q2 : wq.cell? ⟨w2.heap.size, 2, none⟩ = some (.slice A S.length cp) := Q2.out.cell' rfl
  go_region_held3 (fun w' => w'.cell? ⟨w2.heap.size, 0, none⟩ = some (.int .i64 (bumpN now last)) ∧ w'.cell? ⟨w2.heap.size, 1, none⟩ = some (.int .i64 last) ∧ w'.cell? ⟨w2.heap.size, 2, none⟩ = some (.slice A S.length cp))
    (first | exact ⟨q0, q1, q2⟩ | (have T := Q5.out; exact ⟨T.cell' rfl, T.cell' rfl, T.cell' rfl⟩) | (have T := Q5.out.fr (box3 S5.out.b2 (.int .i64 (bumpN now last)) (.int .i64 last) (.slice A S.length cp)).2 (only_ne (by omega)); exact ⟨T.cell' rfl, T.cell' rfl, T.cell' rfl⟩))
    (first | (go_at_call 26; refine (code_any (bumpC now last) _ ?_).mono ?_; (exact S2.out.la.fr ((Fr.refl none_ wq).drew) id); rintro e w5 ⟨rfl, hf5⟩; have S5 := hid_ (S2.out.keep (((Fr.refl none_ wq).drew).then_none hf5)); have O5 := hid_ (own_none O2.out (((Fr.refl none_ wq).drew).then_none hf5)); have Q5 := hid_ (Q2.out.fr (((Fr.refl none_ wq).drew).then_none hf5) id); clear hf5; have r0 : w5.cell? ⟨w.heap.size + 1 + 1, 0, none⟩ = some (.int .i64 0) := S5.out.b2.cell' rfl; have r1 : w5.cell? ⟨w.heap.size + 1 + 1, 1, none⟩ = some (.int .i64 0) := S5.out.b2.cell' rfl; have r2 : w5.cell? ⟨w.heap.size + 1 + 1, 2, none⟩ = some (.slice none 0 0) := S5.out.b2.cell' rfl; have y0 := S5.out.b2.frozen 0; have y1 := S5.out.b2.frozen 1; have y2 := S5.out.b2.frozen 2))
  clear r0 r1 r2 y0 y1 y2 q0 q1 q2
  go_wp2
  obtain ⟨qb, d1, d2, d3, d4⟩ := S5.out.done (.int .i64 (bumpN now last)) (.int .i64 last) (.slice A S.length cp) rfl
  have x0 := qb.cell' (i := 0) rfl
  have x1 := qb.cell' (i := 1) rfl
  have x2 := qb.cell' (i := 2) rfl
  refine bodyPost_ret (v := .tuple #[rclk (bumpN now last) last (.slice A S.length cp), .bool true]) ?_ rfl ⟨A, cp, rfl, d2, d4 _ _ O5.out, d1, d3⟩
  simp [results, Tryd.results13, go_sem, x0, x1, x2]

set_option maxHeartbeats 4000000 in
theorem does6_enter (hk : Ck w C M now last S k) (ho : SOwn w (.slice A S.length cp) S) (hL : Laid w) (h0 : 0 ≠ C ∧ 0 ≠ M) (hkk : k ≤ 1000) (hwa : (Lit.int .i64 a).wf = true) :
    Calls Tryd.prog 13 #[.pointer (some ⟨C, 0, none⟩), rclk now last (.slice A S.length cp), .agg #[.int .i64 1, .int .i64 t, .int .i64 a]] w (DoesPost6 w C M now last (enterS now S t a) (k + 1)) := by
  obtain ⟨bd1, bd2, bd3, bd4, bd5, bd6⟩ := hk.bd
  have S0 := hid_ (DSt6.start w C M now last (.slice A S.length cp) S k 1 t a hk ho hL h0)
  have Bd6 := hid_ bd6
  clear hk ho hL h0 bd6
  go_enter Tryd.func13, Tryd.ntmps13
  go_wp2_with fail
  refine (enter_ck S0.out.ck hkk t a hwa).mono ?_
  rintro e w3 ⟨rfl, hk3, hf3⟩
  have S3 := hid_ (S0.out.keepC hf3 hk3)
  clear hk3 hf3
  have c0 : w3.cell? ⟨w.heap.size, 0, none⟩ = some (.int .i64 now) := S3.out.b0.cell' rfl
  have c1 : w3.cell? ⟨w.heap.size, 1, none⟩ = some (.int .i64 last) := S3.out.b0.cell' rfl
  have c2 : w3.cell? ⟨w.heap.size, 2, none⟩ = some (.slice A S.length cp) := S3.out.b0.cell' rfl
  have c3 : w3.cell? ⟨w.heap.size + 1, 1, none⟩ = some (.int .i64 t) := S3.out.b1.cell' rfl
  have c4 : w3.cell? ⟨w.heap.size + 1, 2, none⟩ = some (.int .i64 a) := S3.out.b1.cell' rfl
  go_wp2_with fail
  refine (renter_any now last A cp S t a _ S3.out.own bd2).mono ?_
  rintro e w2 ⟨A2, c2', rfl, ho2, hf2⟩
  obtain ⟨wq, hwq⟩ : ∃ wq, wq = w2.alloc (rclkB now last (.slice A2 (enterS now S t a).length c2')) := ⟨_, rfl⟩
  have hfq : Fr none_ w2 wq := by rw [hwq]; exact (Fr.refl none_ w2).alloc _
  have S2 := hid_ ((S3.out.keep hf2).keep hfq)
  have O2 := hid_ (own_none ho2 hfq)
  have Q2 : Hid (Blk wq w2.heap.size 28 #[.int .i64 now, .int .i64 last, .slice A2 (enterS now S t a).length c2']) := hid_ (by rw [hwq]; exact Blk.new w2 _ _)
  have hz2 : w.heap.size + 1 + 1 < w2.heap.size := (S3.out.keep hf2).b2.lt
  clear c0 c1 c2 c3 c4 ho2 hf2 hfq
  go_wp2_with fail
  change Code.wp _ _ _ _ (w2.alloc (rclkB now last (.slice A2 (enterS now S t a).length c2')))
  rw [← hwq]
  clear hwq
  have q0 : wq.cell? ⟨w2.heap.size, 0, none⟩ = some (.int .i64 now) := Q2.out.cell' rfl
  have q1 : wq.cell? ⟨w2.heap.size, 1, none⟩ = some (.int .i64 last) := Q2.out.cell' rfl
  have q2 : wq.cell? ⟨w2.heap.size, 2, none⟩ = some (.slice A2 (enterS now S t a).length c2') := Q2.out.cell' rfl
  go_region_held3 (fun w' => w'.cell? ⟨w2.heap.size, 0, none⟩ = some (.int .i64 now) ∧ w'.cell? ⟨w2.heap.size, 1, none⟩ = some (.int .i64 last) ∧ w'.cell? ⟨w2.heap.size, 2, none⟩ = some (.slice A2 (enterS now S t a).length c2'))
    (first | exact ⟨q0, q1, q2⟩ | (have T := Q5.out; exact ⟨T.cell' rfl, T.cell' rfl, T.cell' rfl⟩) | (have T := Q5.out.fr (box3 S5.out.b2 (.int .i64 now) (.int .i64 last) (.slice A2 (enterS now S t a).length c2')).2 (only_ne (by omega)); exact ⟨T.cell' rfl, T.cell' rfl, T.cell' rfl⟩))
    (first | (go_at_call 26; refine (code_any (enterC now S t a) _ ?_).mono ?_; (exact S2.out.la.fr ((Fr.refl none_ wq).drew) id); rintro e w5 ⟨rfl, hf5⟩; have S5 := hid_ (S2.out.keep (((Fr.refl none_ wq).drew).then_none hf5)); have O5 := hid_ (own_none O2.out (((Fr.refl none_ wq).drew).then_none hf5)); have Q5 := hid_ (Q2.out.fr (((Fr.refl none_ wq).drew).then_none hf5) id); clear hf5; have r0 : w5.cell? ⟨w.heap.size + 1 + 1, 0, none⟩ = some (.int .i64 0) := S5.out.b2.cell' rfl; have r1 : w5.cell? ⟨w.heap.size + 1 + 1, 1, none⟩ = some (.int .i64 0) := S5.out.b2.cell' rfl; have r2 : w5.cell? ⟨w.heap.size + 1 + 1, 2, none⟩ = some (.slice none 0 0) := S5.out.b2.cell' rfl; have y0 := S5.out.b2.frozen 0; have y1 := S5.out.b2.frozen 1; have y2 := S5.out.b2.frozen 2))
  clear r0 r1 r2 y0 y1 y2 q0 q1 q2
  go_wp2
  obtain ⟨qb, d1, d2, d3, d4⟩ := S5.out.done (.int .i64 now) (.int .i64 last) (.slice A2 (enterS now S t a).length c2') rfl
  have x0 := qb.cell' (i := 0) rfl
  have x1 := qb.cell' (i := 1) rfl
  have x2 := qb.cell' (i := 2) rfl
  refine bodyPost_ret (v := .tuple #[rclk now last (.slice A2 (enterS now S t a).length c2'), .bool true]) ?_ rfl ⟨A2, c2', rfl, d2, d4 _ _ O5.out, d1, d3⟩
  simp [results, Tryd.results13, go_sem, x0, x1, x2]

set_option maxHeartbeats 4000000 in
theorem does6_leave (hk : Ck w C M now last S k) (ho : SOwn w (.slice A S.length cp) S) (hL : Laid w) (h0 : 0 ≠ C ∧ 0 ≠ M) :
    Calls Tryd.prog 13 #[.pointer (some ⟨C, 0, none⟩), rclk now last (.slice A S.length cp), .agg #[.int .i64 2, .int .i64 t, .int .i64 a]] w (DoesPost6 w C M now last (leaveS S t) (k + 1)) := by
  obtain ⟨bd1, bd2, bd3, bd4, bd5, bd6⟩ := hk.bd
  have S0 := hid_ (DSt6.start w C M now last (.slice A S.length cp) S k 2 t a hk ho hL h0)
  have Bd6 := hid_ bd6
  clear hk ho hL h0 bd6
  go_enter Tryd.func13, Tryd.ntmps13
  go_wp2_with fail
  refine (leave_ck S0.out.ck t).mono ?_
  rintro e w3 ⟨rfl, hk3, hf3⟩
  have S3 := hid_ (S0.out.keepC hf3 hk3)
  clear hk3 hf3
  have c0 : w3.cell? ⟨w.heap.size, 0, none⟩ = some (.int .i64 now) := S3.out.b0.cell' rfl
  have c1 : w3.cell? ⟨w.heap.size, 1, none⟩ = some (.int .i64 last) := S3.out.b0.cell' rfl
  have c2 : w3.cell? ⟨w.heap.size, 2, none⟩ = some (.slice A S.length cp) := S3.out.b0.cell' rfl
  have c3 : w3.cell? ⟨w.heap.size + 1, 1, none⟩ = some (.int .i64 t) := S3.out.b1.cell' rfl
  have c4 : w3.cell? ⟨w.heap.size + 1, 2, none⟩ = some (.int .i64 a) := S3.out.b1.cell' rfl
  go_wp2_with fail
  refine (rleave_any now last A cp S t _ S3.out.own bd2 (fun x hx => (Bd6.out x hx).1)).mono ?_
  rintro e w2 ⟨A2, c2', rfl, ho2, hf2⟩
  obtain ⟨wq, hwq⟩ : ∃ wq, wq = w2.alloc (rclkB now last (.slice A2 (leaveS S t).length c2')) := ⟨_, rfl⟩
  have hfq : Fr none_ w2 wq := by rw [hwq]; exact (Fr.refl none_ w2).alloc _
  have S2 := hid_ ((S3.out.keep hf2).keep hfq)
  have O2 := hid_ (own_none ho2 hfq)
  have Q2 : Hid (Blk wq w2.heap.size 28 #[.int .i64 now, .int .i64 last, .slice A2 (leaveS S t).length c2']) := hid_ (by rw [hwq]; exact Blk.new w2 _ _)
  have hz2 : w.heap.size + 1 + 1 < w2.heap.size := (S3.out.keep hf2).b2.lt
  clear c0 c1 c2 c3 c4 ho2 hf2 hfq
  go_wp2_with fail
  change Code.wp _ _ _ _ (w2.alloc (rclkB now last (.slice A2 (leaveS S t).length c2')))
  rw [← hwq]
  clear hwq
  have q0 : wq.cell? ⟨w2.heap.size, 0, none⟩ = some (.int .i64 now) := Q2.out.cell' rfl
  have q1 : wq.cell? ⟨w2.heap.size, 1, none⟩ = some (.int .i64 last) := Q2.out.cell' rfl
  have q2 : wq.cell? ⟨w2.heap.size, 2, none⟩ = some (.slice A2 (leaveS S t).length c2') := Q2.out.cell' rfl
  go_region_held3 (fun w' => w'.cell? ⟨w2.heap.size, 0, none⟩ = some (.int .i64 now) ∧ w'.cell? ⟨w2.heap.size, 1, none⟩ = some (.int .i64 last) ∧ w'.cell? ⟨w2.heap.size, 2, none⟩ = some (.slice A2 (leaveS S t).length c2'))
    (first | exact ⟨q0, q1, q2⟩ | (have T := Q5.out; exact ⟨T.cell' rfl, T.cell' rfl, T.cell' rfl⟩) | (have T := Q5.out.fr (box3 S5.out.b2 (.int .i64 now) (.int .i64 last) (.slice A2 (leaveS S t).length c2')).2 (only_ne (by omega)); exact ⟨T.cell' rfl, T.cell' rfl, T.cell' rfl⟩))
    (first | (go_at_call 26; refine (code_any (leaveC S t) _ ?_).mono ?_; (exact S2.out.la.fr ((Fr.refl none_ wq).drew) id); rintro e w5 ⟨rfl, hf5⟩; have S5 := hid_ (S2.out.keep (((Fr.refl none_ wq).drew).then_none hf5)); have O5 := hid_ (own_none O2.out (((Fr.refl none_ wq).drew).then_none hf5)); have Q5 := hid_ (Q2.out.fr (((Fr.refl none_ wq).drew).then_none hf5) id); clear hf5; have r0 : w5.cell? ⟨w.heap.size + 1 + 1, 0, none⟩ = some (.int .i64 0) := S5.out.b2.cell' rfl; have r1 : w5.cell? ⟨w.heap.size + 1 + 1, 1, none⟩ = some (.int .i64 0) := S5.out.b2.cell' rfl; have r2 : w5.cell? ⟨w.heap.size + 1 + 1, 2, none⟩ = some (.slice none 0 0) := S5.out.b2.cell' rfl; have y0 := S5.out.b2.frozen 0; have y1 := S5.out.b2.frozen 1; have y2 := S5.out.b2.frozen 2))
  clear r0 r1 r2 y0 y1 y2 q0 q1 q2
  go_wp2
  obtain ⟨qb, d1, d2, d3, d4⟩ := S5.out.done (.int .i64 now) (.int .i64 last) (.slice A2 (leaveS S t).length c2') rfl
  have x0 := qb.cell' (i := 0) rfl
  have x1 := qb.cell' (i := 1) rfl
  have x2 := qb.cell' (i := 2) rfl
  refine bodyPost_ret (v := .tuple #[rclk now last (.slice A2 (leaveS S t).length c2'), .bool true]) ?_ rfl ⟨A2, c2', rfl, d2, d4 _ _ O5.out, d1, d3⟩
  simp [results, Tryd.results13, go_sem, x0, x1, x2]

set_option maxHeartbeats 4000000 in
theorem does6_else (hk : Ck w C M now last S k) (ho : SOwn w (.slice A S.length cp) S) (hL : Laid w) (h0 : 0 ≠ C ∧ 0 ≠ M) (hv0 : verb ≠ 0) (hv1 : verb ≠ 1) (hv2 : verb ≠ 2) :
    Calls Tryd.prog 13 #[.pointer (some ⟨C, 0, none⟩), rclk now last (.slice A S.length cp), .agg #[.int .i64 verb, .int .i64 t, .int .i64 a]] w (DoesPost6 w C M now last S (k + 1)) := by
  have S0 := hid_ (DSt6.start w C M now last (.slice A S.length cp) S k verb t a hk ho hL h0)
  have v0 : (verb == 0) = false := by simpa using hv0
  have v1 : (verb == 1) = false := by simpa using hv1
  have v2 : (verb == 2) = false := by simpa using hv2
  have F : Hid (Fr none_ w (((w.alloc (rclkB now last (.slice A S.length cp))).alloc (.cells #[.int .i64 verb, .int .i64 t, .int .i64 a] 33)).alloc (rclkB now last (.slice A S.length cp)))) := hid_ (by repeat (first | exact Fr.refl _ _ | apply Fr.drew | apply Fr.alloc))
  have HK := hid_ hk
  have HO := hid_ ho
  have HL := hid_ hL
  clear hk ho hL h0 hv0 hv1 hv2
  go_enter Tryd.func13, Tryd.ntmps13
  go_wp2
  exact bodyPost_ret (v := .tuple #[rclk now last (.slice A S.length cp), .bool true]) (by simp [results, Tryd.results13, go_sem]) rfl ⟨A, cp, rfl, (HK.out.keep F.out).more (by omega), own_none HO.out F.out, F.out.mono (fun _ _ e => e.elim), HL.out.fr F.out id⟩

/-- A step of both. -/
def stN (now last verb : Int) : Int := if verb = 0 then bumpN now last else now
def stS (now : Int) (S : List Int) (verb t a : Int) : List Int := if verb = 1 then enterS now S t a else if verb = 2 then leaveS S t else S
theorem stS_len (now : Int) (S : List Int) (verb t a : Int) : (stS now S verb t a).length = S.length := by
  unfold stS
  split
  · exact enterS_len _ _ _ _
  · split
    · exact leaveS_len _ _
    · rfl
theorem does6_any (hk : Ck w C M now last S k) (hkk : k ≤ 1000) (hwa : (Lit.int .i64 a).wf = true) (ho : SOwn w (.slice A S.length cp) S) (hL : Laid w) (h0 : 0 ≠ C ∧ 0 ≠ M) :
    Calls Tryd.prog 13 #[.pointer (some ⟨C, 0, none⟩), rclk now last (.slice A S.length cp), .agg #[.int .i64 verb, .int .i64 t, .int .i64 a]] w (DoesPost6 w C M (stN now last verb) last (stS now S verb t a) (k + 1)) := by
  by_cases h1 : verb = 0
  · subst h1
    exact does6_bump C M k now last A cp S t a w hk ho hL h0
  by_cases h2 : verb = 1
  · subst h2
    exact does6_enter C M k now last A cp S t a w hk ho hL h0 hkk hwa
  by_cases h3 : verb = 2
  · subst h3
    exact does6_leave C M k now last A cp S t a w hk ho hL h0
  have e1 : stN now last verb = now := by simp [stN, h1]
  have e2 : stS now S verb t a = S := by simp [stS, h2, h3]
  rw [e1, e2]
  exact does6_else C M k now last A cp S verb t a w hk ho hL h0 h1 h2 h3
end
end Go.Proofs.YtmindkphdakflaaDoor

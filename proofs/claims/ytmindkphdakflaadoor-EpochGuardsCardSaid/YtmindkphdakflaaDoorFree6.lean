/- Layer 6's does where the document's clock is another one than the code's: it comes back, whatever it tells. Written by gen_free6.py. -/
import Derived.Test.YtmindkphdakflaaDoorDoes6
namespace Go.Proofs.YtmindkphdakflaaDoor
open Go.RowKit
set_option maxRecDepth 100000
set_option linter.unusedVariables false

theorem DSt6.start2 (w : World) (C M : Nat) (now0 now last : Int) (v : Value) (D0 S : List Int) (k : Nat) (verb t a : Int) (hk : Ck w C M now last S k) (ho : SOwn w v D0) (hL : Laid w) (h0 : 0 ≠ C ∧ 0 ≠ M) :
    DSt6 w (((w.alloc (rclkB now0 last v)).alloc (.cells #[.int .i64 verb, .int .i64 t, .int .i64 a] 33)).alloc (rclkB 0 0 (.slice none 0 0))) C M now0 last v D0 now S k verb t a := by
  have F : Fr none_ w (((w.alloc (rclkB now0 last v)).alloc (.cells #[.int .i64 verb, .int .i64 t, .int .i64 a] 33)).alloc (rclkB 0 0 (.slice none 0 0))) := by repeat (first | exact Fr.refl _ _ | apply Fr.drew | apply Fr.alloc)
  have k1 := (Blk.new (w.alloc (rclkB now0 last v)) 33 #[.int .i64 verb, .int .i64 t, .int .i64 a])
  have k2 := (Blk.new ((w.alloc (rclkB now0 last v)).alloc (.cells #[.int .i64 verb, .int .i64 t, .int .i64 a] 33)) 28 #[.int .i64 0, .int .i64 0, .slice none 0 0])
  simp only [World.size_alloc] at k1 k2
  exact ⟨((Blk.new w _ _).alloc _).alloc _, k1.alloc _, k2, hk.keep F, own_none ho F, F.mono (fun _ _ e => e.elim), hL.fr F id, hk.ltC, hk.ltM, h0⟩
def FreePost6 (w : World) (C M : Nat) (now last : Int) (S : List Int) (k : Nat) (e : Ending) (w' : World) : Prop :=
  ∃ v b, e = .returned (.tuple #[v, .bool b]) ∧ Ck w' C M now last S k ∧ Fr (either C M) w w' ∧ Laid w'

section
variable (C M k : Nat) (now0 now last : Int) (A : Option Addr) (cp : Nat) (D0 S : List Int) (verb t a : Int) (w : World)

set_option maxHeartbeats 4000000 in
theorem free6_bump (hk : Ck w C M now last S k) (ho : SOwn w (.slice A D0.length cp) D0) (hs : D0.length ≤ 64) (hn : ∀ x ∈ D0, 0 ≤ x) (hw1 : 1 ≤ now0) (hw2 : now0 ≤ last) (hL : Laid w) (h0 : 0 ≠ C ∧ 0 ≠ M) (hnm : bumpN now last = bumpN now0 last) :
    Calls Tryd.prog 13 #[.pointer (some ⟨C, 0, none⟩), rclk now0 last (.slice A D0.length cp), .agg #[.int .i64 0, .int .i64 t, .int .i64 a]] w (FreePost6 w C M (bumpN now last) last S (k + 1)) := by
  have Hnm := hid_ hnm
  clear hnm
  obtain ⟨bd1, bd2, bd3, bd4, bd5, bd6⟩ := hk.bd
  have S0 := hid_ (DSt6.start2 w C M now0 now last (.slice A D0.length cp) D0 S k 0 t a hk ho hL h0)
  have Hn := hid_ hn
  clear hk ho hL h0 bd6 hn
  go_enter Tryd.func13, Tryd.ntmps13
  go_wp2_with fail
  refine (bump_ck S0.out.ck).mono ?_
  rintro e w3 ⟨rfl, hk3, hf3⟩
  rw [Hnm.out] at hk3 ⊢
  have S3 := hid_ (S0.out.keepC hf3 hk3)
  clear hk3 hf3
  have c0 : w3.cell? ⟨w.heap.size, 0, none⟩ = some (.int .i64 now0) := S3.out.b0.cell' rfl
  have c1 : w3.cell? ⟨w.heap.size, 1, none⟩ = some (.int .i64 last) := S3.out.b0.cell' rfl
  have c2 : w3.cell? ⟨w.heap.size, 2, none⟩ = some (.slice A D0.length cp) := S3.out.b0.cell' rfl
  go_wp2_with fail
  refine (rbump_any now0 last A cp D0 _ hw1 hw2 bd5).mono ?_
  rintro e w2 ⟨rfl, hf2⟩
  obtain ⟨wq, hwq⟩ : ∃ wq, wq = w2.alloc (rclkB (bumpN now0 last) last (.slice A D0.length cp)) := ⟨_, rfl⟩
  have hfq : Fr none_ w2 wq := by rw [hwq]; exact (Fr.refl none_ w2).alloc _
  have S2 := hid_ ((S3.out.keep hf2).keep hfq)
  have Q2 : Hid (Blk wq w2.heap.size 28 #[.int .i64 (bumpN now0 last), .int .i64 last, (.slice A D0.length cp)]) := hid_ (by rw [hwq]; exact Blk.new w2 _ _)
  have hz2 : w.heap.size + 1 + 1 < w2.heap.size := (S3.out.keep hf2).b2.lt
  clear c0 c1 c2  hf2 hfq
  go_wp2_with fail
  change Code.wp _ _ _ _ (w2.alloc (rclkB (bumpN now0 last) last (.slice A D0.length cp)))
  rw [← hwq]
  clear hwq
  have q0 : wq.cell? ⟨w2.heap.size, 0, none⟩ = some (.int .i64 (bumpN now0 last)) := Q2.out.cell' rfl
  have q1 : wq.cell? ⟨w2.heap.size, 1, none⟩ = some (.int .i64 last) := Q2.out.cell' rfl
  have q2 : wq.cell? ⟨w2.heap.size, 2, none⟩ = some ((.slice A D0.length cp)) := Q2.out.cell' rfl
  go_region_held3 (fun w' => w'.cell? ⟨w2.heap.size, 0, none⟩ = some (.int .i64 (bumpN now0 last)) ∧ w'.cell? ⟨w2.heap.size, 1, none⟩ = some (.int .i64 last) ∧ w'.cell? ⟨w2.heap.size, 2, none⟩ = some ((.slice A D0.length cp)))
    (first | exact ⟨q0, q1, q2⟩ | (have T := Q5.out; exact ⟨T.cell' rfl, T.cell' rfl, T.cell' rfl⟩) | (have T := Q5.out.fr (box3 S5.out.b2 (.int .i64 (bumpN now0 last)) (.int .i64 last) ((.slice A D0.length cp))).2 (only_ne (by omega)); exact ⟨T.cell' rfl, T.cell' rfl, T.cell' rfl⟩))
    (first | (go_at_call 26; refine (code_any (bumpC now last) _ ?_).mono ?_; (exact S2.out.la.fr ((Fr.refl none_ wq).drew) id); rintro e w5 ⟨rfl, hf5⟩; have S5 := hid_ (S2.out.keep (((Fr.refl none_ wq).drew).then_none hf5)); have Q5 := hid_ (Q2.out.fr (((Fr.refl none_ wq).drew).then_none hf5) id); clear hf5; have r0 : w5.cell? ⟨w.heap.size + 1 + 1, 0, none⟩ = some (.int .i64 0) := S5.out.b2.cell' rfl; have r1 : w5.cell? ⟨w.heap.size + 1 + 1, 1, none⟩ = some (.int .i64 0) := S5.out.b2.cell' rfl; have r2 : w5.cell? ⟨w.heap.size + 1 + 1, 2, none⟩ = some (.slice none 0 0) := S5.out.b2.cell' rfl; have y0 := S5.out.b2.frozen 0; have y1 := S5.out.b2.frozen 1; have y2 := S5.out.b2.frozen 2))
  clear r0 r1 r2 y0 y1 y2 q0 q1 q2
  go_wp2
  obtain ⟨qb, d1, d2, d3, d4⟩ := S5.out.done (.int .i64 (bumpN now0 last)) (.int .i64 last) ((.slice A D0.length cp)) rfl
  have x0 := qb.cell' (i := 0) rfl
  have x1 := qb.cell' (i := 1) rfl
  have x2 := qb.cell' (i := 2) rfl
  refine bodyPost_ret (v := .tuple #[rclk (bumpN now0 last) last ((.slice A D0.length cp)), .bool (bumpC now last == bumpC now0 last)]) ?_ rfl ⟨_, _, rfl, (by rw [Hnm.out]; exact d2), d1, d3⟩
  simp [results, Tryd.results13, go_sem, x0, x1, x2]

set_option maxHeartbeats 4000000 in
theorem free6_bump2 (hk : Ck w C M now last S k) (ho : SOwn w (.slice A D0.length cp) D0) (hs : D0.length ≤ 64) (hn : ∀ x ∈ D0, 0 ≤ x) (hw1 : 1 ≤ now0) (hw2 : now0 ≤ last) (hL : Laid w) (h0 : 0 ≠ C ∧ 0 ≠ M) (hnm : bumpN now last ≠ bumpN now0 last) :
    Calls Tryd.prog 13 #[.pointer (some ⟨C, 0, none⟩), rclk now0 last (.slice A D0.length cp), .agg #[.int .i64 0, .int .i64 t, .int .i64 a]] w (FreePost6 w C M (bumpN now last) last S (k + 1)) := by
  have hnb : (bumpN now last == bumpN now0 last) = false := by simpa using hnm
  clear hnm
  obtain ⟨bd1, bd2, bd3, bd4, bd5, bd6⟩ := hk.bd
  have S0 := hid_ (DSt6.start2 w C M now0 now last (.slice A D0.length cp) D0 S k 0 t a hk ho hL h0)
  have Hn := hid_ hn
  clear hk ho hL h0 bd6 hn
  go_enter Tryd.func13, Tryd.ntmps13
  go_wp2_with fail
  refine (bump_ck S0.out.ck).mono ?_
  rintro e w3 ⟨rfl, hk3, hf3⟩
  have S3 := hid_ (S0.out.keepC hf3 hk3)
  clear hk3 hf3
  have c0 : w3.cell? ⟨w.heap.size, 0, none⟩ = some (.int .i64 now0) := S3.out.b0.cell' rfl
  have c1 : w3.cell? ⟨w.heap.size, 1, none⟩ = some (.int .i64 last) := S3.out.b0.cell' rfl
  have c2 : w3.cell? ⟨w.heap.size, 2, none⟩ = some (.slice A D0.length cp) := S3.out.b0.cell' rfl
  go_wp2_with fail
  refine (rbump_any now0 last A cp D0 _ hw1 hw2 bd5).mono ?_
  rintro e w2 ⟨rfl, hf2⟩
  obtain ⟨wq, hwq⟩ : ∃ wq, wq = w2.alloc (rclkB (bumpN now0 last) last (.slice A D0.length cp)) := ⟨_, rfl⟩
  have hfq : Fr none_ w2 wq := by rw [hwq]; exact (Fr.refl none_ w2).alloc _
  have S2 := hid_ ((S3.out.keep hf2).keep hfq)
  have Q2 : Hid (Blk wq w2.heap.size 28 #[.int .i64 (bumpN now0 last), .int .i64 last, (.slice A D0.length cp)]) := hid_ (by rw [hwq]; exact Blk.new w2 _ _)
  have hz2 : w.heap.size + 1 + 1 < w2.heap.size := (S3.out.keep hf2).b2.lt
  clear c0 c1 c2  hf2 hfq
  go_wp2_with fail
  change Code.wp _ _ _ _ (w2.alloc (rclkB (bumpN now0 last) last (.slice A D0.length cp)))
  rw [← hwq]
  clear hwq
  have q0 : wq.cell? ⟨w2.heap.size, 0, none⟩ = some (.int .i64 (bumpN now0 last)) := Q2.out.cell' rfl
  have q1 : wq.cell? ⟨w2.heap.size, 1, none⟩ = some (.int .i64 last) := Q2.out.cell' rfl
  have q2 : wq.cell? ⟨w2.heap.size, 2, none⟩ = some ((.slice A D0.length cp)) := Q2.out.cell' rfl
  have S5 := hid_ (S2.out.keep ((Fr.refl none_ wq).drew))
  have r0 : wq.cell? ⟨w.heap.size + 1 + 1, 0, none⟩ = some (.int .i64 0) := S2.out.b2.cell' rfl
  have r1 : wq.cell? ⟨w.heap.size + 1 + 1, 1, none⟩ = some (.int .i64 0) := S2.out.b2.cell' rfl
  have r2 : wq.cell? ⟨w.heap.size + 1 + 1, 2, none⟩ = some (.slice none 0 0) := S2.out.b2.cell' rfl
  have y0 := S2.out.b2.frozen 0
  have y1 := S2.out.b2.frozen 1
  have y2 := S2.out.b2.frozen 2
  go_region
  clear r0 r1 r2 y0 y1 y2 q0 q1 q2
  go_wp2
  obtain ⟨qb, d1, d2, d3, d4⟩ := S2.out.done (.int .i64 (bumpN now0 last)) (.int .i64 last) ((.slice A D0.length cp)) rfl
  have x0 := qb.cell' (i := 0) rfl
  have x1 := qb.cell' (i := 1) rfl
  have x2 := qb.cell' (i := 2) rfl
  refine bodyPost_ret (v := .tuple #[rclk (bumpN now0 last) last ((.slice A D0.length cp)), .bool false]) ?_ rfl ⟨_, _, rfl, d2.keep ((Fr.refl none_ _).drew), d1.drew, d3.fr ((Fr.refl none_ _).drew) id⟩
  simp [results, Tryd.results13, go_sem, x0, x1, x2]

set_option maxHeartbeats 4000000 in
theorem free6_enter (hk : Ck w C M now last S k) (ho : SOwn w (.slice A D0.length cp) D0) (hs : D0.length ≤ 64) (hn : ∀ x ∈ D0, 0 ≤ x) (hw1 : 1 ≤ now0) (hw2 : now0 ≤ last) (hL : Laid w) (h0 : 0 ≠ C ∧ 0 ≠ M) (hkk : k ≤ 1000) (hwa : (Lit.int .i64 a).wf = true) :
    Calls Tryd.prog 13 #[.pointer (some ⟨C, 0, none⟩), rclk now0 last (.slice A D0.length cp), .agg #[.int .i64 1, .int .i64 t, .int .i64 a]] w (FreePost6 w C M now last (enterS now S t a) (k + 1)) := by
  obtain ⟨bd1, bd2, bd3, bd4, bd5, bd6⟩ := hk.bd
  have S0 := hid_ (DSt6.start2 w C M now0 now last (.slice A D0.length cp) D0 S k 1 t a hk ho hL h0)
  have Hn := hid_ hn
  clear hk ho hL h0 bd6 hn
  go_enter Tryd.func13, Tryd.ntmps13
  go_wp2_with fail
  refine (enter_ck S0.out.ck hkk t a hwa).mono ?_
  rintro e w3 ⟨rfl, hk3, hf3⟩
  have S3 := hid_ (S0.out.keepC hf3 hk3)
  clear hk3 hf3
  have c0 : w3.cell? ⟨w.heap.size, 0, none⟩ = some (.int .i64 now0) := S3.out.b0.cell' rfl
  have c1 : w3.cell? ⟨w.heap.size, 1, none⟩ = some (.int .i64 last) := S3.out.b0.cell' rfl
  have c2 : w3.cell? ⟨w.heap.size, 2, none⟩ = some (.slice A D0.length cp) := S3.out.b0.cell' rfl
  have c3 : w3.cell? ⟨w.heap.size + 1, 1, none⟩ = some (.int .i64 t) := S3.out.b1.cell' rfl
  have c4 : w3.cell? ⟨w.heap.size + 1, 2, none⟩ = some (.int .i64 a) := S3.out.b1.cell' rfl
  go_wp2_with fail
  refine (renter_any now0 last A cp D0 t a _ S3.out.own hs).mono ?_
  rintro e w2 ⟨A2, c2', rfl, ho2, hf2⟩
  obtain ⟨wq, hwq⟩ : ∃ wq, wq = w2.alloc (rclkB now0 last (.slice A2 (enterS now0 D0 t a).length c2')) := ⟨_, rfl⟩
  have hfq : Fr none_ w2 wq := by rw [hwq]; exact (Fr.refl none_ w2).alloc _
  have S2 := hid_ ((S3.out.keep hf2).keep hfq)
  have Q2 : Hid (Blk wq w2.heap.size 28 #[.int .i64 now0, .int .i64 last, (.slice A2 (enterS now0 D0 t a).length c2')]) := hid_ (by rw [hwq]; exact Blk.new w2 _ _)
  have hz2 : w.heap.size + 1 + 1 < w2.heap.size := (S3.out.keep hf2).b2.lt
  clear c0 c1 c2 c3 c4 hf2 hfq
  go_wp2_with fail
  change Code.wp _ _ _ _ (w2.alloc (rclkB now0 last (.slice A2 (enterS now0 D0 t a).length c2')))
  rw [← hwq]
  clear hwq
  have q0 : wq.cell? ⟨w2.heap.size, 0, none⟩ = some (.int .i64 now0) := Q2.out.cell' rfl
  have q1 : wq.cell? ⟨w2.heap.size, 1, none⟩ = some (.int .i64 last) := Q2.out.cell' rfl
  have q2 : wq.cell? ⟨w2.heap.size, 2, none⟩ = some ((.slice A2 (enterS now0 D0 t a).length c2')) := Q2.out.cell' rfl
  go_region_held3 (fun w' => w'.cell? ⟨w2.heap.size, 0, none⟩ = some (.int .i64 now0) ∧ w'.cell? ⟨w2.heap.size, 1, none⟩ = some (.int .i64 last) ∧ w'.cell? ⟨w2.heap.size, 2, none⟩ = some ((.slice A2 (enterS now0 D0 t a).length c2')))
    (first | exact ⟨q0, q1, q2⟩ | (have T := Q5.out; exact ⟨T.cell' rfl, T.cell' rfl, T.cell' rfl⟩) | (have T := Q5.out.fr (box3 S5.out.b2 (.int .i64 now0) (.int .i64 last) ((.slice A2 (enterS now0 D0 t a).length c2'))).2 (only_ne (by omega)); exact ⟨T.cell' rfl, T.cell' rfl, T.cell' rfl⟩))
    (first | (go_at_call 26; refine (code_any (enterC now S t a) _ ?_).mono ?_; (exact S2.out.la.fr ((Fr.refl none_ wq).drew) id); rintro e w5 ⟨rfl, hf5⟩; have S5 := hid_ (S2.out.keep (((Fr.refl none_ wq).drew).then_none hf5)); have Q5 := hid_ (Q2.out.fr (((Fr.refl none_ wq).drew).then_none hf5) id); clear hf5; have r0 : w5.cell? ⟨w.heap.size + 1 + 1, 0, none⟩ = some (.int .i64 0) := S5.out.b2.cell' rfl; have r1 : w5.cell? ⟨w.heap.size + 1 + 1, 1, none⟩ = some (.int .i64 0) := S5.out.b2.cell' rfl; have r2 : w5.cell? ⟨w.heap.size + 1 + 1, 2, none⟩ = some (.slice none 0 0) := S5.out.b2.cell' rfl; have y0 := S5.out.b2.frozen 0; have y1 := S5.out.b2.frozen 1; have y2 := S5.out.b2.frozen 2))
  clear r0 r1 r2 y0 y1 y2 q0 q1 q2
  go_wp2
  obtain ⟨qb, d1, d2, d3, d4⟩ := S5.out.done (.int .i64 now0) (.int .i64 last) ((.slice A2 (enterS now0 D0 t a).length c2')) rfl
  have x0 := qb.cell' (i := 0) rfl
  have x1 := qb.cell' (i := 1) rfl
  have x2 := qb.cell' (i := 2) rfl
  refine bodyPost_ret (v := .tuple #[rclk now0 last ((.slice A2 (enterS now0 D0 t a).length c2')), .bool (enterC now S t a == enterC now0 D0 t a)]) ?_ rfl ⟨_, _, rfl, d2, d1, d3⟩
  simp [results, Tryd.results13, go_sem, x0, x1, x2]

set_option maxHeartbeats 4000000 in
theorem free6_leave (hk : Ck w C M now last S k) (ho : SOwn w (.slice A D0.length cp) D0) (hs : D0.length ≤ 64) (hn : ∀ x ∈ D0, 0 ≤ x) (hw1 : 1 ≤ now0) (hw2 : now0 ≤ last) (hL : Laid w) (h0 : 0 ≠ C ∧ 0 ≠ M) :
    Calls Tryd.prog 13 #[.pointer (some ⟨C, 0, none⟩), rclk now0 last (.slice A D0.length cp), .agg #[.int .i64 2, .int .i64 t, .int .i64 a]] w (FreePost6 w C M now last (leaveS S t) (k + 1)) := by
  obtain ⟨bd1, bd2, bd3, bd4, bd5, bd6⟩ := hk.bd
  have S0 := hid_ (DSt6.start2 w C M now0 now last (.slice A D0.length cp) D0 S k 2 t a hk ho hL h0)
  have Hn := hid_ hn
  clear hk ho hL h0 bd6 hn
  go_enter Tryd.func13, Tryd.ntmps13
  go_wp2_with fail
  refine (leave_ck S0.out.ck t).mono ?_
  rintro e w3 ⟨rfl, hk3, hf3⟩
  have S3 := hid_ (S0.out.keepC hf3 hk3)
  clear hk3 hf3
  have c0 : w3.cell? ⟨w.heap.size, 0, none⟩ = some (.int .i64 now0) := S3.out.b0.cell' rfl
  have c1 : w3.cell? ⟨w.heap.size, 1, none⟩ = some (.int .i64 last) := S3.out.b0.cell' rfl
  have c2 : w3.cell? ⟨w.heap.size, 2, none⟩ = some (.slice A D0.length cp) := S3.out.b0.cell' rfl
  have c3 : w3.cell? ⟨w.heap.size + 1, 1, none⟩ = some (.int .i64 t) := S3.out.b1.cell' rfl
  have c4 : w3.cell? ⟨w.heap.size + 1, 2, none⟩ = some (.int .i64 a) := S3.out.b1.cell' rfl
  go_wp2_with fail
  refine (rleave_any now0 last A cp D0 t _ S3.out.own hs Hn.out).mono ?_
  rintro e w2 ⟨A2, c2', rfl, ho2, hf2⟩
  obtain ⟨wq, hwq⟩ : ∃ wq, wq = w2.alloc (rclkB now0 last (.slice A2 (leaveS D0 t).length c2')) := ⟨_, rfl⟩
  have hfq : Fr none_ w2 wq := by rw [hwq]; exact (Fr.refl none_ w2).alloc _
  have S2 := hid_ ((S3.out.keep hf2).keep hfq)
  have Q2 : Hid (Blk wq w2.heap.size 28 #[.int .i64 now0, .int .i64 last, (.slice A2 (leaveS D0 t).length c2')]) := hid_ (by rw [hwq]; exact Blk.new w2 _ _)
  have hz2 : w.heap.size + 1 + 1 < w2.heap.size := (S3.out.keep hf2).b2.lt
  clear c0 c1 c2 c3 c4 hf2 hfq
  go_wp2_with fail
  change Code.wp _ _ _ _ (w2.alloc (rclkB now0 last (.slice A2 (leaveS D0 t).length c2')))
  rw [← hwq]
  clear hwq
  have q0 : wq.cell? ⟨w2.heap.size, 0, none⟩ = some (.int .i64 now0) := Q2.out.cell' rfl
  have q1 : wq.cell? ⟨w2.heap.size, 1, none⟩ = some (.int .i64 last) := Q2.out.cell' rfl
  have q2 : wq.cell? ⟨w2.heap.size, 2, none⟩ = some ((.slice A2 (leaveS D0 t).length c2')) := Q2.out.cell' rfl
  go_region_held3 (fun w' => w'.cell? ⟨w2.heap.size, 0, none⟩ = some (.int .i64 now0) ∧ w'.cell? ⟨w2.heap.size, 1, none⟩ = some (.int .i64 last) ∧ w'.cell? ⟨w2.heap.size, 2, none⟩ = some ((.slice A2 (leaveS D0 t).length c2')))
    (first | exact ⟨q0, q1, q2⟩ | (have T := Q5.out; exact ⟨T.cell' rfl, T.cell' rfl, T.cell' rfl⟩) | (have T := Q5.out.fr (box3 S5.out.b2 (.int .i64 now0) (.int .i64 last) ((.slice A2 (leaveS D0 t).length c2'))).2 (only_ne (by omega)); exact ⟨T.cell' rfl, T.cell' rfl, T.cell' rfl⟩))
    (first | (go_at_call 26; refine (code_any (leaveC S t) _ ?_).mono ?_; (exact S2.out.la.fr ((Fr.refl none_ wq).drew) id); rintro e w5 ⟨rfl, hf5⟩; have S5 := hid_ (S2.out.keep (((Fr.refl none_ wq).drew).then_none hf5)); have Q5 := hid_ (Q2.out.fr (((Fr.refl none_ wq).drew).then_none hf5) id); clear hf5; have r0 : w5.cell? ⟨w.heap.size + 1 + 1, 0, none⟩ = some (.int .i64 0) := S5.out.b2.cell' rfl; have r1 : w5.cell? ⟨w.heap.size + 1 + 1, 1, none⟩ = some (.int .i64 0) := S5.out.b2.cell' rfl; have r2 : w5.cell? ⟨w.heap.size + 1 + 1, 2, none⟩ = some (.slice none 0 0) := S5.out.b2.cell' rfl; have y0 := S5.out.b2.frozen 0; have y1 := S5.out.b2.frozen 1; have y2 := S5.out.b2.frozen 2))
  clear r0 r1 r2 y0 y1 y2 q0 q1 q2
  go_wp2
  obtain ⟨qb, d1, d2, d3, d4⟩ := S5.out.done (.int .i64 now0) (.int .i64 last) ((.slice A2 (leaveS D0 t).length c2')) rfl
  have x0 := qb.cell' (i := 0) rfl
  have x1 := qb.cell' (i := 1) rfl
  have x2 := qb.cell' (i := 2) rfl
  refine bodyPost_ret (v := .tuple #[rclk now0 last ((.slice A2 (leaveS D0 t).length c2')), .bool (leaveC S t == leaveC D0 t)]) ?_ rfl ⟨_, _, rfl, d2, d1, d3⟩
  simp [results, Tryd.results13, go_sem, x0, x1, x2]

set_option maxHeartbeats 4000000 in
theorem free6_else (hk : Ck w C M now last S k) (ho : SOwn w (.slice A D0.length cp) D0) (hL : Laid w) (h0 : 0 ≠ C ∧ 0 ≠ M) (hv0 : verb ≠ 0) (hv1 : verb ≠ 1) (hv2 : verb ≠ 2) :
    Calls Tryd.prog 13 #[.pointer (some ⟨C, 0, none⟩), rclk now0 last (.slice A D0.length cp), .agg #[.int .i64 verb, .int .i64 t, .int .i64 a]] w (FreePost6 w C M now last S (k + 1)) := by
  have v0 : (verb == 0) = false := by simpa using hv0
  have v1 : (verb == 1) = false := by simpa using hv1
  have v2 : (verb == 2) = false := by simpa using hv2
  have F : Hid (Fr none_ w (((w.alloc (rclkB now0 last (.slice A D0.length cp))).alloc (.cells #[.int .i64 verb, .int .i64 t, .int .i64 a] 33)).alloc (rclkB now0 last (.slice A D0.length cp)))) := hid_ (by repeat (first | exact Fr.refl _ _ | apply Fr.drew | apply Fr.alloc))
  have HK := hid_ hk
  have HL := hid_ hL
  clear hk ho hL h0 hv0 hv1 hv2
  go_enter Tryd.func13, Tryd.ntmps13
  go_wp2
  exact bodyPost_ret (v := .tuple #[rclk now0 last (.slice A D0.length cp), .bool true]) (by simp [results, Tryd.results13, go_sem]) rfl ⟨_, _, rfl, (HK.out.keep F.out).more (by omega), F.out.mono (fun _ _ e => e.elim), HL.out.fr F.out id⟩
theorem free6_any (hk : Ck w C M now last S k) (hkk : k ≤ 1000) (hwa : (Lit.int .i64 a).wf = true) (ho : SOwn w (.slice A D0.length cp) D0) (hs : D0.length ≤ 64) (hn : ∀ x ∈ D0, 0 ≤ x) (hw1 : 1 ≤ now0) (hw2 : now0 ≤ last) (hL : Laid w) (h0 : 0 ≠ C ∧ 0 ≠ M) :
    Calls Tryd.prog 13 #[.pointer (some ⟨C, 0, none⟩), rclk now0 last (.slice A D0.length cp), .agg #[.int .i64 verb, .int .i64 t, .int .i64 a]] w (FreePost6 w C M (stN now last verb) last (stS now S verb t a) (k + 1)) := by
  by_cases h1 : verb = 0
  · subst h1
    by_cases hnm : bumpN now last = bumpN now0 last
    · exact free6_bump C M k now0 now last A cp D0 S t a w hk ho hs hn hw1 hw2 hL h0 hnm
    · exact free6_bump2 C M k now0 now last A cp D0 S t a w hk ho hs hn hw1 hw2 hL h0 hnm
  by_cases h2 : verb = 1
  · subst h2
    exact free6_enter C M k now0 now last A cp D0 S t a w hk ho hs hn hw1 hw2 hL h0 hkk hwa
  by_cases h3 : verb = 2
  · subst h3
    exact free6_leave C M k now0 now last A cp D0 S t a w hk ho hs hn hw1 hw2 hL h0
  have e1 : stN now last verb = now := by simp [stN, h1]
  have e2 : stS now S verb t a = S := by simp [stS, h2, h3]
  rw [e1, e2]
  exact free6_else C M k now0 now last A cp D0 S verb t a w hk ho hL h0 h1 h2 h3
end
end Go.Proofs.YtmindkphdakflaaDoor

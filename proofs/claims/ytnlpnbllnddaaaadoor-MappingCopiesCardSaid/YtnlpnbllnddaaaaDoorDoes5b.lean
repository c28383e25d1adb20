/- Layer 5's does, walked, verb by verb. Written by gen_does5.py. -/
import Derived.Test.YtnlpnbllnddaaaaDoorDoes5
namespace Go.Proofs.YtnlpnbllnddaaaaDoor
open Go.RowKit
set_option linter.unusedVariables false
section
variable (T G : Nat) (ps : List Pg) (A : Option Addr) (cp : Nat) (L : List Rp) (verb n : Int) (r : Bool) (a b c d : Int) (w : World)

set_option maxHeartbeats 4000000 in
theorem does_take (hT : Tbl w T G ps) (ho : ROwn w (.slice A L.length cp) L) (hs : Sim ps L) (hL : Laid w) (h0 : 0 ≠ G) :
    Calls Tryd.prog 10 #[.pointer (some ⟨T, 0, none⟩), rtab ps.length (.slice A L.length cp), .agg #[.int .i64 0, .int .i64 n, .bool r, .int .i64 a, .int .i64 b, .int .i64 c, .int .i64 d]] w (DoesPost w T G ps.length ((takeP ps).2.2)) := by
  have HT := hid_ hT
  have HO := hid_ ho
  have HS := hid_ hs
  have HL := hid_ hL
  have H0 := hid_ h0
  clear hT ho hs hL h0
  cases r with
  | false =>
    go_enter Tryd.func10, Tryd.ntmps10
    have S0 := hid_ (DSt.start w T G ps ps.length (.slice A L.length cp) L 0 n false a b c d HT.out HO.out HL.out H0.out (oa := a) (ob := b) (Fr.refl none_ _))
    go_wp2_with fail
    refine (take_any T G ps _ S0.out.tb).mono ?_
    rintro e w3 ⟨rfl, ht3, hf3⟩
    have S3 := hid_ (S0.out.keepG hf3 ht3)
    clear ht3 hf3
    obtain ⟨⟨c0, c1⟩, ⟨c2, c3, c4, c5, c6⟩, _, ⟨c7, c8⟩⟩ := S3.out.cells
    go_wp2_with fail
    refine (rtake_any ps A cp L _ S3.out.own HS.out).mono ?_
    rintro e w2 ⟨A2, c2', L2, rfl, ho2, hs2, hf2⟩
    obtain ⟨wq, hwq⟩ : ∃ wq, wq = w2.alloc (rbox ps.length (.slice A2 L2.length c2')) := ⟨_, rfl⟩
    have hfq : Fr none_ w2 wq := by rw [hwq]; exact (Fr.refl none_ w2).alloc _
    have S2 := hid_ ((S3.out.keep hf2).keep hfq)
    have O2 := hid_ (own_none ho2 hfq)
    have Q2 : Hid (Blk wq w2.heap.size 28 #[.int .i64 ps.length, .slice A2 L2.length c2']) := hid_ (by rw [hwq]; exact Blk.new w2 _ _)
    have HS2 := hid_ hs2
    have hz2 : w.heap.size + 1 + 1 < w2.heap.size := (S3.out.keep hf2).b2.lt
    clear c0 c1 c2 c3 c4 c5 c6 c7 c8 ho2 hs2 hf2 hfq
    go_wp2_with fail
    change Code.wp _ _ _ _ (w2.alloc (rbox ps.length (.slice A2 L2.length c2')))
    rw [← hwq]
    clear hwq
    have q0 : wq.cell? ⟨w2.heap.size, 0, none⟩ = some (.int .i64 ps.length) := Q2.out.cell' rfl
    have q1 : wq.cell? ⟨w2.heap.size, 1, none⟩ = some (.slice A2 L2.length c2') := Q2.out.cell' rfl
    go_region_held3 (fun w' => w'.cell? ⟨w2.heap.size, 0, none⟩ = some (.int .i64 ps.length) ∧ w'.cell? ⟨w2.heap.size, 1, none⟩ = some (.slice A2 L2.length c2'))
      (first | exact ⟨q0, q1⟩ | (have T := Q5.out; exact ⟨T.cell' rfl, T.cell' rfl⟩) | (have T := (Q5.out.far (p := ⟨w.heap.size + 1 + 1, 0, none⟩) (by show w2.heap.size ≠ w.heap.size + 1 + 1; omega) (.int .i64 ps.length)).far (p := ⟨w.heap.size + 1 + 1, 1, none⟩) (by show w2.heap.size ≠ w.heap.size + 1 + 1; omega) (.slice A2 L2.length c2'); exact ⟨T.cell' rfl, T.cell' rfl⟩))
      (first | (go_at_call 17; refine (code_any ((takeP ps).2.1) _ ?_).mono ?_; (exact S2.out.la.fr ((Fr.refl none_ wq).drew) id); rintro e w5 ⟨rfl, hf5⟩; have S5 := hid_ (S2.out.keep (((Fr.refl none_ wq).drew).then_none hf5)); have O5 := hid_ (own_none O2.out (((Fr.refl none_ wq).drew).then_none hf5)); have Q5 := hid_ (Q2.out.fr (((Fr.refl none_ wq).drew).then_none hf5) id); clear hf5; obtain ⟨_, _, ⟨r0, r1⟩, _⟩ := S5.out.cells; have y0 := S5.out.b2.frozen 0; have y1 := S5.out.b2.frozen 1))
    clear r0 r1 y0 y1 q0 q1
    obtain ⟨d1, d2, d3, d4⟩ := S5.out.done (.int .i64 ps.length) (.slice A2 L2.length c2')
    have x0 := d3.cell' (i := 0) rfl
    have x1 := d3.cell' (i := 1) rfl
    have D := hid_ (And.intro d1 (And.intro d2 (d4 _ _ O5.out)))
    clear d1 d2 d3 d4
    go_wp2
    refine bodyPost_ret (v := .tuple #[rtab ps.length (.slice A2 L2.length c2'), .bool true]) ?_ rfl ⟨A2, c2', L2, rfl, D.out.2.1, D.out.2.2, HS2.out, D.out.1⟩
    simp [results, Tryd.results10, go_sem, x0, x1]
  | true =>
    go_enter Tryd.func10, Tryd.ntmps10
    go_wp2_with fail
    refine (rhead_any ps A cp L _ (own_none HO.out (by repeat (first | exact Fr.refl _ _ | apply Fr.alloc))) HS.out n).mono ?_
    rintro e w1 ⟨rfl, hf1⟩
    have S1 := hid_ (DSt.start w T G ps ps.length (.slice A L.length cp) L 0 n true a b c d HT.out HO.out HL.out H0.out (oa := a) (ob := b) hf1)
    obtain ⟨⟨c0, c1⟩, ⟨c2, c3, c4, c5, c6⟩, _, ⟨c7, c8⟩⟩ := S1.out.cells
    have z0 := S1.out.b3.frozen 0
    have z1 := S1.out.b3.frozen 1
    have S0 := hid_ (S1.out.old (headP ps n).1 (headP ps n).2)
    clear hf1
    go_wp2_with fail
    refine (take_any T G ps _ S0.out.tb).mono ?_
    rintro e w3 ⟨rfl, ht3, hf3⟩
    have S3 := hid_ (S0.out.keepG hf3 ht3)
    clear ht3 hf3
    clear c0 c1 c2 c3 c4 c5 c6 c7 c8 z0 z1
    obtain ⟨⟨c0, c1⟩, ⟨c2, c3, c4, c5, c6⟩, _, ⟨c7, c8⟩⟩ := S3.out.cells
    go_wp2_with fail
    refine (rtake_any ps A cp L _ S3.out.own HS.out).mono ?_
    rintro e w2 ⟨A2, c2', L2, rfl, ho2, hs2, hf2⟩
    obtain ⟨wq, hwq⟩ : ∃ wq, wq = w2.alloc (rbox ps.length (.slice A2 L2.length c2')) := ⟨_, rfl⟩
    have hfq : Fr none_ w2 wq := by rw [hwq]; exact (Fr.refl none_ w2).alloc _
    have S2 := hid_ ((S3.out.keep hf2).keep hfq)
    have O2 := hid_ (own_none ho2 hfq)
    have Q2 : Hid (Blk wq w2.heap.size 28 #[.int .i64 ps.length, .slice A2 L2.length c2']) := hid_ (by rw [hwq]; exact Blk.new w2 _ _)
    have HS2 := hid_ hs2
    have hz2 : w.heap.size + 1 + 1 < w2.heap.size := (S3.out.keep hf2).b2.lt
    clear c0 c1 c2 c3 c4 c5 c6 c7 c8 ho2 hs2 hf2 hfq
    go_wp2_with fail
    change Code.wp _ _ _ _ (w2.alloc (rbox ps.length (.slice A2 L2.length c2')))
    rw [← hwq]
    clear hwq
    have q0 : wq.cell? ⟨w2.heap.size, 0, none⟩ = some (.int .i64 ps.length) := Q2.out.cell' rfl
    have q1 : wq.cell? ⟨w2.heap.size, 1, none⟩ = some (.slice A2 L2.length c2') := Q2.out.cell' rfl
    go_region_held3 (fun w' => w'.cell? ⟨w2.heap.size, 0, none⟩ = some (.int .i64 ps.length) ∧ w'.cell? ⟨w2.heap.size, 1, none⟩ = some (.slice A2 L2.length c2'))
      (first | exact ⟨q0, q1⟩ | (have T := Q5.out; exact ⟨T.cell' rfl, T.cell' rfl⟩) | (have T := (Q5.out.far (p := ⟨w.heap.size + 1 + 1, 0, none⟩) (by show w2.heap.size ≠ w.heap.size + 1 + 1; omega) (.int .i64 ps.length)).far (p := ⟨w.heap.size + 1 + 1, 1, none⟩) (by show w2.heap.size ≠ w.heap.size + 1 + 1; omega) (.slice A2 L2.length c2'); exact ⟨T.cell' rfl, T.cell' rfl⟩))
      (first | (go_at_call 17; refine (code_any ((takeP ps).2.1) _ ?_).mono ?_; (exact S2.out.la.fr ((Fr.refl none_ wq).drew) id); rintro e w5 ⟨rfl, hf5⟩; have S5 := hid_ (S2.out.keep (((Fr.refl none_ wq).drew).then_none hf5)); have O5 := hid_ (own_none O2.out (((Fr.refl none_ wq).drew).then_none hf5)); have Q5 := hid_ (Q2.out.fr (((Fr.refl none_ wq).drew).then_none hf5) id); clear hf5; obtain ⟨_, _, ⟨r0, r1⟩, _⟩ := S5.out.cells; have y0 := S5.out.b2.frozen 0; have y1 := S5.out.b2.frozen 1))
    clear r0 r1 y0 y1 q0 q1
    obtain ⟨d1, d2, d3, d4⟩ := S5.out.done (.int .i64 ps.length) (.slice A2 L2.length c2')
    have x0 := d3.cell' (i := 0) rfl
    have x1 := d3.cell' (i := 1) rfl
    have D := hid_ (And.intro d1 (And.intro d2 (d4 _ _ O5.out)))
    clear d1 d2 d3 d4
    go_wp2
    refine bodyPost_ret (v := .tuple #[rtab ps.length (.slice A2 L2.length c2'), .bool true]) ?_ rfl ⟨A2, c2', L2, rfl, D.out.2.1, D.out.2.2, HS2.out, D.out.1⟩
    simp [results, Tryd.results10, go_sem, x0, x1]

set_option maxHeartbeats 4000000 in
theorem does_give (hT : Tbl w T G ps) (ho : ROwn w (.slice A L.length cp) L) (hs : Sim ps L) (hL : Laid w) (h0 : 0 ≠ G) :
    Calls Tryd.prog 10 #[.pointer (some ⟨T, 0, none⟩), rtab ps.length (.slice A L.length cp), .agg #[.int .i64 1, .int .i64 n, .bool r, .int .i64 a, .int .i64 b, .int .i64 c, .int .i64 d]] w (DoesPost w T G ps.length (giveP ps n)) := by
  have HT := hid_ hT
  have HO := hid_ ho
  have HS := hid_ hs
  have HL := hid_ hL
  have H0 := hid_ h0
  clear hT ho hs hL h0
  cases r with
  | false =>
    go_enter Tryd.func10, Tryd.ntmps10
    have S0 := hid_ (DSt.start w T G ps ps.length (.slice A L.length cp) L 1 n false a b c d HT.out HO.out HL.out H0.out (oa := a) (ob := b) (Fr.refl none_ _))
    go_wp2_with fail
    refine (give_any T G ps _ S0.out.tb n).mono ?_
    rintro e w3 ⟨rfl, ht3, hf3⟩
    have S3 := hid_ (S0.out.keepG hf3 ht3)
    clear ht3 hf3
    obtain ⟨⟨c0, c1⟩, ⟨c2, c3, c4, c5, c6⟩, _, ⟨c7, c8⟩⟩ := S3.out.cells
    go_wp2_with fail
    refine (rgive_any ps A cp L _ S3.out.own HS.out n).mono ?_
    rintro e w2 ⟨A2, c2', L2, rfl, ho2, hs2, hf2⟩
    obtain ⟨wq, hwq⟩ : ∃ wq, wq = w2.alloc (rbox ps.length (.slice A2 L2.length c2')) := ⟨_, rfl⟩
    have hfq : Fr none_ w2 wq := by rw [hwq]; exact (Fr.refl none_ w2).alloc _
    have S2 := hid_ ((S3.out.keep hf2).keep hfq)
    have O2 := hid_ (own_none ho2 hfq)
    have Q2 : Hid (Blk wq w2.heap.size 28 #[.int .i64 ps.length, .slice A2 L2.length c2']) := hid_ (by rw [hwq]; exact Blk.new w2 _ _)
    have HS2 := hid_ hs2
    have hz2 : w.heap.size + 1 + 1 < w2.heap.size := (S3.out.keep hf2).b2.lt
    clear c0 c1 c2 c3 c4 c5 c6 c7 c8 ho2 hs2 hf2 hfq
    go_wp2_with fail
    change Code.wp _ _ _ _ (w2.alloc (rbox ps.length (.slice A2 L2.length c2')))
    rw [← hwq]
    clear hwq
    have q0 : wq.cell? ⟨w2.heap.size, 0, none⟩ = some (.int .i64 ps.length) := Q2.out.cell' rfl
    have q1 : wq.cell? ⟨w2.heap.size, 1, none⟩ = some (.slice A2 L2.length c2') := Q2.out.cell' rfl
    go_region_held3 (fun w' => w'.cell? ⟨w2.heap.size, 0, none⟩ = some (.int .i64 ps.length) ∧ w'.cell? ⟨w2.heap.size, 1, none⟩ = some (.slice A2 L2.length c2'))
      (first | exact ⟨q0, q1⟩ | (have T := Q5.out; exact ⟨T.cell' rfl, T.cell' rfl⟩) | (have T := (Q5.out.far (p := ⟨w.heap.size + 1 + 1, 0, none⟩) (by show w2.heap.size ≠ w.heap.size + 1 + 1; omega) (.int .i64 ps.length)).far (p := ⟨w.heap.size + 1 + 1, 1, none⟩) (by show w2.heap.size ≠ w.heap.size + 1 + 1; omega) (.slice A2 L2.length c2'); exact ⟨T.cell' rfl, T.cell' rfl⟩))
      (first | (go_at_call 17; refine (code_any (whyP ps n) _ ?_).mono ?_; (exact S2.out.la.fr ((Fr.refl none_ wq).drew) id); rintro e w5 ⟨rfl, hf5⟩; have S5 := hid_ (S2.out.keep (((Fr.refl none_ wq).drew).then_none hf5)); have O5 := hid_ (own_none O2.out (((Fr.refl none_ wq).drew).then_none hf5)); have Q5 := hid_ (Q2.out.fr (((Fr.refl none_ wq).drew).then_none hf5) id); clear hf5; obtain ⟨_, _, ⟨r0, r1⟩, _⟩ := S5.out.cells; have y0 := S5.out.b2.frozen 0; have y1 := S5.out.b2.frozen 1))
    clear r0 r1 y0 y1 q0 q1
    obtain ⟨d1, d2, d3, d4⟩ := S5.out.done (.int .i64 ps.length) (.slice A2 L2.length c2')
    have x0 := d3.cell' (i := 0) rfl
    have x1 := d3.cell' (i := 1) rfl
    have D := hid_ (And.intro d1 (And.intro d2 (d4 _ _ O5.out)))
    clear d1 d2 d3 d4
    go_wp2
    refine bodyPost_ret (v := .tuple #[rtab ps.length (.slice A2 L2.length c2'), .bool true]) ?_ rfl ⟨A2, c2', L2, rfl, D.out.2.1, D.out.2.2, HS2.out, D.out.1⟩
    simp [results, Tryd.results10, go_sem, x0, x1]
  | true =>
    go_enter Tryd.func10, Tryd.ntmps10
    go_wp2_with fail
    refine (rhead_any ps A cp L _ (own_none HO.out (by repeat (first | exact Fr.refl _ _ | apply Fr.alloc))) HS.out n).mono ?_
    rintro e w1 ⟨rfl, hf1⟩
    have S1 := hid_ (DSt.start w T G ps ps.length (.slice A L.length cp) L 1 n true a b c d HT.out HO.out HL.out H0.out (oa := a) (ob := b) hf1)
    obtain ⟨⟨c0, c1⟩, ⟨c2, c3, c4, c5, c6⟩, _, ⟨c7, c8⟩⟩ := S1.out.cells
    have z0 := S1.out.b3.frozen 0
    have z1 := S1.out.b3.frozen 1
    have S0 := hid_ (S1.out.old (headP ps n).1 (headP ps n).2)
    clear hf1
    go_wp2_with fail
    refine (give_any T G ps _ S0.out.tb n).mono ?_
    rintro e w3 ⟨rfl, ht3, hf3⟩
    have S3 := hid_ (S0.out.keepG hf3 ht3)
    clear ht3 hf3
    clear c0 c1 c2 c3 c4 c5 c6 c7 c8 z0 z1
    obtain ⟨⟨c0, c1⟩, ⟨c2, c3, c4, c5, c6⟩, _, ⟨c7, c8⟩⟩ := S3.out.cells
    go_wp2_with fail
    refine (rgive_any ps A cp L _ S3.out.own HS.out n).mono ?_
    rintro e w2 ⟨A2, c2', L2, rfl, ho2, hs2, hf2⟩
    obtain ⟨wq, hwq⟩ : ∃ wq, wq = w2.alloc (rbox ps.length (.slice A2 L2.length c2')) := ⟨_, rfl⟩
    have hfq : Fr none_ w2 wq := by rw [hwq]; exact (Fr.refl none_ w2).alloc _
    have S2 := hid_ ((S3.out.keep hf2).keep hfq)
    have O2 := hid_ (own_none ho2 hfq)
    have Q2 : Hid (Blk wq w2.heap.size 28 #[.int .i64 ps.length, .slice A2 L2.length c2']) := hid_ (by rw [hwq]; exact Blk.new w2 _ _)
    have HS2 := hid_ hs2
    have hz2 : w.heap.size + 1 + 1 < w2.heap.size := (S3.out.keep hf2).b2.lt
    clear c0 c1 c2 c3 c4 c5 c6 c7 c8 ho2 hs2 hf2 hfq
    go_wp2_with fail
    change Code.wp _ _ _ _ (w2.alloc (rbox ps.length (.slice A2 L2.length c2')))
    rw [← hwq]
    clear hwq
    have q0 : wq.cell? ⟨w2.heap.size, 0, none⟩ = some (.int .i64 ps.length) := Q2.out.cell' rfl
    have q1 : wq.cell? ⟨w2.heap.size, 1, none⟩ = some (.slice A2 L2.length c2') := Q2.out.cell' rfl
    go_region_held3 (fun w' => w'.cell? ⟨w2.heap.size, 0, none⟩ = some (.int .i64 ps.length) ∧ w'.cell? ⟨w2.heap.size, 1, none⟩ = some (.slice A2 L2.length c2'))
      (first | exact ⟨q0, q1⟩ | (have T := Q5.out; exact ⟨T.cell' rfl, T.cell' rfl⟩) | (have T := (Q5.out.far (p := ⟨w.heap.size + 1 + 1, 0, none⟩) (by show w2.heap.size ≠ w.heap.size + 1 + 1; omega) (.int .i64 ps.length)).far (p := ⟨w.heap.size + 1 + 1, 1, none⟩) (by show w2.heap.size ≠ w.heap.size + 1 + 1; omega) (.slice A2 L2.length c2'); exact ⟨T.cell' rfl, T.cell' rfl⟩))
      (first | (go_at_call 17; refine (code_any (whyP ps n) _ ?_).mono ?_; (exact S2.out.la.fr ((Fr.refl none_ wq).drew) id); rintro e w5 ⟨rfl, hf5⟩; have S5 := hid_ (S2.out.keep (((Fr.refl none_ wq).drew).then_none hf5)); have O5 := hid_ (own_none O2.out (((Fr.refl none_ wq).drew).then_none hf5)); have Q5 := hid_ (Q2.out.fr (((Fr.refl none_ wq).drew).then_none hf5) id); clear hf5; obtain ⟨_, _, ⟨r0, r1⟩, _⟩ := S5.out.cells; have y0 := S5.out.b2.frozen 0; have y1 := S5.out.b2.frozen 1))
    clear r0 r1 y0 y1 q0 q1
    obtain ⟨d1, d2, d3, d4⟩ := S5.out.done (.int .i64 ps.length) (.slice A2 L2.length c2')
    have x0 := d3.cell' (i := 0) rfl
    have x1 := d3.cell' (i := 1) rfl
    have D := hid_ (And.intro d1 (And.intro d2 (d4 _ _ O5.out)))
    clear d1 d2 d3 d4
    go_wp2
    refine bodyPost_ret (v := .tuple #[rtab ps.length (.slice A2 L2.length c2'), .bool true]) ?_ rfl ⟨A2, c2', L2, rfl, D.out.2.1, D.out.2.2, HS2.out, D.out.1⟩
    simp [results, Tryd.results10, go_sem, x0, x1]

set_option maxHeartbeats 4000000 in
theorem does_swap (hT : Tbl w T G ps) (ho : ROwn w (.slice A L.length cp) L) (hs : Sim ps L) (hL : Laid w) (h0 : 0 ≠ G) :
    Calls Tryd.prog 10 #[.pointer (some ⟨T, 0, none⟩), rtab ps.length (.slice A L.length cp), .agg #[.int .i64 3, .int .i64 n, .bool r, .int .i64 a, .int .i64 b, .int .i64 c, .int .i64 d]] w (DoesPost w T G ps.length (swapP ps n (oldP ps n r a b).1 (oldP ps n r a b).2 c d)) := by
  have HT := hid_ hT
  have HO := hid_ ho
  have HS := hid_ hs
  have HL := hid_ hL
  have H0 := hid_ h0
  clear hT ho hs hL h0
  cases r with
  | false =>
    rw [show oldP ps n false a b = (a, b) from rfl]
    go_enter Tryd.func10, Tryd.ntmps10
    have S0 := hid_ (DSt.start w T G ps ps.length (.slice A L.length cp) L 3 n false a b c d HT.out HO.out HL.out H0.out (oa := a) (ob := b) (Fr.refl none_ _))
    go_wp2_with fail
    refine (swap_any T G ps _ S0.out.tb n (a) (b) c d).mono ?_
    rintro e w3 ⟨rfl, ht3, hf3⟩
    have S3 := hid_ (S0.out.keepG hf3 ht3)
    clear ht3 hf3
    obtain ⟨⟨c0, c1⟩, ⟨c2, c3, c4, c5, c6⟩, _, ⟨c7, c8⟩⟩ := S3.out.cells
    go_wp2_with fail
    refine (rswap_any ps A cp L _ S3.out.own HS.out n (a) (b) c d).mono ?_
    rintro e w2 ⟨A2, c2', L2, rfl, ho2, hs2, hf2⟩
    obtain ⟨wq, hwq⟩ : ∃ wq, wq = w2.alloc (rbox ps.length (.slice A2 L2.length c2')) := ⟨_, rfl⟩
    have hfq : Fr none_ w2 wq := by rw [hwq]; exact (Fr.refl none_ w2).alloc _
    have S2 := hid_ ((S3.out.keep hf2).keep hfq)
    have O2 := hid_ (own_none ho2 hfq)
    have Q2 : Hid (Blk wq w2.heap.size 28 #[.int .i64 ps.length, .slice A2 L2.length c2']) := hid_ (by rw [hwq]; exact Blk.new w2 _ _)
    have HS2 := hid_ hs2
    have hz2 : w.heap.size + 1 + 1 < w2.heap.size := (S3.out.keep hf2).b2.lt
    clear c0 c1 c2 c3 c4 c5 c6 c7 c8 ho2 hs2 hf2 hfq
    go_wp2_with fail
    change Code.wp _ _ _ _ (w2.alloc (rbox ps.length (.slice A2 L2.length c2')))
    rw [← hwq]
    clear hwq
    have q0 : wq.cell? ⟨w2.heap.size, 0, none⟩ = some (.int .i64 ps.length) := Q2.out.cell' rfl
    have q1 : wq.cell? ⟨w2.heap.size, 1, none⟩ = some (.slice A2 L2.length c2') := Q2.out.cell' rfl
    go_region_held3 (fun w' => w'.cell? ⟨w2.heap.size, 0, none⟩ = some (.int .i64 ps.length) ∧ w'.cell? ⟨w2.heap.size, 1, none⟩ = some (.slice A2 L2.length c2'))
      (first | exact ⟨q0, q1⟩ | (have T := Q5.out; exact ⟨T.cell' rfl, T.cell' rfl⟩) | (have T := (Q5.out.far (p := ⟨w.heap.size + 1 + 1, 0, none⟩) (by show w2.heap.size ≠ w.heap.size + 1 + 1; omega) (.int .i64 ps.length)).far (p := ⟨w.heap.size + 1 + 1, 1, none⟩) (by show w2.heap.size ≠ w.heap.size + 1 + 1; omega) (.slice A2 L2.length c2'); exact ⟨T.cell' rfl, T.cell' rfl⟩))
      (first | (go_at_call 17; refine (code_any (whyP ps n) _ ?_).mono ?_; (exact S2.out.la.fr ((Fr.refl none_ wq).drew) id); rintro e w5 ⟨rfl, hf5⟩; have S5 := hid_ (S2.out.keep (((Fr.refl none_ wq).drew).then_none hf5)); have O5 := hid_ (own_none O2.out (((Fr.refl none_ wq).drew).then_none hf5)); have Q5 := hid_ (Q2.out.fr (((Fr.refl none_ wq).drew).then_none hf5) id); clear hf5; obtain ⟨_, _, ⟨r0, r1⟩, _⟩ := S5.out.cells; have y0 := S5.out.b2.frozen 0; have y1 := S5.out.b2.frozen 1))
    clear r0 r1 y0 y1 q0 q1
    obtain ⟨d1, d2, d3, d4⟩ := S5.out.done (.int .i64 ps.length) (.slice A2 L2.length c2')
    have x0 := d3.cell' (i := 0) rfl
    have x1 := d3.cell' (i := 1) rfl
    have D := hid_ (And.intro d1 (And.intro d2 (d4 _ _ O5.out)))
    clear d1 d2 d3 d4
    go_wp2
    refine bodyPost_ret (v := .tuple #[rtab ps.length (.slice A2 L2.length c2'), .bool true]) ?_ rfl ⟨A2, c2', L2, rfl, D.out.2.1, D.out.2.2, HS2.out, D.out.1⟩
    simp [results, Tryd.results10, go_sem, x0, x1]
  | true =>
    rw [show oldP ps n true a b = ((headP ps n).1, (headP ps n).2) from rfl]
    go_enter Tryd.func10, Tryd.ntmps10
    go_wp2_with fail
    refine (rhead_any ps A cp L _ (own_none HO.out (by repeat (first | exact Fr.refl _ _ | apply Fr.alloc))) HS.out n).mono ?_
    rintro e w1 ⟨rfl, hf1⟩
    have S1 := hid_ (DSt.start w T G ps ps.length (.slice A L.length cp) L 3 n true a b c d HT.out HO.out HL.out H0.out (oa := a) (ob := b) hf1)
    obtain ⟨⟨c0, c1⟩, ⟨c2, c3, c4, c5, c6⟩, _, ⟨c7, c8⟩⟩ := S1.out.cells
    have z0 := S1.out.b3.frozen 0
    have z1 := S1.out.b3.frozen 1
    have S0 := hid_ (S1.out.old (headP ps n).1 (headP ps n).2)
    clear hf1
    go_wp2_with fail
    refine (swap_any T G ps _ S0.out.tb n ((headP ps n).1) ((headP ps n).2) c d).mono ?_
    rintro e w3 ⟨rfl, ht3, hf3⟩
    have S3 := hid_ (S0.out.keepG hf3 ht3)
    clear ht3 hf3
    clear c0 c1 c2 c3 c4 c5 c6 c7 c8 z0 z1
    obtain ⟨⟨c0, c1⟩, ⟨c2, c3, c4, c5, c6⟩, _, ⟨c7, c8⟩⟩ := S3.out.cells
    go_wp2_with fail
    refine (rswap_any ps A cp L _ S3.out.own HS.out n ((headP ps n).1) ((headP ps n).2) c d).mono ?_
    rintro e w2 ⟨A2, c2', L2, rfl, ho2, hs2, hf2⟩
    obtain ⟨wq, hwq⟩ : ∃ wq, wq = w2.alloc (rbox ps.length (.slice A2 L2.length c2')) := ⟨_, rfl⟩
    have hfq : Fr none_ w2 wq := by rw [hwq]; exact (Fr.refl none_ w2).alloc _
    have S2 := hid_ ((S3.out.keep hf2).keep hfq)
    have O2 := hid_ (own_none ho2 hfq)
    have Q2 : Hid (Blk wq w2.heap.size 28 #[.int .i64 ps.length, .slice A2 L2.length c2']) := hid_ (by rw [hwq]; exact Blk.new w2 _ _)
    have HS2 := hid_ hs2
    have hz2 : w.heap.size + 1 + 1 < w2.heap.size := (S3.out.keep hf2).b2.lt
    clear c0 c1 c2 c3 c4 c5 c6 c7 c8 ho2 hs2 hf2 hfq
    go_wp2_with fail
    change Code.wp _ _ _ _ (w2.alloc (rbox ps.length (.slice A2 L2.length c2')))
    rw [← hwq]
    clear hwq
    have q0 : wq.cell? ⟨w2.heap.size, 0, none⟩ = some (.int .i64 ps.length) := Q2.out.cell' rfl
    have q1 : wq.cell? ⟨w2.heap.size, 1, none⟩ = some (.slice A2 L2.length c2') := Q2.out.cell' rfl
    go_region_held3 (fun w' => w'.cell? ⟨w2.heap.size, 0, none⟩ = some (.int .i64 ps.length) ∧ w'.cell? ⟨w2.heap.size, 1, none⟩ = some (.slice A2 L2.length c2'))
      (first | exact ⟨q0, q1⟩ | (have T := Q5.out; exact ⟨T.cell' rfl, T.cell' rfl⟩) | (have T := (Q5.out.far (p := ⟨w.heap.size + 1 + 1, 0, none⟩) (by show w2.heap.size ≠ w.heap.size + 1 + 1; omega) (.int .i64 ps.length)).far (p := ⟨w.heap.size + 1 + 1, 1, none⟩) (by show w2.heap.size ≠ w.heap.size + 1 + 1; omega) (.slice A2 L2.length c2'); exact ⟨T.cell' rfl, T.cell' rfl⟩))
      (first | (go_at_call 17; refine (code_any (whyP ps n) _ ?_).mono ?_; (exact S2.out.la.fr ((Fr.refl none_ wq).drew) id); rintro e w5 ⟨rfl, hf5⟩; have S5 := hid_ (S2.out.keep (((Fr.refl none_ wq).drew).then_none hf5)); have O5 := hid_ (own_none O2.out (((Fr.refl none_ wq).drew).then_none hf5)); have Q5 := hid_ (Q2.out.fr (((Fr.refl none_ wq).drew).then_none hf5) id); clear hf5; obtain ⟨_, _, ⟨r0, r1⟩, _⟩ := S5.out.cells; have y0 := S5.out.b2.frozen 0; have y1 := S5.out.b2.frozen 1))
    clear r0 r1 y0 y1 q0 q1
    obtain ⟨d1, d2, d3, d4⟩ := S5.out.done (.int .i64 ps.length) (.slice A2 L2.length c2')
    have x0 := d3.cell' (i := 0) rfl
    have x1 := d3.cell' (i := 1) rfl
    have D := hid_ (And.intro d1 (And.intro d2 (d4 _ _ O5.out)))
    clear d1 d2 d3 d4
    go_wp2
    refine bodyPost_ret (v := .tuple #[rtab ps.length (.slice A2 L2.length c2'), .bool true]) ?_ rfl ⟨A2, c2', L2, rfl, D.out.2.1, D.out.2.2, HS2.out, D.out.1⟩
    simp [results, Tryd.results10, go_sem, x0, x1]
end
end Go.Proofs.YtnlpnbllnddaaaaDoor

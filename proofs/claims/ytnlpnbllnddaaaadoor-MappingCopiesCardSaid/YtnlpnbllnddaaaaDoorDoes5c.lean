/- Layer 5's does, the verb Head and all other ones. Written by gen_does5.py. -/
import Derived.Test.YtnlpnbllnddaaaaDoorDoes5b
namespace Go.Proofs.YtnlpnbllnddaaaaDoor
open Go.RowKit
set_option linter.unusedVariables false
section
variable (T G : Nat) (ps : List Pg) (A : Option Addr) (cp : Nat) (L : List Rp) (verb n : Int) (r : Bool) (a b c d : Int) (w : World)

set_option maxHeartbeats 4000000 in
theorem does_head (hT : Tbl w T G ps) (ho : ROwn w (.slice A L.length cp) L) (hs : Sim ps L) (hL : Laid w) (h0 : 0 ≠ G) :
    Calls Tryd.prog 10 #[.pointer (some ⟨T, 0, none⟩), rtab ps.length (.slice A L.length cp), .agg #[.int .i64 2, .int .i64 n, .bool r, .int .i64 a, .int .i64 b, .int .i64 c, .int .i64 d]] w (DoesPost w T G ps.length (ps)) := by
  have HT := hid_ hT
  have HO := hid_ ho
  have HS := hid_ hs
  have HL := hid_ hL
  have H0 := hid_ h0
  clear hT ho hs hL h0
  cases r with
  | false =>
    go_enter Tryd.func10, Tryd.ntmps10
    have S0 := hid_ (DSt.start w T G ps ps.length (.slice A L.length cp) L 2 n false a b c d HT.out HO.out HL.out H0.out (oa := a) (ob := b) (Fr.refl none_ _))
    go_wp2_with fail
    refine (head_any T G ps _ S0.out.tb n).mono ?_
    rintro e w3 ⟨rfl, hf3⟩
    have S3 := hid_ (S0.out.keep hf3)
    clear hf3
    obtain ⟨⟨c0, c1⟩, ⟨c2, c3, c4, c5, c6⟩, _, ⟨c7, c8⟩⟩ := S3.out.cells
    have l0 : w.heap.size < w3.heap.size := S3.out.b0.lt
    have l1 : w.heap.size + 1 < w3.heap.size := S3.out.b1.lt
    go_wp2_with fail
    refine (rhead_any ps A cp L _ (own_none S3.out.own (by repeat (first | exact Fr.refl _ _ | apply Fr.alloc))) HS.out n).mono ?_
    rintro e w4 ⟨rfl, hf4⟩
    have X4 := hid_ ((Blk.new w3 32 #[.int .i64 (headP ps n).1, .int .i64 (headP ps n).2]).fr hf4 id)
    have S4 := hid_ (S3.out.keep (((Fr.refl none_ w3).alloc (.cells #[.int .i64 (headP ps n).1, .int .i64 (headP ps n).2] 32)).then_none hf4))
    have z34 : w.heap.size + 1 + 1 < w3.heap.size := S3.out.b2.lt
    clear c0 c1 c2 c3 c4 c5 c6 c7 c8 hf4 l0 l1
    obtain ⟨wq, hwq⟩ : ∃ wq, wq = w4.alloc (.cells #[.int .i64 (headP ps n).1, .int .i64 (headP ps n).2] 32) := ⟨_, rfl⟩
    have hfq : Fr none_ w4 wq := by rw [hwq]; exact (Fr.refl none_ w4).alloc _
    have S2 := hid_ (S4.out.keep hfq)
    have X2 := hid_ (X4.out.fr hfq id)
    have Y2 : Hid (Blk wq w4.heap.size 32 #[.int .i64 (headP ps n).1, .int .i64 (headP ps n).2]) := hid_ (by rw [hwq]; exact Blk.new w4 _ _)
    have z44 : w.heap.size + 1 + 1 < w4.heap.size := S4.out.b2.lt
    clear hfq
    go_wp2_with fail
    change Code.wp _ _ _ _ (w4.alloc (.cells #[.int .i64 (headP ps n).1, .int .i64 (headP ps n).2] 32))
    rw [← hwq]
    clear hwq
    obtain ⟨⟨c0, c1⟩, _, _, _⟩ := S2.out.cells
    have q0 : wq.cell? ⟨w3.heap.size, 0, none⟩ = some (.int .i64 (headP ps n).1) := X2.out.cell' rfl
    have q1 : wq.cell? ⟨w3.heap.size, 1, none⟩ = some (.int .i64 (headP ps n).2) := X2.out.cell' rfl
    have q2 : wq.cell? ⟨w4.heap.size, 0, none⟩ = some (.int .i64 (headP ps n).1) := Y2.out.cell' rfl
    have q3 : wq.cell? ⟨w4.heap.size, 1, none⟩ = some (.int .i64 (headP ps n).2) := Y2.out.cell' rfl
    go_region_held3 (fun w' => w'.cell? ⟨w.heap.size, 0, none⟩ = some (.int .i64 ps.length) ∧ w'.cell? ⟨w.heap.size, 1, none⟩ = some (.slice A L.length cp) ∧ w'.cell? ⟨w3.heap.size, 0, none⟩ = some (.int .i64 (headP ps n).1) ∧ w'.cell? ⟨w3.heap.size, 1, none⟩ = some (.int .i64 (headP ps n).2) ∧ w'.cell? ⟨w4.heap.size, 0, none⟩ = some (.int .i64 (headP ps n).1) ∧ w'.cell? ⟨w4.heap.size, 1, none⟩ = some (.int .i64 (headP ps n).2))
      (first | exact ⟨c0, c1, q0, q1, q2, q3⟩ | exact ⟨Z5.out.cell' rfl, Z5.out.cell' rfl, X5.out.cell' rfl, X5.out.cell' rfl, Y5.out.cell' rfl, Y5.out.cell' rfl⟩ | exact ⟨((((Z5.out).far (p := ⟨w.heap.size + 1 + 1, 0, none⟩) (by show w.heap.size ≠ w.heap.size + 1 + 1; omega) (.int .i64 ps.length)).far (p := ⟨w.heap.size + 1 + 1, 1, none⟩) (by show w.heap.size ≠ w.heap.size + 1 + 1; omega) (.slice A L.length cp)).cell' rfl), ((((Z5.out).far (p := ⟨w.heap.size + 1 + 1, 0, none⟩) (by show w.heap.size ≠ w.heap.size + 1 + 1; omega) (.int .i64 ps.length)).far (p := ⟨w.heap.size + 1 + 1, 1, none⟩) (by show w.heap.size ≠ w.heap.size + 1 + 1; omega) (.slice A L.length cp)).cell' rfl), ((((X5.out).far (p := ⟨w.heap.size + 1 + 1, 0, none⟩) (by show w3.heap.size ≠ w.heap.size + 1 + 1; omega) (.int .i64 ps.length)).far (p := ⟨w.heap.size + 1 + 1, 1, none⟩) (by show w3.heap.size ≠ w.heap.size + 1 + 1; omega) (.slice A L.length cp)).cell' rfl), ((((X5.out).far (p := ⟨w.heap.size + 1 + 1, 0, none⟩) (by show w3.heap.size ≠ w.heap.size + 1 + 1; omega) (.int .i64 ps.length)).far (p := ⟨w.heap.size + 1 + 1, 1, none⟩) (by show w3.heap.size ≠ w.heap.size + 1 + 1; omega) (.slice A L.length cp)).cell' rfl), ((((Y5.out).far (p := ⟨w.heap.size + 1 + 1, 0, none⟩) (by show w4.heap.size ≠ w.heap.size + 1 + 1; omega) (.int .i64 ps.length)).far (p := ⟨w.heap.size + 1 + 1, 1, none⟩) (by show w4.heap.size ≠ w.heap.size + 1 + 1; omega) (.slice A L.length cp)).cell' rfl), ((((Y5.out).far (p := ⟨w.heap.size + 1 + 1, 0, none⟩) (by show w4.heap.size ≠ w.heap.size + 1 + 1; omega) (.int .i64 ps.length)).far (p := ⟨w.heap.size + 1 + 1, 1, none⟩) (by show w4.heap.size ≠ w.heap.size + 1 + 1; omega) (.slice A L.length cp)).cell' rfl)⟩)
      (first | (go_at_call 17; refine (code_any (whyP ps n) _ ?_).mono ?_; (exact S2.out.la.fr ((Fr.refl none_ wq).drew) id); rintro e w5 ⟨rfl, hf5⟩; have S5 := hid_ (S2.out.keep (((Fr.refl none_ wq).drew).then_none hf5)); have Z5 := hid_ S5.out.b0; have X5 := hid_ (X2.out.fr (((Fr.refl none_ wq).drew).then_none hf5) id); have Y5 := hid_ (Y2.out.fr (((Fr.refl none_ wq).drew).then_none hf5) id); clear hf5; obtain ⟨_, _, ⟨r0, r1⟩, _⟩ := S5.out.cells; have y0 := S5.out.b2.frozen 0; have y1 := S5.out.b2.frozen 1))
    clear r0 r1 y0 y1 c0 c1 q0 q1 q2 q3
    have O5 := hid_ S5.out.own
    obtain ⟨d1, d2, d3, d4⟩ := S5.out.done (.int .i64 ps.length) (.slice A L.length cp)
    have x0 := d3.cell' (i := 0) rfl
    have x1 := d3.cell' (i := 1) rfl
    have D := hid_ (And.intro d1 (And.intro d2 (d4 _ _ O5.out)))
    clear d1 d2 d3 d4
    go_wp2
    refine bodyPost_ret (v := .tuple #[rtab ps.length (.slice A L.length cp), .bool true]) ?_ rfl ⟨A, cp, L, rfl, D.out.2.1, D.out.2.2, HS.out, D.out.1⟩
    simp [results, Tryd.results10, go_sem, x0, x1]
  | true =>
    go_enter Tryd.func10, Tryd.ntmps10
    go_wp2_with fail
    refine (rhead_any ps A cp L _ (own_none HO.out (by repeat (first | exact Fr.refl _ _ | apply Fr.alloc))) HS.out n).mono ?_
    rintro e w1 ⟨rfl, hf1⟩
    have S1 := hid_ (DSt.start w T G ps ps.length (.slice A L.length cp) L 2 n true a b c d HT.out HO.out HL.out H0.out (oa := a) (ob := b) hf1)
    obtain ⟨⟨c0, c1⟩, ⟨c2, c3, c4, c5, c6⟩, _, ⟨c7, c8⟩⟩ := S1.out.cells
    have z0 := S1.out.b3.frozen 0
    have z1 := S1.out.b3.frozen 1
    have S0 := hid_ (S1.out.old (headP ps n).1 (headP ps n).2)
    clear hf1
    go_wp2_with fail
    refine (head_any T G ps _ S0.out.tb n).mono ?_
    rintro e w3 ⟨rfl, hf3⟩
    have S3 := hid_ (S0.out.keep hf3)
    clear hf3 c0 c1 c2 c3 c4 c5 c6 c7 c8 z0 z1
    obtain ⟨⟨c0, c1⟩, ⟨c2, c3, c4, c5, c6⟩, _, ⟨c7, c8⟩⟩ := S3.out.cells
    have l0 : w.heap.size < w3.heap.size := S3.out.b0.lt
    have l1 : w.heap.size + 1 < w3.heap.size := S3.out.b1.lt
    go_wp2_with fail
    refine (rhead_any ps A cp L _ (own_none S3.out.own (by repeat (first | exact Fr.refl _ _ | apply Fr.alloc))) HS.out n).mono ?_
    rintro e w4 ⟨rfl, hf4⟩
    have X4 := hid_ ((Blk.new w3 32 #[.int .i64 (headP ps n).1, .int .i64 (headP ps n).2]).fr hf4 id)
    have S4 := hid_ (S3.out.keep (((Fr.refl none_ w3).alloc (.cells #[.int .i64 (headP ps n).1, .int .i64 (headP ps n).2] 32)).then_none hf4))
    have z34 : w.heap.size + 1 + 1 < w3.heap.size := S3.out.b2.lt
    clear c0 c1 c2 c3 c4 c5 c6 c7 c8 hf4 l0 l1
    obtain ⟨wq, hwq⟩ : ∃ wq, wq = w4.alloc (.cells #[.int .i64 (headP ps n).1, .int .i64 (headP ps n).2] 32) := ⟨_, rfl⟩
    have hfq : Fr none_ w4 wq := by rw [hwq]; exact (Fr.refl none_ w4).alloc _
    have S2 := hid_ (S4.out.keep hfq)
    have X2 := hid_ (X4.out.fr hfq id)
    have Y2 : Hid (Blk wq w4.heap.size 32 #[.int .i64 (headP ps n).1, .int .i64 (headP ps n).2]) := hid_ (by rw [hwq]; exact Blk.new w4 _ _)
    have z44 : w.heap.size + 1 + 1 < w4.heap.size := S4.out.b2.lt
    clear hfq
    go_wp2_with fail
    change Code.wp _ _ _ _ (w4.alloc (.cells #[.int .i64 (headP ps n).1, .int .i64 (headP ps n).2] 32))
    rw [← hwq]
    clear hwq
    obtain ⟨⟨c0, c1⟩, _, _, _⟩ := S2.out.cells
    have q0 : wq.cell? ⟨w3.heap.size, 0, none⟩ = some (.int .i64 (headP ps n).1) := X2.out.cell' rfl
    have q1 : wq.cell? ⟨w3.heap.size, 1, none⟩ = some (.int .i64 (headP ps n).2) := X2.out.cell' rfl
    have q2 : wq.cell? ⟨w4.heap.size, 0, none⟩ = some (.int .i64 (headP ps n).1) := Y2.out.cell' rfl
    have q3 : wq.cell? ⟨w4.heap.size, 1, none⟩ = some (.int .i64 (headP ps n).2) := Y2.out.cell' rfl
    go_region_held3 (fun w' => w'.cell? ⟨w.heap.size, 0, none⟩ = some (.int .i64 ps.length) ∧ w'.cell? ⟨w.heap.size, 1, none⟩ = some (.slice A L.length cp) ∧ w'.cell? ⟨w3.heap.size, 0, none⟩ = some (.int .i64 (headP ps n).1) ∧ w'.cell? ⟨w3.heap.size, 1, none⟩ = some (.int .i64 (headP ps n).2) ∧ w'.cell? ⟨w4.heap.size, 0, none⟩ = some (.int .i64 (headP ps n).1) ∧ w'.cell? ⟨w4.heap.size, 1, none⟩ = some (.int .i64 (headP ps n).2))
      (first | exact ⟨c0, c1, q0, q1, q2, q3⟩ | exact ⟨Z5.out.cell' rfl, Z5.out.cell' rfl, X5.out.cell' rfl, X5.out.cell' rfl, Y5.out.cell' rfl, Y5.out.cell' rfl⟩ | exact ⟨((((Z5.out).far (p := ⟨w.heap.size + 1 + 1, 0, none⟩) (by show w.heap.size ≠ w.heap.size + 1 + 1; omega) (.int .i64 ps.length)).far (p := ⟨w.heap.size + 1 + 1, 1, none⟩) (by show w.heap.size ≠ w.heap.size + 1 + 1; omega) (.slice A L.length cp)).cell' rfl), ((((Z5.out).far (p := ⟨w.heap.size + 1 + 1, 0, none⟩) (by show w.heap.size ≠ w.heap.size + 1 + 1; omega) (.int .i64 ps.length)).far (p := ⟨w.heap.size + 1 + 1, 1, none⟩) (by show w.heap.size ≠ w.heap.size + 1 + 1; omega) (.slice A L.length cp)).cell' rfl), ((((X5.out).far (p := ⟨w.heap.size + 1 + 1, 0, none⟩) (by show w3.heap.size ≠ w.heap.size + 1 + 1; omega) (.int .i64 ps.length)).far (p := ⟨w.heap.size + 1 + 1, 1, none⟩) (by show w3.heap.size ≠ w.heap.size + 1 + 1; omega) (.slice A L.length cp)).cell' rfl), ((((X5.out).far (p := ⟨w.heap.size + 1 + 1, 0, none⟩) (by show w3.heap.size ≠ w.heap.size + 1 + 1; omega) (.int .i64 ps.length)).far (p := ⟨w.heap.size + 1 + 1, 1, none⟩) (by show w3.heap.size ≠ w.heap.size + 1 + 1; omega) (.slice A L.length cp)).cell' rfl), ((((Y5.out).far (p := ⟨w.heap.size + 1 + 1, 0, none⟩) (by show w4.heap.size ≠ w.heap.size + 1 + 1; omega) (.int .i64 ps.length)).far (p := ⟨w.heap.size + 1 + 1, 1, none⟩) (by show w4.heap.size ≠ w.heap.size + 1 + 1; omega) (.slice A L.length cp)).cell' rfl), ((((Y5.out).far (p := ⟨w.heap.size + 1 + 1, 0, none⟩) (by show w4.heap.size ≠ w.heap.size + 1 + 1; omega) (.int .i64 ps.length)).far (p := ⟨w.heap.size + 1 + 1, 1, none⟩) (by show w4.heap.size ≠ w.heap.size + 1 + 1; omega) (.slice A L.length cp)).cell' rfl)⟩)
      (first | (go_at_call 17; refine (code_any (whyP ps n) _ ?_).mono ?_; (exact S2.out.la.fr ((Fr.refl none_ wq).drew) id); rintro e w5 ⟨rfl, hf5⟩; have S5 := hid_ (S2.out.keep (((Fr.refl none_ wq).drew).then_none hf5)); have Z5 := hid_ S5.out.b0; have X5 := hid_ (X2.out.fr (((Fr.refl none_ wq).drew).then_none hf5) id); have Y5 := hid_ (Y2.out.fr (((Fr.refl none_ wq).drew).then_none hf5) id); clear hf5; obtain ⟨_, _, ⟨r0, r1⟩, _⟩ := S5.out.cells; have y0 := S5.out.b2.frozen 0; have y1 := S5.out.b2.frozen 1))
    clear r0 r1 y0 y1 c0 c1 q0 q1 q2 q3
    have O5 := hid_ S5.out.own
    obtain ⟨d1, d2, d3, d4⟩ := S5.out.done (.int .i64 ps.length) (.slice A L.length cp)
    have x0 := d3.cell' (i := 0) rfl
    have x1 := d3.cell' (i := 1) rfl
    have D := hid_ (And.intro d1 (And.intro d2 (d4 _ _ O5.out)))
    clear d1 d2 d3 d4
    go_wp2
    refine bodyPost_ret (v := .tuple #[rtab ps.length (.slice A L.length cp), .bool true]) ?_ rfl ⟨A, cp, L, rfl, D.out.2.1, D.out.2.2, HS.out, D.out.1⟩
    simp [results, Tryd.results10, go_sem, x0, x1]

set_option maxHeartbeats 4000000 in
theorem does_else (hT : Tbl w T G ps) (ho : ROwn w (.slice A L.length cp) L) (hs : Sim ps L) (hL : Laid w) (h0 : 0 ≠ G) (hv : verb ≠ 0 ∧ verb ≠ 1 ∧ verb ≠ 2 ∧ verb ≠ 3) :
    Calls Tryd.prog 10 #[.pointer (some ⟨T, 0, none⟩), rtab ps.length (.slice A L.length cp), .agg #[.int .i64 verb, .int .i64 n, .bool r, .int .i64 a, .int .i64 b, .int .i64 c, .int .i64 d]] w (DoesPost w T G ps.length (ps)) := by
  have HT := hid_ hT
  have HO := hid_ ho
  have HS := hid_ hs
  have HL := hid_ hL
  have H0 := hid_ h0
  clear hT ho hs hL h0
  obtain ⟨v0, v1, v2, v3⟩ := hv
  cases r with
  | false =>
    go_enter Tryd.func10, Tryd.ntmps10
    have S0 := hid_ (DSt.start w T G ps ps.length (.slice A L.length cp) L verb n false a b c d HT.out HO.out HL.out H0.out (oa := a) (ob := b) (Fr.refl none_ _))
    obtain ⟨⟨c0, c1⟩, ⟨c2, c3, c4, c5, c6⟩, _, ⟨c7, c8⟩⟩ := S0.out.cells
    have y0 := S0.out.b2.frozen 0
    have y1 := S0.out.b2.frozen 1
    go_wp2
    refine bodyPost_ret (v := .tuple #[rtab ps.length (.slice A L.length cp), .bool true]) ?_ rfl ?_
    · simp [results, Tryd.results10, go_sem]
    · have FF : ∀ {w' : World}, Fr none_ w w' → DoesPost w T G ps.length ps (.returned (.tuple #[rtab ps.length (.slice A L.length cp), .bool true])) w' := fun F => ⟨A, cp, L, rfl, HT.out.fr F id id, own_none HO.out F, HS.out, F.mono (fun _ _ e => e.elim)⟩
      exact FF (by repeat (first | exact Fr.refl _ _ | apply Fr.alloc))
  | true =>
    go_enter Tryd.func10, Tryd.ntmps10
    go_wp2_with fail
    refine (rhead_any ps A cp L _ (own_none HO.out (by repeat (first | exact Fr.refl _ _ | apply Fr.alloc))) HS.out n).mono ?_
    rintro e w1 ⟨rfl, hf1⟩
    have S1 := hid_ (DSt.start w T G ps ps.length (.slice A L.length cp) L verb n true a b c d HT.out HO.out HL.out H0.out (oa := a) (ob := b) hf1)
    obtain ⟨⟨c0, c1⟩, ⟨c2, c3, c4, c5, c6⟩, _, ⟨c7, c8⟩⟩ := S1.out.cells
    have z0 := S1.out.b3.frozen 0
    have z1 := S1.out.b3.frozen 1
    have S0 := hid_ (S1.out.old (headP ps n).1 (headP ps n).2)
    clear hf1
    have y0 := S1.out.b2.frozen 0
    have y1 := S1.out.b2.frozen 1
    obtain ⟨d1, d2, d3, d4⟩ := S0.out.done (.int .i64 ps.length) (.slice A L.length cp)
    have x0 := d3.cell' (i := 0) rfl
    have x1 := d3.cell' (i := 1) rfl
    have D := hid_ (And.intro d1 (And.intro d2 (d4 _ _ S0.out.own)))
    clear d1 d2 d3 d4
    go_wp2
    refine bodyPost_ret (v := .tuple #[rtab ps.length (.slice A L.length cp), .bool true]) ?_ rfl ⟨A, cp, L, rfl, D.out.2.1, D.out.2.2, HS.out, D.out.1⟩
    simp [results, Tryd.results10, go_sem, x0, x1]

/-- What the table is behind a step. -/
def doesP (ps : List Pg) (verb n : Int) (r : Bool) (a b c d : Int) : List Pg :=
  if verb = 0 then (takeP ps).2.2 else if verb = 1 then giveP ps n else if verb = 3 then swapP ps n (oldP ps n r a b).1 (oldP ps n r a b).2 c d else ps
theorem doesP_len (ps : List Pg) (verb n : Int) (r : Bool) (a b c d : Int) : (doesP ps verb n r a b c d).length = ps.length := by
  unfold doesP
  split
  · exact takeP_len ps
  · split
    · exact giveP_len ps n
    · split
      · exact swapP_len ps n _ _ c d
      · rfl
theorem does_any (hT : Tbl w T G ps) (ho : ROwn w (.slice A L.length cp) L) (hs : Sim ps L) (hL : Laid w) (h0 : 0 ≠ G) :
    Calls Tryd.prog 10 #[.pointer (some ⟨T, 0, none⟩), rtab ps.length (.slice A L.length cp), .agg #[.int .i64 verb, .int .i64 n, .bool r, .int .i64 a, .int .i64 b, .int .i64 c, .int .i64 d]] w (DoesPost w T G ps.length (doesP ps verb n r a b c d)) := by
  by_cases v0 : verb = 0
  · subst v0
    exact does_take T G ps A cp L n r a b c d w hT ho hs hL h0
  · by_cases v1 : verb = 1
    · subst v1
      exact does_give T G ps A cp L n r a b c d w hT ho hs hL h0
    · by_cases v3 : verb = 3
      · subst v3
        exact does_swap T G ps A cp L n r a b c d w hT ho hs hL h0
      · have e : doesP ps verb n r a b c d = ps := by unfold doesP; rw [if_neg v0, if_neg v1, if_neg v3]
        rw [e]
        by_cases v2 : verb = 2
        · subst v2
          exact does_head T G ps A cp L n r a b c d w hT ho hs hL h0
        · exact does_else T G ps A cp L verb n r a b c d w hT ho hs hL h0 ⟨v0, v1, v2, v3⟩
end
end Go.Proofs.YtnlpnbllnddaaaaDoor

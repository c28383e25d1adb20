/- Contracts of rowlockref05's Swap. -/
import Derived.Test.YtnlpnbllnddaaaaDoorRef5d
namespace Go.Proofs.YtnlpnbllnddaaaaDoor
open Go.RowKit
set_option linter.unusedVariables false

theorem eql_no (s g a b : Int) (h : ¬(s = a ∧ g = b)) (w : World) : (binOp .eql 32 (.agg #[.int .i64 s, .int .i64 g]) (.agg #[.int .i64 a, .int .i64 b])).run Tryd.prog w = .ok (.bool false) w := by
  rw [eql_ref]
  have : (s == a && g == b) = false := by simpa using h
  rw [this]
theorem neq_yes (s g a b : Int) (h : ¬(s = a ∧ g = b)) (w : World) : (binOp .neq 32 (.agg #[.int .i64 s, .int .i64 g]) (.agg #[.int .i64 a, .int .i64 b])).run Tryd.prog w = .ok (.bool true) w := by
  rw [neq_ref]
  have : (s == a && g == b) = false := by simpa using h
  rw [this]; rfl

structure SSt (w w' : World) (count : Int) (v : Value) (L : List Rp) (a b c d : Int) (x y : Value) : Prop where
  g : GSt w w' count v L (w.heap.size + 1 + 1 + 1) x y
  b2 : Blk w' (w.heap.size + 1) 32 #[.int .i64 a, .int .i64 b]
  b3 : Blk w' (w.heap.size + 1 + 1) 32 #[.int .i64 c, .int .i64 d]
theorem SSt.keep {w w' w2 : World} {count : Int} {v x y : Value} {L : List Rp} {a b c d : Int} (h : SSt w w' count v L a b c d x y) (hf : Fr none_ w' w2) : SSt w w2 count v L a b c d x y :=
  ⟨h.g.keep hf, h.b2.fr hf id, h.b3.fr hf id⟩
theorem SSt.drew {w w' : World} {count : Int} {v x y : Value} {L : List Rp} {a b c d : Int} (h : SSt w w' count v L a b c d x y) : SSt w w'.drew count v L a b c d x y := h.keep ((Fr.refl none_ w').drew)
theorem SSt.res {w w' : World} {count : Int} {v x y : Value} {L : List Rp} {a b c d : Int} (h : SSt w w' count v L a b c d x y) (x' y' : Value) :
    SSt w ((w'.setCell ⟨w.heap.size + 1 + 1 + 1, 0, none⟩ x').setCell ⟨w.heap.size + 1 + 1 + 1, 1, none⟩ y') count v L a b c d x' y' :=
  ⟨h.g.res x' y', (h.b2.far (by simp) _).far (by simp) _, (h.b3.far (by simp) _).far (by simp) _⟩
/-- Behind the boxes of Swap, and whatever call. -/
theorem SSt.start (w w1 : World) (count : Int) (v : Value) (L : List Rp) (a b c d : Int) (h : ROwn w v L)
    (hf : Fr none_ ((((w.alloc (rbox count v)).alloc (.cells #[.int .i64 a, .int .i64 b] 32)).alloc (.cells #[.int .i64 c, .int .i64 d] 32)).alloc (.cells #[.int .i64 0, .slice none 0 0] 28)) w1) :
    SSt w w1 count v L a b c d (.int .i64 0) (.slice none 0 0) := by
  have F := ((((Fr.refl none_ w).alloc (rbox count v)).alloc (.cells #[.int .i64 a, .int .i64 b] 32)).alloc (.cells #[.int .i64 c, .int .i64 d] 32)).alloc (.cells #[.int .i64 0, .slice none 0 0] 28)
  have k2 := (Blk.new (w.alloc (rbox count v)) 32 #[.int .i64 a, .int .i64 b])
  have k3 := (Blk.new ((w.alloc (rbox count v)).alloc (.cells #[.int .i64 a, .int .i64 b] 32)) 32 #[.int .i64 c, .int .i64 d])
  have k4 := (Blk.new (((w.alloc (rbox count v)).alloc (.cells #[.int .i64 a, .int .i64 b] 32)).alloc (.cells #[.int .i64 c, .int .i64 d] 32)) 28 #[.int .i64 0, .slice none 0 0])
  simp only [World.size_alloc] at k2 k3 k4
  exact ⟨⟨((((Blk.new w _ _).alloc _).alloc _).alloc _).fr hf id, k4.fr hf id, F.then_none hf, own_none h (F.then_none hf), by omega⟩, ((k2.alloc _).alloc _).fr hf id, (k3.alloc _).fr hf id⟩

set_option maxHeartbeats 1000000 in
theorem rswap_err (count n : Int) (A : Option Addr) (cp : Nat) (L : List Rp) (a b c d : Int) (w : World) (h : ROwn w (.slice A L.length cp) L) (hl : L.length ≤ 1000) (k : Int) (hk : whyL count L n = k) (hk0 : k ≠ 0) :
    Calls Tryd.prog 23 #[rtab count (.slice A L.length cp), .int .i64 n, .agg #[.int .i64 a, .int .i64 b], .agg #[.int .i64 c, .int .i64 d]] w fun e w' => e = .returned (.tuple #[rtab count (.slice A L.length cp), .bool false, .int .i64 k]) ∧ Fr none_ w w' := by
  have H := hid_ h
  have Hk := hid_ hk
  have hkb : (k == 0) = false := by simpa using hk0
  clear h hk hk0
  go_enter Tryd.func23, Tryd.ntmps23
  go_wp2_with fail
  refine (why_any count n A cp L _ (own_none H.out (by repeat (first | exact Fr.refl _ _ | apply Fr.alloc))) hl).mono ?_
  rintro e w1 ⟨rfl, hf1⟩
  rw [Hk.out]
  have S1 := hid_ (SSt.start w w1 count _ L a b c d H.out hf1)
  obtain ⟨c20, c21, _, _⟩ := S1.out.g.cells
  have n2 := S1.out.g.b0.lt
  have n4 := S1.out.g.b1.lt
  clear hf1
  go_wp2_with fail
  go_region_held3 (fun w' => w'.cell? ⟨w.heap.size, 0, none⟩ = some (.int .i64 count) ∧ w'.cell? ⟨w.heap.size, 1, none⟩ = some (.slice A L.length cp))
    (first | (have T := S1.out.drew.g; exact ⟨T.cells.1, T.cells.2.1⟩) | (have T := S2.out.g; exact ⟨T.cells.1, T.cells.2.1⟩) | (have T := (S2.out.res (.int .i64 count) (.slice A L.length cp)).g; exact ⟨T.cells.1, T.cells.2.1⟩))
    (first | (go_at_call 27; refine (why_any count n A cp L _ ?_ hl).mono ?_; (exact S1.out.drew.g.own); rintro e w2 ⟨rfl, hf2⟩; rw [Hk.out]; have S2 := hid_ (S1.out.drew.keep hf2); clear hf2; obtain ⟨_, _, r0, r1⟩ := S2.out.g.cells; have r2 := S2.out.g.b1.frozen 0; have r3 := S2.out.g.b1.frozen 1))
  clear r0 r1 r2 r3 c20 c21
  have S3 := hid_ (S2.out.res (.int .i64 count) (.slice A L.length cp))
  obtain ⟨_, _, q0, q1⟩ := S3.out.g.cells
  go_wp2
  refine bodyPost_ret (v := .tuple #[rtab count (.slice A L.length cp), .bool false, .int .i64 k]) ?_ rfl ⟨rfl, S3.out.g.fr⟩
  simp [results, Tryd.results23, go_sem, q0, q1]

set_option maxHeartbeats 1000000 in
theorem rswap_no (count n : Int) (A : Option Addr) (cp : Nat) (L : List Rp) (a b c d : Int) (w : World) (h : ROwn w (.slice A L.length cp) L) (hl : L.length ≤ 1000) (h0 : 0 ≤ n) (h1 : n < count) (i : Nat) (m s g : Int) (hf : findL L n = i) (hi : L[i]? = some (m, s, g)) (hne : ¬(s = a ∧ g = b)) :
    Calls Tryd.prog 23 #[rtab count (.slice A L.length cp), .int .i64 n, .agg #[.int .i64 a, .int .i64 b], .agg #[.int .i64 c, .int .i64 d]] w fun e w' => e = .returned (.tuple #[rtab count (.slice A L.length cp), .bool false, .int .i64 0]) ∧ Fr none_ w w' := by
  have hil : i < L.length := (List.getElem?_eq_some_iff.1 hi).1
  have H := hid_ h
  have Hf := hid_ hf
  have Hk : Hid (whyL count L n = 0) := hid_ (by rw [whyL, if_neg (by omega), if_neg (by omega)])
  have Hx := hid_ hi
  have hq := neq_yes s g a b hne
  clear h hf hi hne
  go_enter Tryd.func23, Tryd.ntmps23
  go_wp2_with fail
  refine (why_any count n A cp L _ (own_none H.out (by repeat (first | exact Fr.refl _ _ | apply Fr.alloc))) hl).mono ?_
  rintro e w1 ⟨rfl, hf1⟩
  rw [Hk.out]
  have S1 := hid_ (SSt.start w w1 count _ L a b c d H.out hf1)
  obtain ⟨c20, c21, _, _⟩ := S1.out.g.cells
  clear hf1
  go_wp2_with fail
  refine (find_any count n A cp L w1 S1.out.g.own hl).mono ?_
  rintro e w2 ⟨rfl, hw2⟩
  rw [Hf.out]
  have S2 : Hid (SSt w w2 count (.slice A L.length cp) L a b c d (.int .i64 0) (.slice none 0 0)) := hid_ (S1.out.keep (by rw [hw2]; exact (Fr.refl none_ w1).alloc _))
  clear hw2 c20 c21
  obtain ⟨gb, hA, hgl, hcl⟩ := rown_cell S2.out.g.own (by omega)
  obtain ⟨_, e1, e2⟩ := hcl i _ Hx.out
  have HA := hid_ hA
  clear hcl
  subst hA
  obtain ⟨c20, c21, r0, r1⟩ := S2.out.g.cells
  have d0 : w2.cell? ⟨w.heap.size + 1, 0, none⟩ = some (.int .i64 a) := S2.out.b2.cell' rfl
  have d1 : w2.cell? ⟨w.heap.size + 1, 1, none⟩ = some (.int .i64 b) := S2.out.b2.cell' rfl
  have r2 := S2.out.g.b1.frozen 0
  have r3 := S2.out.g.b1.frozen 1
  have hi0 : (0 : Int) ≤ (i : Int) := Int.natCast_nonneg _
  have hi1 : (i : Int) < (L.length : Int) := by omega
  go_wp2_with fail
  go_quiet (fail)
  go_wp2
  have S3 := hid_ ((S2.out.keep ((Fr.refl none_ w2).drewN nq)).res (.int .i64 count) (.slice (some ⟨gb, 0, none⟩) L.length cp))
  obtain ⟨_, _, q0, q1⟩ := S3.out.g.cells
  clear r0 r1 r2 r3
  refine bodyPost_ret (v := .tuple #[rtab count (.slice (some ⟨gb, 0, none⟩) L.length cp), .bool false, .int .i64 0]) ?_ rfl ⟨rfl, S3.out.g.fr⟩
  simp [results, Tryd.results23, go_sem, q0, q1]

def RSwapPost (w : World) (count : Int) (L : List Rp) (i : Nat) (m c d : Int) (e : Ending) (w' : World) : Prop :=
  ∃ A cp, e = .returned (.tuple #[rtab count (.slice A (L.set i (m, c, d)).length cp), .bool true, .int .i64 0]) ∧ ROwn w' (.slice A (L.set i (m, c, d)).length cp) (L.set i (m, c, d)) ∧ Fr none_ w w'

theorem rpFlat_set : ∀ (L : List Rp) (i : Nat) (m s g c d : Int), L[i]? = some (m, s, g) → ((rpFlat L).set (i * 3 + 1) (.int .i64 c)).set (i * 3 + 1 + 1) (.int .i64 d) = rpFlat (L.set i (m, c, d))
  | [], i, m, s, g, c, d, h => by simp at h
  | q :: L, 0, m, s, g, c, d, h => by
    obtain rfl : q = (m, s, g) := by simpa using h
    simp [rpFlat]
  | q :: L, i + 1, m, s, g, c, d, h => by
    have := rpFlat_set L i m s g c d (by simpa using h)
    rw [show (i + 1) * 3 = i * 3 + 1 + 1 + 1 by omega]
    simpa [rpFlat, List.flatMap_cons] using this

set_option maxHeartbeats 1000000 in
theorem rswap_yes (count n : Int) (A : Option Addr) (cp : Nat) (L : List Rp) (a b c d : Int) (w : World) (h : ROwn w (.slice A L.length cp) L) (hl : L.length ≤ 1000) (h0 : 0 ≤ n) (h1 : n < count) (i : Nat) (m : Int) (hf : findL L n = i) (hi : L[i]? = some (m, a, b)) :
    Calls Tryd.prog 23 #[rtab count (.slice A L.length cp), .int .i64 n, .agg #[.int .i64 a, .int .i64 b], .agg #[.int .i64 c, .int .i64 d]] w (RSwapPost w count L i m c d) := by
  obtain ⟨i0, hi0', hz0, hs0, hb0⟩ := info_parts rpage_info
  have Hi := hid_ (And.intro hi0' (And.intro hz0 (And.intro hs0 hb0)))
  have hil : i < L.length := (List.getElem?_eq_some_iff.1 hi).1
  have H := hid_ h
  have Hf := hid_ hf
  have Hk : Hid (whyL count L n = 0) := hid_ (by rw [whyL, if_neg (by omega), if_neg (by omega)])
  have Hx := hid_ hi
  clear h hf hi hi0' hz0 hs0 hb0
  go_enter Tryd.func23, Tryd.ntmps23
  go_wp2_with fail
  refine (why_any count n A cp L _ (own_none H.out (by repeat (first | exact Fr.refl _ _ | apply Fr.alloc))) hl).mono ?_
  rintro e w1 ⟨rfl, hf1⟩
  rw [Hk.out]
  have S1 := hid_ (SSt.start w w1 count _ L a b c d H.out hf1)
  obtain ⟨c20, c21, _, _⟩ := S1.out.g.cells
  clear hf1
  go_wp2_with fail
  refine (find_any count n A cp L w1 S1.out.g.own hl).mono ?_
  rintro e w2 ⟨rfl, hw2⟩
  rw [Hf.out]
  have S2 : Hid (SSt w w2 count (.slice A L.length cp) L a b c d (.int .i64 0) (.slice none 0 0)) := hid_ (S1.out.keep (by rw [hw2]; exact (Fr.refl none_ w1).alloc _))
  clear hw2 c20 c21
  obtain ⟨gb, hA, hgl, hcl⟩ := rown_cell S2.out.g.own (by omega)
  obtain ⟨_, e1, e2⟩ := hcl i _ Hx.out
  clear hcl
  subst hA
  obtain ⟨c20, c21, r0, r1⟩ := S2.out.g.cells
  have d0 : w2.cell? ⟨w.heap.size + 1, 0, none⟩ = some (.int .i64 a) := S2.out.b2.cell' rfl
  have d1 : w2.cell? ⟨w.heap.size + 1, 1, none⟩ = some (.int .i64 b) := S2.out.b2.cell' rfl
  have hi0 : (0 : Int) ≤ (i : Int) := Int.natCast_nonneg _
  have hi1 : (i : Int) < (L.length : Int) := by omega
  have hz2 := S2.out.g.b0.lt
  go_wp2_with fail
  go_quiet (fail)
  obtain ⟨wq, hwq⟩ : ∃ wq, wq = w2.drewN nq := ⟨_, rfl⟩
  rw [← hwq]
  have Sq : Hid (SSt w wq count (.slice (some ⟨gb, 0, none⟩) L.length cp) L a b c d (.int .i64 0) (.slice none 0 0)) := hid_ (by rw [hwq]; exact S2.out.keep ((Fr.refl none_ w2).drewN nq))
  clear hwq c20 c21 r0 r1 d0 d1 hz2 e1 e2
  have hzq := Sq.out.g.b0.lt
  obtain ⟨c20, c21, _, _⟩ := Sq.out.g.cells
  have hmax : Hid (0 + L.length ≤ maxLen) := hid_ (by simp only [maxLen]; omega)
  have hby : Hid ((0 + L.length) * 24 ≤ 140737488355328) := hid_ (by omega)
  have hbs : Hid (wq.heap.size ≤ (wq.alloc (.cells #[] 76)).heap.size) := hid_ (by simp)
  have hsrc : Hid (Reads (wq.alloc (.cells #[] 76)) 3 (some ⟨gb, 0, none⟩) L.length (rpFlat L)) := hid_ ((Reads.of_own Sq.out.g.own).alloc _)
  go_wp2_with (at_builtin; refine wpList_append_any _ rfl (.tmp 33) (.tmp 35) 26 rfl wq.heap.size 76 i0 _ 3 24 Tryd.underlying26 Hi.out.1 Hi.out.2.1 Hi.out.2.2.1 Hi.out.2.2.2 rfl (by omega) (.slice (some ⟨wq.heap.size, 0, none⟩) 0 0) 0 [] rfl (own_empty_at wq _ _ _ _ (Nat.le_refl _) rfl) (some ⟨gb, 0, none⟩) L.length cp (rpFlat L) rfl hsrc.out (rpFlat_one L) hmax.out hby.out hbs.out ?_; intro A1 c1 w3 hown3 hgr3; simp only [Nat.zero_add, List.nil_append] at hown3; have F3 := hid_ (((Fr.refl none_ wq).alloc (.cells #[] 76)).grown hgr3 (fun k hk => .inr (by simp [Value.ownBlock] at hk; omega))); clear hgr3; obtain ⟨g1, hA1, hg1, hcl1⟩ := rown_cell (own_base hown3 (Nat.zero_le _)) (by omega); subst hA1; obtain ⟨x0, x1, x2⟩ := hcl1 i _ Hx.out; have y1 := hown3.frozenAt (i * 3 + 1); have y2 := hown3.frozenAt (i * 3 + 1 + 1); have O3 := hid_ hown3; clear hown3 hcl1; have S3 := hid_ (Sq.out.keep F3.out); have j0 : w3.cell? ⟨w.heap.size + 1 + 1, 0, none⟩ = some (.int .i64 c) := S3.out.b3.cell' rfl; have j1 : w3.cell? ⟨w.heap.size + 1 + 1, 1, none⟩ = some (.int .i64 d) := S3.out.b3.cell' rfl; obtain ⟨k0, k1, k2, k3⟩ := S3.out.g.cells; have k4 := S3.out.g.b0.frozen 1; have k5 := S3.out.g.b1.frozen 0; have k6 := S3.out.g.b1.frozen 1; have k7 : wq.heap.size ≤ g1 := (O3.out.lt g1 rfl).1; have k8 := Sq.out.g.b1.lt; have k9 : ¬ g1 = w.heap.size := by omega)
  have hg3 : ¬ g1 = w.heap.size + 1 + 1 + 1 := by have := k7; have := k8; omega
  have q := (((S3.out.g.b1.far (p := ⟨g1, i * 3 + 1, none⟩) (by show w.heap.size + 1 + 1 + 1 ≠ g1; omega) (.int .i64 c)).far (p := ⟨g1, i * 3 + 1 + 1, none⟩) (by show w.heap.size + 1 + 1 + 1 ≠ g1; omega) (.int .i64 d)).far (p := ⟨w.heap.size, 1, none⟩) (by show w.heap.size + 1 + 1 + 1 ≠ w.heap.size; omega) (.slice (some ⟨g1, 0, none⟩) L.length c1)).set_ 0 (.int .i64 count) |>.set_ 1 (.slice (some ⟨g1, 0, none⟩) L.length c1)
  have q0 := q.cell' (i := 0) rfl
  have q1 := q.cell' (i := 1) rfl
  clear q k0 k1 k2 k3 k4 k5 k6 j0 j1 x0 x1 x2 y1 y2
  refine bodyPost_ret (v := .tuple #[rtab count (.slice (some ⟨g1, 0, none⟩) L.length c1), .bool true, .int .i64 0]) ?_ rfl ⟨some ⟨g1, 0, none⟩, c1, by simp, ?_, ?_⟩
  · simp [results, Tryd.results23, go_sem, q0, q1]
  · unfold ROwn
    rw [List.length_set, ← rpFlat_set L i m a b c d Hx.out]
    have o1 := ((O3.out.stored (i * 3 + 1) (.int .i64 c)).1.stored (i * 3 + 1 + 1) (.int .i64 d)).1
    refine own_fr (S := fun b => b = w.heap.size ∨ b = w.heap.size + 1 + 1 + 1) (own_base o1 (Nat.zero_le _)) ?_ ?_
    · exact (((Fr.refl _ _).setCell (p := ⟨w.heap.size, 1, none⟩) (.inl (.inl rfl)) _).setCell (p := ⟨w.heap.size + 1 + 1 + 1, 0, none⟩) (.inl (.inr rfl)) _).setCell (p := ⟨w.heap.size + 1 + 1 + 1, 1, none⟩) (.inl (.inr rfl)) _
    · intro k hk
      obtain rfl : g1 = k := by simpa [Value.ownBlock] using hk
      omega
  · exact ((((S3.out.g.fr.setCell (p := ⟨g1, i * 3 + 1, none⟩) (.inr (by show w.heap.size ≤ g1; omega)) _).setCell (p := ⟨g1, i * 3 + 1 + 1, none⟩) (.inr (by show w.heap.size ≤ g1; omega)) _).setCell (p := ⟨w.heap.size, 1, none⟩) (.inr (Nat.le_refl w.heap.size)) _).setCell (p := ⟨w.heap.size + 1 + 1 + 1, 0, none⟩) (.inr (by show w.heap.size ≤ w.heap.size + 1 + 1 + 1; omega)) _).setCell (p := ⟨w.heap.size + 1 + 1 + 1, 1, none⟩) (.inr (by show w.heap.size ≤ w.heap.size + 1 + 1 + 1; omega)) _
end Go.Proofs.YtnlpnbllnddaaaaDoor

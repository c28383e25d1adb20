/- Contracts of rowlockref05's Give and Swap. -/
import Derived.Test.YtnlpnbllnddaaaaDoorRef5c
namespace Go.Proofs.YtnlpnbllnddaaaaDoor
open Go.RowKit
set_option linter.unusedVariables false

/-- why, whatever it answers: nothing of what was there turns. -/
theorem why_any (count n : Int) (A : Option Addr) (c : Nat) (L : List Rp) (w : World) (h : ROwn w (.slice A L.length c) L) (hl : L.length ≤ 1000) :
    Calls Tryd.prog 27 #[rtab count (.slice A L.length c), .int .i64 n] w fun e w' => e = .returned (.int .i64 (whyL count L n)) ∧ Fr none_ w w' := by
  by_cases hn : n < 0 ∨ count ≤ n
  · have : whyL count L n = 1 := by rw [whyL, if_pos hn]
    rw [this]
    exact (why_arg count n A c L w hn).mono fun _ _ ⟨h1, h2⟩ => ⟨h1, h2 ▸ (Fr.refl none_ w).alloc _⟩
  · by_cases hf : findL L n = -1
    · have : whyL count L n = 6 := by rw [whyL, if_neg hn, if_pos hf]
      rw [this]
      exact (why_none count n A c L w h hl (by omega) (by omega) hf).mono fun _ _ ⟨h1, h2⟩ => ⟨h1, h2 ▸ ((Fr.refl none_ w).alloc _).alloc _⟩
    · have : whyL count L n = 0 := by rw [whyL, if_neg hn, if_neg hf]
      rw [this]
      exact (why_ok count n A c L w h hl (by omega) (by omega) (by have := (findL_ge L n).1; omega)).mono fun _ _ ⟨h1, h2⟩ => ⟨h1, h2 ▸ ((Fr.refl none_ w).alloc _).alloc _⟩

/-- What holds inside Give and its like: the receiver's box, the result's box, the list. -/
structure GSt (w w' : World) (count : Int) (v : Value) (L : List Rp) (b : Nat) (x y : Value) : Prop where
  b0 : Blk w' w.heap.size 28 #[.int .i64 count, v]
  b1 : Blk w' b 28 #[x, y]
  fr : Fr none_ w w'
  own : ROwn w' v L
  hb : w.heap.size < b
theorem GSt.keep {w w' w2 : World} {count : Int} {v x y : Value} {L : List Rp} {b : Nat} (h : GSt w w' count v L b x y) (hf : Fr none_ w' w2) : GSt w w2 count v L b x y :=
  ⟨h.b0.fr hf id, h.b1.fr hf id, h.fr.then_none hf, own_none h.own hf, h.hb⟩
theorem GSt.drew {w w' : World} {count : Int} {v x y : Value} {L : List Rp} {b : Nat} (h : GSt w w' count v L b x y) : GSt w w'.drew count v L b x y := h.keep ((Fr.refl none_ w').drew)
theorem GSt.res {w w' : World} {count : Int} {v x y : Value} {L : List Rp} {b : Nat} (h : GSt w w' count v L b x y) (x' y' : Value) : GSt w ((w'.setCell ⟨b, 0, none⟩ x').setCell ⟨b, 1, none⟩ y') count v L b x' y' := by
  have hb := h.hb
  have hf : Fr (only b) w' ((w'.setCell ⟨b, 0, none⟩ x').setCell ⟨b, 1, none⟩ y') := ((Fr.refl (only b) w').setCell (p := ⟨b, 0, none⟩) (.inl (Eq.refl b)) _).setCell (p := ⟨b, 1, none⟩) (.inl (Eq.refl b)) _
  refine ⟨h.b0.fr hf (only_ne (by omega)), (h.b1.set_ 0 x').set_ 1 y', h.fr.then_only hf (.inr (by omega)), own_fr h.own hf (fun k hk e => ?_), hb⟩
  exact own_blk_ne h.own h.b1 (by decide) (by rw [hk, show k = b from e])
theorem GSt.cells {w w' : World} {count : Int} {v x y : Value} {L : List Rp} {b : Nat} (h : GSt w w' count v L b x y) :
    w'.cell? ⟨w.heap.size, 0, none⟩ = some (.int .i64 count) ∧ w'.cell? ⟨w.heap.size, 1, none⟩ = some v ∧ w'.cell? ⟨b, 0, none⟩ = some x ∧ w'.cell? ⟨b, 1, none⟩ = some y :=
  ⟨h.b0.cell' rfl, h.b0.cell' rfl, h.b1.cell' rfl, h.b1.cell' rfl⟩

set_option maxHeartbeats 1000000 in
theorem rgive_err (count n : Int) (A : Option Addr) (c : Nat) (L : List Rp) (w : World) (h : ROwn w (.slice A L.length c) L) (hl : L.length ≤ 1000) (k : Int) (hk : whyL count L n = k) (hk0 : k ≠ 0) :
    Calls Tryd.prog 22 #[rtab count (.slice A L.length c), .int .i64 n] w fun e w' => e = .returned (.tuple #[rtab count (.slice A L.length c), .int .i64 k]) ∧ Fr none_ w w' := by
  have H := hid_ h
  have Hk := hid_ hk
  have hkb : (k == 0) = false := by simpa using hk0
  clear h hk hk0
  go_enter Tryd.func22, Tryd.ntmps22
  go_wp2_with fail
  refine (why_any count n A c L _ (own_none H.out (by repeat (first | exact Fr.refl _ _ | apply Fr.alloc))) hl).mono ?_
  rintro e w1 ⟨rfl, hf1⟩
  rw [Hk.out]
  have S1 : Hid (GSt w w1 count (.slice A L.length c) L (w.heap.size + 1) (.int .i64 0) (.slice none 0 0)) := by
    have k4 := (Blk.new (w.alloc (rbox count (.slice A L.length c))) 28 #[.int .i64 0, .slice none 0 0]).fr hf1 id
    rw [World.size_alloc] at k4
    have F := (((Fr.refl none_ w).alloc (rbox count (.slice A L.length c))).alloc (.cells #[.int .i64 0, .slice none 0 0] 28)).then_none hf1
    exact ⟨((Blk.new w _ _).alloc _).fr hf1 id, k4, F, own_none H.out F, by omega⟩
  obtain ⟨c20, c21, _, _⟩ := S1.out.cells
  have n2 := S1.out.b0.lt
  have n4 := S1.out.b1.lt
  clear hf1
  go_wp2_with fail
  go_region_held3 (fun w' => w'.cell? ⟨w.heap.size, 0, none⟩ = some (.int .i64 count) ∧ w'.cell? ⟨w.heap.size, 1, none⟩ = some (.slice A L.length c))
    (first | (have T := S1.out.drew; exact ⟨T.cells.1, T.cells.2.1⟩) | (have T := S2.out; exact ⟨T.cells.1, T.cells.2.1⟩) | (have T := S2.out.res (.int .i64 count) (.slice A L.length c); exact ⟨T.cells.1, T.cells.2.1⟩))
    (first | (go_at_call 27; refine (why_any count n A c L _ ?_ hl).mono ?_; (exact S1.out.drew.own); rintro e w2 ⟨rfl, hf2⟩; rw [Hk.out]; have S2 := hid_ (S1.out.drew.keep hf2); clear hf2; obtain ⟨_, _, r0, r1⟩ := S2.out.cells; have r2 := S2.out.b1.frozen 0; have r3 := S2.out.b1.frozen 1))
  clear r0 r1 r2 r3 c20 c21
  have S3 := hid_ (S2.out.res (.int .i64 count) (.slice A L.length c))
  obtain ⟨_, _, q0, q1⟩ := S3.out.cells
  go_wp2
  refine bodyPost_ret (v := .tuple #[rtab count (.slice A L.length c), .int .i64 k]) ?_ rfl ⟨rfl, S3.out.fr⟩
  simp [results, Tryd.results22, go_sem, q0, q1]

def RGivePost (w : World) (count : Int) (L : List Rp) (i : Nat) (e : Ending) (w' : World) : Prop :=
  ∃ A c, e = .returned (.tuple #[rtab count (.slice A (L.eraseIdx i).length c), .int .i64 0]) ∧ ROwn w' (.slice A (L.eraseIdx i).length c) (L.eraseIdx i) ∧ Fr none_ w w'

set_option maxHeartbeats 1000000 in
theorem rgive_ok (count n : Int) (A : Option Addr) (c : Nat) (L : List Rp) (w : World) (h : ROwn w (.slice A L.length c) L) (hl : L.length ≤ 1000) (h0 : 0 ≤ n) (h1 : n < count) (i : Nat) (hf : findL L n = i) :
    Calls Tryd.prog 22 #[rtab count (.slice A L.length c), .int .i64 n] w (RGivePost w count L i) := by
  obtain ⟨i0, hi0, hz0, hs0, hb0⟩ := info_parts rpage_info
  have Hi := hid_ (And.intro hi0 (And.intro hz0 (And.intro hs0 hb0)))
  have hil : i < L.length := by have := (findL_ge L n).2; omega
  have H := hid_ h
  have Hf := hid_ hf
  have Hk : Hid (whyL count L n = 0) := hid_ (by rw [whyL, if_neg (by omega), if_neg (by omega)])
  have hcap : L.length ≤ c ∧ c ≤ maxLen := by
    obtain ⟨A', c', hv, h2, h3, _⟩ := own_parts h
    injection hv with _ _ h4
    omega
  obtain ⟨hc1, hc2⟩ := hcap
  unfold maxLen at hc2
  clear h hf hi0 hz0 hs0 hb0
  go_enter Tryd.func22, Tryd.ntmps22
  go_wp2_with fail
  refine (why_any count n A c L _ (own_none H.out (by repeat (first | exact Fr.refl _ _ | apply Fr.alloc))) hl).mono ?_
  rintro e w1 ⟨rfl, hf1⟩
  rw [Hk.out]
  have S1 : Hid (GSt w w1 count (.slice A L.length c) L (w.heap.size + 1) (.int .i64 0) (.slice none 0 0)) := by
    have k4 := (Blk.new (w.alloc (rbox count (.slice A L.length c))) 28 #[.int .i64 0, .slice none 0 0]).fr hf1 id
    rw [World.size_alloc] at k4
    have F := (((Fr.refl none_ w).alloc (rbox count (.slice A L.length c))).alloc (.cells #[.int .i64 0, .slice none 0 0] 28)).then_none hf1
    exact ⟨((Blk.new w _ _).alloc _).fr hf1 id, k4, F, own_none H.out F, by omega⟩
  obtain ⟨c20, c21, _, _⟩ := S1.out.cells
  clear hf1
  go_wp2_with fail
  refine (find_any count n A c L w1 S1.out.own hl).mono ?_
  rintro e w2 ⟨rfl, hw2⟩
  rw [Hf.out]
  have S2 : Hid (GSt w w2 count (.slice A L.length c) L (w.heap.size + 1) (.int .i64 0) (.slice none 0 0)) := hid_ (S1.out.keep (by rw [hw2]; exact (Fr.refl none_ w1).alloc _))
  clear hw2 c20 c21 S1
  obtain ⟨c20, c21, _, _⟩ := S2.out.cells
  have n2 := S2.out.b0.lt
  have f21 := S2.out.b0.frozen 1
  have hi0' : (0 : Int) ≤ (i : Int) := Int.natCast_nonneg _
  obtain ⟨j, hj⟩ : ∃ j : Nat, j = i + 1 := ⟨_, rfl⟩
  have hsum : IntKind.i64.wrap ((i : Int) + 1) = (j : Int) := by rw [IntWalk.i64_in _ (by omega)]; omega
  have hic : i ≤ c := by omega
  have hjl : j ≤ L.length := by omega
  have hj0 : (0 : Int) ≤ (j : Int) := Int.natCast_nonneg _
  have Hj := hid_ hj
  clear hj
  have hsrc1 : Hid (Reads w2 3 A i ((rpFlat L).take (i * 3))) := hid_ ((Reads.of_own S2.out.own).upto (by omega))
  have hsrc2 : Hid (Reads w2 3 (if c = j then A else A.map (·.add (j * 3))) (L.length - j) ((rpFlat L).drop (j * 3))) := hid_ ((Reads.of_own S2.out.own).cut hjl hc1)
  go_wp2_with fail
  go_region_law (first
    | (refine step_append_any _ (by rfl) (.tmp 18) (.tmp 22) 26 (by rfl) w2.heap.size 76 i0 _ 3 24 Tryd.underlying26 Hi.out.1 Hi.out.2.1 Hi.out.2.2.1 Hi.out.2.2.2 rfl (by omega) (.slice (some ⟨w2.heap.size, 0, none⟩) 0 0) 0 [] (by rfl) (own_none (own_empty_at w2 _ _ _ _ (Nat.le_refl _) rfl) (Fr.refl none_ _).drew) A i c ((rpFlat L).take (i * 3)) (by rfl) ((hsrc1.out.alloc _).drew) (fun u hu => rpFlat_one L u (List.mem_of_mem_take hu)) (by simp only [maxLen]; omega) (by omega) (by simp) ?_; intro A1 c1 w3 hown3 hgr3; simp only [Nat.zero_add, List.nil_append] at hown3; have F3 := hid_ ((((Fr.refl none_ w2).alloc (.cells #[] 76)).drew).grown hgr3 (fun k hk => .inr (by simp [Value.ownBlock] at hk; omega))); have O3 := hid_ hown3; clear hown3 hgr3; have S3 := hid_ (S2.out.keep F3.out); obtain ⟨_, e21, _, _⟩ := S3.out.cells)
    | (refine step_append_any _ (by rfl) (.tmp 23) (.tmp 28) 26 (by rfl) w2.heap.size 76 i0 _ 3 24 Tryd.underlying26 Hi.out.1 Hi.out.2.1 Hi.out.2.2.1 Hi.out.2.2.2 rfl (by omega) (.slice A1 i c1) i ((rpFlat L).take (i * 3)) (by rfl) O3.out (if c = j then A else A.map (·.add (j * 3))) (L.length - j) (c - j) ((rpFlat L).drop (j * 3)) (by rfl) (hsrc2.out.none_fr F3.out) (fun u hu => rpFlat_one L u (List.mem_of_mem_drop hu)) (by simp only [maxLen]; omega) (by omega) F3.out.size ?_; intro A2 c2 w4 hown4 hgr4; have F4 := hid_ (F3.out.grown hgr4 (fun k hk => .inr (O3.out.lt k hk).1)); have O4 := hid_ hown4; clear hown4 hgr4; have S4 := hid_ (S2.out.keep F4.out); obtain ⟨_, g21, _, _⟩ := S4.out.cells; have h21 := S4.out.b0.frozen 1)
    | go_simp)
  all_goals
    have hlen : i + (L.length - j) = (L.eraseIdx i).length := by
      have := Hj.out
      rw [List.length_eraseIdx, if_pos hil]
      omega
    have hfl : (rpFlat L).take (i * 3) ++ (rpFlat L).drop (j * 3) = rpFlat (L.eraseIdx i) := by
      rw [List.eraseIdx_eq_take_drop_succ, rpFlat_app, rpFlat_take, rpFlat_drop, Hj.out]
    have O5 := O4.out
    rw [hfl] at O5
    have O6 := hid_ O5
    have HL := hid_ hlen
    clear hfl hlen O5 O4
    obtain ⟨_, _, r2, r3⟩ := S4.out.cells
    have r4 := S4.out.b1.frozen 0
    have r5 := S4.out.b1.frozen 1
    have r6 := S4.out.b1.lt
    go_wp2
    all_goals
      have q := (((S4.out.b1.far (p := ⟨w.heap.size, 1, none⟩) (by simp) (.slice A2 (i + (L.length - j)) c2)).set_ 0 (.int .i64 count)).set_ 1 (.slice A2 (i + (L.length - j)) c2))
      have q0 := q.cell' (i := 0) rfl
      have q1 := q.cell' (i := 1) rfl
      clear q r2 r3 r4 r5 g21 h21
      refine bodyPost_ret (v := .tuple #[rtab count (.slice A2 (i + (L.length - j)) c2), .int .i64 0]) ?_ rfl ⟨A2, c2, by rw [← HL.out], ?_, ?_⟩
      · simp [results, Tryd.results22, go_sem, q0, q1]
      · unfold ROwn
        rw [← HL.out]
        refine own_fr (S := fun b => b = w.heap.size ∨ b = w.heap.size + 1) (own_base O6.out (Nat.zero_le _)) ?_ ?_
        · exact (((Fr.refl _ _).setCell (p := ⟨w.heap.size, 1, none⟩) (.inl (.inl rfl)) _).setCell (p := ⟨w.heap.size + 1, 0, none⟩) (.inl (.inr rfl)) _).setCell (p := ⟨w.heap.size + 1, 1, none⟩) (.inl (.inr rfl)) _
        · intro k hk
          have := (O6.out.lt k hk).1
          have := S2.out.b1.lt
          omega
      · exact ((S4.out.fr.setCell (p := ⟨w.heap.size, 1, none⟩) (.inr (by simp)) _).setCell (p := ⟨w.heap.size + 1, 0, none⟩) (.inr (by simp)) _).setCell (p := ⟨w.heap.size + 1, 1, none⟩) (.inr (by simp)) _
end Go.Proofs.YtnlpnbllnddaaaaDoor

/- Contracts of rowlockref05's Take, Pages. -/
import Derived.Test.YtnlpnbllnddaaaaDoorRef5b
namespace Go.Proofs.YtnlpnbllnddaaaaDoor
open Go.RowKit
set_option linter.unusedVariables false

theorem rpage_info : (Tryd.prog.info? 76).map (fun i => (i.zero, i.size, i.bytes)) = some (some (.agg #[.int .i64 0, .int .i64 0, .int .i64 0]), 3, 24) := by kernel_rfl

/-- What holds at a round's head of a loop of the document's that looks at each page. -/
structure RLoop (w wr : World) (count : Int) (v : Value) (L : List Rp) : Prop where
  b0 : Blk wr w.heap.size 28 #[.int .i64 count, v]
  own : ROwn wr v L
  fr : Fr none_ w wr
theorem RLoop.none_ {w wr w' : World} {count : Int} {v : Value} {L : List Rp} (h : RLoop w wr count v L) (hf : Fr none_ wr w') : RLoop w w' count v L :=
  ⟨h.b0.fr hf id, own_none h.own hf, h.fr.then_none hf⟩

def RTakePost (w : World) (count : Int) (L : List Rp) (n : Nat) (e : Ending) (w' : World) : Prop :=
  ∃ A c, e = .returned (.tuple #[rtab count (.slice A (L ++ [((n : Int), 0, 0)]).length c), .int .i64 n, .int .i64 0]) ∧ ROwn w' (.slice A (L ++ [((n : Int), 0, 0)]).length c) (L ++ [((n : Int), 0, 0)]) ∧ Fr none_ w w'

set_option maxHeartbeats 1000000 in
theorem rtake_full (count : Nat) (A : Option Addr) (c : Nat) (L : List Rp) (w : World) (h : ROwn w (.slice A L.length c) L) (hl : L.length ≤ 1000) (hc : count ≤ 1000) (hu : ∀ j : Nat, j < count → 0 ≤ findL L j) :
    Calls Tryd.prog 21 #[rtab count (.slice A L.length c)] w fun e w' => e = .returned (.tuple #[rtab count (.slice A L.length c), .int .i64 0, .int .i64 3]) ∧ Fr none_ w w' := by
  have H := hid_ h
  have Hu := hid_ hu
  clear h hu
  go_enter Tryd.func21, Tryd.ntmps21
  go_wp2_with fail
  go_loopw [5] (fun i wr => ∃ k : Nat, k ≤ count ∧ i = .int .i64 k ∧ RLoop w wr count (.slice A L.length c) L ∧ Blk wr (w.heap.size + 1) 28 #[.int .i64 0, .slice none 0 0]) (fun i _ => count - (intOf i).toNat)
  case atStart =>
    refine ⟨0, Nat.zero_le _, rfl, ⟨(Blk.new w _ _).alloc _, own_none H.out (((Fr.refl none_ w).alloc _).alloc _), ((Fr.refl none_ w).alloc _).alloc _⟩, ?_⟩
    have := Blk.new (w.alloc (rbox count (.slice A L.length c))) 28 #[.int .i64 0, .slice none 0 0]
    simpa using this
  case round =>
    obtain ⟨k, hk, rfl, hR, hB⟩ := hrel
    have c0 : wr.cell? ⟨w.heap.size, 0, none⟩ = some (.int .i64 count) := hR.b0.cell' rfl
    have c1 : wr.cell? ⟨w.heap.size, 1, none⟩ = some (.slice A L.length c) := hR.b0.cell' rfl
    have z0 := hR.b0.lt
    have z1 := hB.lt
    have d0 : wr.cell? ⟨w.heap.size + 1, 0, none⟩ = some (.int .i64 0) := hB.cell' rfl
    have d1 : wr.cell? ⟨w.heap.size + 1, 1, none⟩ = some (.slice none 0 0) := hB.cell' rfl
    have y0 := hB.frozen 0
    have y1 := hB.frozen 1
    have R := hid_ hR
    have B := hid_ hB
    clear hR hB
    by_cases hlt : k < count
    · have hge := Hu.out k hlt
      go_wp2_with fail
      refine (find_any count k A c L wr R.out.own hl).mono ?_
      rintro e w' ⟨rfl, rfl⟩
      go_wp2
      go_roundw
      case rel => exact ⟨k + 1, by omega, by go_num, R.out.none_ ((Fr.refl none_ _).alloc _), B.out.alloc _⟩
      case measure => simp [intOf]; omega
    · go_wp2
      have q := ((B.out.set_ 0 (.int .i64 count)).set_ 1 (.slice A L.length c))
      have q0 := q.cell' (i := 0) rfl
      have q1 := q.cell' (i := 1) rfl
      clear q d0 d1 y0 y1
      refine bodyPost_ret (v := .tuple #[rtab count (.slice A L.length c), .int .i64 0, .int .i64 3]) ?_ rfl ⟨rfl, ?_⟩
      · simp [results, Tryd.results21, go_sem, q0, q1]
      · exact (R.out.fr.setCell (p := ⟨w.heap.size + 1, 0, none⟩) (.inr (by simp)) _).setCell (p := ⟨w.heap.size + 1, 1, none⟩) (.inr (by simp)) _

set_option maxHeartbeats 1000000 in
theorem rtake_ok (count n : Nat) (A : Option Addr) (c : Nat) (L : List Rp) (w : World) (h : ROwn w (.slice A L.length c) L) (hl : L.length ≤ 1000) (hc : count ≤ 1000) (hn : n < count) (hf : findL L n = -1) (hu : ∀ j : Nat, j < n → 0 ≤ findL L j) :
    Calls Tryd.prog 21 #[rtab count (.slice A L.length c)] w (RTakePost w count L n) := by
  obtain ⟨i0, hi0, hz0, hs0, hb0⟩ := info_parts rpage_info
  have H := hid_ h
  have Hu := hid_ hu
  have Hf := hid_ hf
  have Hi := hid_ (And.intro hi0 (And.intro hz0 (And.intro hs0 hb0)))
  clear h hu hf hi0 hz0 hs0 hb0
  go_enter Tryd.func21, Tryd.ntmps21
  go_wp2_with fail
  go_loopw [5] (fun i wr => ∃ k : Nat, k ≤ n ∧ i = .int .i64 k ∧ RLoop w wr count (.slice A L.length c) L ∧ Blk wr (w.heap.size + 1) 28 #[.int .i64 0, .slice none 0 0]) (fun i _ => count - (intOf i).toNat)
  case atStart =>
    refine ⟨0, Nat.zero_le _, rfl, ⟨(Blk.new w _ _).alloc _, own_none H.out (((Fr.refl none_ w).alloc _).alloc _), ((Fr.refl none_ w).alloc _).alloc _⟩, ?_⟩
    have := Blk.new (w.alloc (rbox count (.slice A L.length c))) 28 #[.int .i64 0, .slice none 0 0]
    simpa using this
  case round =>
    obtain ⟨k, hk, rfl, hR, hB⟩ := hrel
    have c0 : wr.cell? ⟨w.heap.size, 0, none⟩ = some (.int .i64 count) := hR.b0.cell' rfl
    have c1 : wr.cell? ⟨w.heap.size, 1, none⟩ = some (.slice A L.length c) := hR.b0.cell' rfl
    have z0 := hR.b0.lt
    have z1 := hB.lt
    have R := hid_ hR
    have B := hid_ hB
    clear hR hB
    by_cases hlt : k < n
    · have hge := Hu.out k hlt
      go_wp2_with fail
      refine (find_any count k A c L wr R.out.own hl).mono ?_
      rintro e w' ⟨rfl, rfl⟩
      go_wp2
      go_roundw
      case rel => exact ⟨k + 1, by omega, by go_num, R.out.none_ ((Fr.refl none_ _).alloc _), B.out.alloc _⟩
      case measure => simp [intOf]; omega
    · obtain rfl : k = n := by omega
      go_wp2_with fail
      refine (find_any count k A c L wr R.out.own hl).mono ?_
      rintro e w2 ⟨rfl, hw2⟩
      rw [Hf.out]
      have R2 : Hid (RLoop w w2 count (.slice A L.length c) L) := hid_ (by rw [hw2]; exact R.out.none_ ((Fr.refl none_ wr).alloc _))
      have B2 : Hid (Blk w2 (w.heap.size + 1) 28 #[.int .i64 0, .slice none 0 0]) := hid_ (by rw [hw2]; exact B.out.alloc _)
      have e0 : w2.cell? ⟨w.heap.size, 0, none⟩ = some (.int .i64 count) := R2.out.b0.cell' rfl
      have e1 : w2.cell? ⟨w.heap.size, 1, none⟩ = some (.slice A L.length c) := R2.out.b0.cell' rfl
      have y0 := R2.out.b0.lt
      have y1 := B2.out.lt
      clear hw2 c0 c1 z0 z1
      have hsrc : Hid (Reads (w2.alloc (.cells #[] 76)) 3 A L.length (rpFlat L)) := hid_ ((Reads.of_own R2.out.own).alloc _)
      go_wp2_with (first
        | (at_builtin; refine wpList_append_any _ rfl (.tmp 16) (.tmp 18) 26 rfl w2.heap.size 76 i0 _ 3 24 Tryd.underlying26 Hi.out.1 Hi.out.2.1 Hi.out.2.2.1 Hi.out.2.2.2 rfl (by omega) (.slice (some ⟨w2.heap.size, 0, none⟩) 0 0) 0 [] rfl (own_empty_at _ _ _ _ _ (Nat.le_refl _) rfl) A L.length c (rpFlat L) rfl hsrc.out (rpFlat_one L) (by simp only [maxLen]; omega) (by omega) (by simp) ?_; intro A1 c1 w3 hown3 hgr3; simp only [Nat.zero_add, List.nil_append] at hown3; have F3 := hid_ (((Fr.refl none_ w2).alloc (.cells #[] 76)).grown hgr3 (fun k hk => .inr (by simp [Value.ownBlock] at hk; omega))); have O3 := hid_ hown3; clear hown3 hgr3; have hz3 := F3.out.size)
        | (at_builtin; refine wpList_append_any _ rfl (.tmp 19) (.tmp 22) 26 rfl w2.heap.size 76 i0 _ 3 24 Tryd.underlying26 Hi.out.1 Hi.out.2.1 Hi.out.2.2.1 Hi.out.2.2.2 rfl (by omega) (.slice A1 L.length c1) L.length (rpFlat L) rfl (O3.out.alloc _) (some ⟨w3.heap.size, 0, none⟩) 1 1 [.int .i64 k, .int .i64 0, .int .i64 0] rfl (reads_new _ _ _ _ rfl) (by simp [Value.oneCell']) (by simp only [maxLen]; omega) (by omega) (by simp; omega) ?_; intro A2 c2 w4 hown4 hgr4; have F4 := hid_ ((F3.out.alloc (.cells #[.int .i64 k, .int .i64 0, .int .i64 0] 76)).grown hgr4 (fun j hj => .inr (O3.out.lt j hj).1)); have O4 := hid_ hown4; clear hown4 hgr4; have R4 := hid_ (R2.out.none_ F4.out); have g0 : w4.cell? ⟨w.heap.size, 0, none⟩ = some (.int .i64 count) := R4.out.b0.cell' rfl; have g1 : w4.cell? ⟨w.heap.size, 1, none⟩ = some (.slice A L.length c) := R4.out.b0.cell' rfl; have f1 := R4.out.b0.frozen 1; have B4 := hid_ (B2.out.fr F4.out id); have g2 : w4.cell? ⟨w.heap.size + 1, 0, none⟩ = some (.int .i64 0) := B4.out.cell' rfl; have g3 : w4.cell? ⟨w.heap.size + 1, 1, none⟩ = some (.slice none 0 0) := B4.out.cell' rfl; have f2 := B4.out.frozen 0; have f3 := B4.out.frozen 1))
      have q := (((B4.out.far (p := ⟨w.heap.size, 1, none⟩) (by simp) (.slice A2 (L.length + 1) c2)).set_ 0 (.int .i64 count)).set_ 1 (.slice A2 (L.length + 1) c2))
      have q0 := q.cell' (i := 0) rfl
      have q1 := q.cell' (i := 1) rfl
      clear q g0 g1 g2 g3 f1 f2 f3
      refine bodyPost_ret (v := .tuple #[rtab count (.slice A2 (L.length + 1) c2), .int .i64 k, .int .i64 0]) ?_ rfl ?_
      · simp [results, Tryd.results21, go_sem, q0, q1]
      · refine ⟨A2, c2, by simp, ?_, ?_⟩
        · have := O4.out
          have hfl : rpFlat (L ++ [((k : Int), 0, 0)]) = rpFlat L ++ [.int .i64 k, .int .i64 0, .int .i64 0] := by simp [rpFlat]
          have hlen : (L ++ [((k : Int), 0, 0)]).length = L.length + 1 := by simp
          unfold ROwn
          rw [hfl, hlen]
          refine own_fr (S := fun b => b = w.heap.size ∨ b = w.heap.size + 1) (own_base this (Nat.zero_le _)) ?_ ?_
          · exact (((Fr.refl _ _).setCell (p := ⟨w.heap.size, 1, none⟩) (.inl (.inl rfl)) _).setCell (p := ⟨w.heap.size + 1, 0, none⟩) (.inl (.inr rfl)) _).setCell (p := ⟨w.heap.size + 1, 1, none⟩) (.inl (.inr rfl)) _
          · intro j hj
            have := (O4.out.lt j hj).1
            omega
        · exact ((R4.out.fr.setCell (p := ⟨w.heap.size, 1, none⟩) (.inr (by simp)) _).setCell (p := ⟨w.heap.size + 1, 0, none⟩) (.inr (by simp)) _).setCell (p := ⟨w.heap.size + 1, 1, none⟩) (.inr (by simp)) _

/-! ### Pages -/
def rusedTo (L : List Rp) (k : Nat) : List Nat := (List.range k).filter fun i => decide (0 ≤ findL L i)
theorem rusedTo_hit (L : List Rp) (k : Nat) (h : 0 ≤ findL L k) : rusedTo L (k + 1) = rusedTo L k ++ [k] := by
  simp [rusedTo, List.range_succ, List.filter_append, h]
theorem rusedTo_miss (L : List Rp) (k : Nat) (h : ¬ 0 ≤ findL L k) : rusedTo L (k + 1) = rusedTo L k := by
  simp [rusedTo, List.range_succ, List.filter_append, h]
theorem rusedTo_le (L : List Rp) (k : Nat) : (rusedTo L k).length ≤ k := by
  have := List.length_filter_le (fun i : Nat => decide (0 ≤ findL L i)) (List.range k)
  simpa [rusedTo] using this

def RPagesPost (L : List Rp) (count : Nat) (w : World) (e : Ending) (w' : World) : Prop :=
  ∃ A c, e = .returned (.slice A (rusedTo L count).length c) ∧ w'.ownsRow w.heap.size 3 1 (.slice A (rusedTo L count).length c) (rusedTo L count).length (ints (rusedTo L count)) ∧ Fr none_ w w'

set_option maxHeartbeats 1000000 in
theorem rpages (count : Nat) (A : Option Addr) (c : Nat) (L : List Rp) (w : World) (h : ROwn w (.slice A L.length c) L) (hl : L.length ≤ 1000) (hc : count ≤ 1000) :
    Calls Tryd.prog 14 #[rtab count (.slice A L.length c)] w (RPagesPost L count w) := by
  obtain ⟨i0, hi0, hz0, hs0, hb0⟩ := info_parts int_info
  have H := hid_ h
  have Hi := hid_ (And.intro hi0 (And.intro hz0 (And.intro hs0 hb0)))
  clear h hi0 hz0 hs0 hb0
  go_enter Tryd.func14, Tryd.ntmps14
  go_wp2_with fail
  go_loopw [3, 4] (fun v i wr => ∃ k : Nat, k ≤ count ∧ i = .int .i64 k ∧ RLoop w wr count (.slice A L.length c) L ∧ wr.ownsRow w.heap.size 3 1 v (rusedTo L k).length (ints (rusedTo L k))) (fun _ i _ => count - (intOf i).toNat)
  case atStart =>
    exact ⟨0, Nat.zero_le _, rfl, ⟨Blk.new w _ _, own_none H.out ((Fr.refl none_ w).alloc _), (Fr.refl none_ w).alloc _⟩, World.ownsRow_nil _ _ _ _⟩
  case round =>
    obtain ⟨k, hk, rfl, hR, hO⟩ := hrel
    have c0 : wr.cell? ⟨w.heap.size, 0, none⟩ = some (.int .i64 count) := hR.b0.cell' rfl
    have c1 : wr.cell? ⟨w.heap.size, 1, none⟩ = some (.slice A L.length c) := hR.b0.cell' rfl
    have z0 := hR.b0.lt
    have hul := rusedTo_le L k
    have R := hid_ hR
    have O := hid_ hO
    clear hR hO
    by_cases hlt : k < count
    · go_wp2_with fail
      refine (find_any count k A c L wr R.out.own hl).mono ?_
      rintro e w2 ⟨rfl, hw2⟩
      have R2 : Hid (RLoop w w2 count (.slice A L.length c) L) := hid_ (by rw [hw2]; exact R.out.none_ ((Fr.refl none_ wr).alloc _))
      have O2 : Hid (w2.ownsRow w.heap.size 3 1 u3 (rusedTo L k).length (ints (rusedTo L k))) := hid_ (by rw [hw2]; exact O.out.alloc _)
      have y0 := R2.out.b0.lt
      clear hw2 c0 c1 z0
      by_cases hge : 0 ≤ findL L k
      · have Hm := hid_ (rusedTo_hit L k hge)
        go_wp2_with (at_builtin; refine wpList_append_own _ rfl _ _ 43 rfl w.heap.size 3 i0 (.int .i64 0) 1 8 Tryd.underlying43 Hi.out.1 Hi.out.2.1 Hi.out.2.2.1 Hi.out.2.2.2 rfl (by decide) _ _ _ rfl (O2.out.alloc _) ⟨w2.heap.size, 0, none⟩ 1 1 [.int .i64 k] rfl rfl ?c1 ?c2 ?c3 ?c4 ?c5 ?_)
        case c1 => exact one_new_at _ _ _ _ rfl
        case c2 => intro u hu; simp at hu; subst hu; rfl
        case c3 => unfold maxLen; omega
        case c4 => omega
        case c5 => simp; omega
        intro v' w3 hown1 hgr _
        have F3 : Fr (fun b => u3.ownBlock = some b) w2 w3 := ((Fr.refl _ w2).alloc _).grown hgr (fun b hb => .inl hb)
        have R3 : Hid (RLoop w w3 count (.slice A L.length c) L) := hid_ ⟨R2.out.b0.fr F3 (own_blk_ne O2.out R2.out.b0 (by decide)), own_fr R2.out.own F3 (own_own_ne R2.out.own O2.out (by decide)),
          R2.out.fr.trans F3 (fun _ _ => id) (fun i hi e => by have := (O2.out.lt i e).1; omega)⟩
        have O3 : Hid (w3.ownsRow w.heap.size 3 1 v' (rusedTo L (k + 1)).length (ints (rusedTo L (k + 1)))) := hid_ (by
          rw [Hm.out]
          simpa [ints] using hown1)
        clear hown1 hgr F3
        go_wp2
        go_roundw
        case rel => exact ⟨k + 1, by omega, by go_num, R3.out, O3.out⟩
        case measure => simp [intOf]; omega
      · have Hm := hid_ (rusedTo_miss L k hge)
        go_wp2
        go_roundw
        case rel => exact ⟨k + 1, by omega, by go_num, R2.out, by rw [Hm.out]; exact O2.out⟩
        case measure => simp [intOf]; omega
    · obtain rfl : k = count := by omega
      go_wp2
      go_ret
      obtain ⟨A', c', hv⟩ := O.out.shape
      have hx := O.out
      rw [hv] at hx
      exact ⟨A', c', by rw [← hv]; rfl, hx, R.out.fr⟩
end Go.Proofs.YtnlpnbllnddaaaaDoor

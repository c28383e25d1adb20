/- MappingFirst's walk: from any old, l and other the law returns true, and nothing that was there turns. -/
import Derived.Test.YtnlpnbllnddaaaaMapAwake
import Derived.Test.YtnlpnbllnddaaaaOpen
namespace Go.Proofs.Ytnlpnbllnddaaaa
open Go.RowKit
set_option linter.unusedVariables false

theorem eql_no (s g a b : Int) (h : ¬(s = a ∧ g = b)) (w : World) : (binOp .eql 23 (.agg #[.int .i64 s, .int .i64 g]) (.agg #[.int .i64 a, .int .i64 b])).run Try.prog w = .ok (.bool false) w := by
  rw [eql_ref]
  have : (s == a && g == b) = false := by simpa using h
  rw [this]

def RefsAt (w : World) (A : Option Addr) (n : Nat) : Prop :=
  0 < n → ∃ b off, A = some ⟨b, off, none⟩ ∧ b < w.heap.size ∧ ∀ k, k < n → ∃ s g : Int, w.cell? ⟨b, off + k * 2, none⟩ = some (.int .i64 s) ∧ w.cell? ⟨b, off + k * 2 + 1, none⟩ = some (.int .i64 g)

/-- What holds at the head of each round: the boxes of old and other, the table with one page, how many were done. -/
structure FirstRel (w wr : World) (a b c d : Int) (dn : Int) (hs hg : Int) : Prop where
  b0 : Blk wr w.heap.size 23 #[.int .i64 a, .int .i64 b]
  b1 : Blk wr (w.heap.size + 1) 23 #[.int .i64 c, .int .i64 d]
  tb : Tbl wr (w.heap.size + 1 + 1 + 1) (w.heap.size + 1 + 1) [(true, hs, hg)]
  fr : Fr none_ w wr
  dn : (dn = 0 ∧ hs = a ∧ hg = b) ∨ (dn = 1 ∧ ¬(hs = a ∧ hg = b))

theorem FirstRel.alloc {w wr : World} {a b c d dn hs hg : Int} (h : FirstRel w wr a b c d dn hs hg) (o : Obj) : FirstRel w (wr.alloc o) a b c d dn hs hg :=
  ⟨h.b0.alloc o, h.b1.alloc o, h.tb.fr ((Fr.refl none_ _).alloc o) id id, h.fr.alloc o, h.dn⟩
theorem FirstRel.none_ {w wr w' : World} {a b c d dn hs hg : Int} (h : FirstRel w wr a b c d dn hs hg) (hf : Fr none_ wr w') : FirstRel w w' a b c d dn hs hg :=
  ⟨h.b0.fr hf id, h.b1.fr hf id, h.tb.fr hf id id, h.fr.then_none hf, h.dn⟩
/-- A swap from old to (s, g): done if none was done yet. -/
theorem FirstRel.swap_yes {w wr w' : World} {a b c d s g : Int} (h : FirstRel w wr a b c d 0 a b) (hne : ¬(s = a ∧ g = b)) (ht : Tbl w' (w.heap.size + 1 + 1 + 1) (w.heap.size + 1 + 1) [(true, s, g)]) (hf : Fr (only (w.heap.size + 1 + 1)) wr w') :
    FirstRel w w' a b c d 1 s g :=
  ⟨h.b0.fr hf (only_ne (by omega)), h.b1.fr hf (only_ne (by omega)), ht, h.fr.then_only hf (.inr (by omega)), .inr ⟨rfl, hne⟩⟩
theorem FirstRel.swap_no {w wr w' : World} {a b c d dn hs hg : Int} (h : FirstRel w wr a b c d dn hs hg) (ht : Tbl w' (w.heap.size + 1 + 1 + 1) (w.heap.size + 1 + 1) [(true, hs, hg)]) (hf : Fr (only (w.heap.size + 1 + 1)) wr w') :
    FirstRel w w' a b c d dn hs hg :=
  ⟨h.b0.fr hf (only_ne (by omega)), h.b1.fr hf (only_ne (by omega)), ht, h.fr.then_only hf (.inr (by omega)), h.dn⟩

set_option maxHeartbeats 1000000 in
theorem first_walk (a b c d : Int) (A : Option Addr) (n cap : Nat) (w : World) (hrd : RefsAt w A n) (hc : n ≤ cap) (hm : cap ≤ maxLen) :
    Calls Try.prog 3 #[.agg #[.int .i64 a, .int .i64 b], .slice A n cap, .agg #[.int .i64 c, .int .i64 d]] w fun e w' => e = .returned (.bool true) ∧ Fr none_ w w' := by
  unfold maxLen at hm
  by_cases hlen : 100 < n
  · go_enter Try.func3, Try.ntmps3
    go_wp2_with (go_at_call 6; refine (awake5 _).mono ?_; rintro e w1 ⟨rfl, hf1⟩)
    go_ret
    exact ⟨rfl, (((Fr.refl none_ w).alloc _).alloc _).trans hf1 (fun _ _ => id) (fun _ _ => id)⟩
  · have HR := hid_ hrd
    clear hrd
    go_enter Try.func3, Try.ntmps3
    go_wp2_with fail
    refine (mapNew_ok 1 _ (by omega) (by omega)).mono ?_
    rintro e w1 ⟨rfl, ht1, hf1, hs1⟩
    simp only [World.size_alloc] at ht1 hs1
    have F1 := hid_ ((((Fr.refl none_ w).alloc (.cells #[.int .i64 a, .int .i64 b] 23)).alloc (.cells #[.int .i64 c, .int .i64 d] 23)).trans hf1 (fun _ _ => id) (fun _ _ => id) : Fr none_ w w1)
    have B0 := hid_ ((((Blk.new w 23 #[.int .i64 a, .int .i64 b]).alloc (.cells #[.int .i64 c, .int .i64 d] 23)).fr hf1 id))
    have B1 : Hid (Blk w1 (w.heap.size + 1) 23 #[.int .i64 c, .int .i64 d]) := hid_ (by
      have := (Blk.new (w.alloc (.cells #[.int .i64 a, .int .i64 b] 23)) 23 #[.int .i64 c, .int .i64 d]).fr hf1 id
      simpa using this)
    have T1 := hid_ ht1
    clear ht1 hf1
    go_wp2_with fail
    refine (take_ok _ _ _ 0 0 0 w1 T1.out rfl (fun j p hj => by omega)).mono ?_
    rintro e w2 ⟨rfl, hw2⟩
    have T2 : Hid (Tbl w2 (w.heap.size + 1 + 1 + 1) (w.heap.size + 1 + 1) [(true, 0, 0)]) := by
      rw [hw2]; exact T1.out.set_ (i := 0) (by decide) (true, 0, 0)
    have f2 : Fr (only (w.heap.size + 1 + 1)) w1 w2 := by
      rw [hw2]; exact setPg_only _ _ _ _
    have F2 := hid_ (F1.out.then_only f2 (.inr (by omega)))
    have B02 := hid_ (B0.out.fr f2 (only_ne (by omega)))
    have B12 := hid_ (B1.out.fr f2 (only_ne (by omega)))
    have c30 : w2.cell? ⟨w.heap.size, 0, none⟩ = some (.int .i64 a) := B02.out.cell' rfl
    have c31 : w2.cell? ⟨w.heap.size, 1, none⟩ = some (.int .i64 b) := B02.out.cell' rfl
    clear f2 hw2 T1 B0 B1 F1 hs1
    go_wp2_with fail
    refine (swap_ok _ _ _ 0 0 0 0 0 a b w2 T2.out rfl).mono ?_
    rintro e w3 ⟨rfl, ht3, hf3⟩
    have R3 : Hid (FirstRel w w3 a b c d 0 a b) := hid_ ⟨B02.out.fr hf3 (only_ne (by omega)), B12.out.fr hf3 (only_ne (by omega)), by simpa using ht3, F2.out.then_only hf3 (.inr (by omega)), .inl ⟨rfl, rfl, rfl⟩⟩
    clear ht3 hf3 T2 F2 B02 B12 c30 c31
    go_wp2_with fail
    go_loopw [12, 14, 17, 49] (fun x _ _ i wr => ∃ k : Nat, ∃ dn hs hg : Int, k ≤ n ∧ i = .int .i64 k ∧ x = .int .i64 dn ∧ FirstRel w wr a b c d dn hs hg) (fun _ _ _ i _ => n - (intOf i).toNat)
    case atStart => exact ⟨0, 0, a, b, Nat.zero_le _, rfl, rfl, R3.out⟩
    case round =>
      obtain ⟨k, dn, hs, hg, hk, rfl, rfl, R⟩ := hrel
      have RH := hid_ R
      have hsz : w.heap.size + 1 + 1 + 1 < wr.heap.size := R.tb.lt.1
      have hz0 : w.heap.size < wr.heap.size := by omega
      have hz1 : w.heap.size + 1 < wr.heap.size := by omega
      have c30 : wr.cell? ⟨w.heap.size, 0, none⟩ = some (.int .i64 a) := R.b0.cell' rfl
      have c31 : wr.cell? ⟨w.heap.size, 1, none⟩ = some (.int .i64 b) := R.b0.cell' rfl
      by_cases hlt : k < n
      · obtain ⟨bb, off, rfl, hbl, hcl⟩ := HR.out (by omega)
        obtain ⟨s, g, hc0, hc1⟩ := hcl k hlt
        have bb1 := R.fr.below0
        have d0 : wr.cell? ⟨bb, off + k * 2, none⟩ = _ := (bb1.cell (p := ⟨bb, off + k * 2, none⟩) hbl).trans hc0
        have d1 : wr.cell? ⟨bb, off + k * 2 + 1, none⟩ = _ := (bb1.cell (p := ⟨bb, off + k * 2 + 1, none⟩) hbl).trans hc1
        clear hcl hc0 hc1 bb1 R
        by_cases he : s = a ∧ g = b
        · obtain ⟨rfl, rfl⟩ := he
          go_wp2
          go_roundw
          case rel => exact ⟨k + 1, dn, hs, hg, by omega, by go_num, rfl, RH.out.alloc _⟩
          case measure => simp [intOf]; omega
        · have hq := eql_no s g a b he
          have He := hid_ he
          clear he
          rcases RH.out.dn with ⟨rfl, rfl, rfl⟩ | ⟨rfl, hn⟩
          · go_wp2_with fail
            refine (swap_ok _ _ _ 0 hs hg hs hg s g _ (RH.out.alloc _).tb rfl).mono ?_
            rintro e w4 ⟨rfl, ht4, hf4⟩
            have k0 := (Blk.new wr 23 #[.int .i64 s, .int .i64 g]).fr hf4 (only_ne (by omega))
            have e0 : w4.cell? ⟨wr.heap.size, 0, none⟩ = some (.int .i64 s) := k0.cell' rfl
            have e1 : w4.cell? ⟨wr.heap.size, 1, none⟩ = some (.int .i64 g) := k0.cell' rfl
            have R4 := hid_ ((RH.out.alloc (.cells #[.int .i64 s, .int .i64 g] 23)).swap_yes He.out (by simpa using ht4) hf4)
            have K0 := hid_ k0
            have htrue : (hs == hs && hg == hg) = true := by simp
            clear ht4 hf4 d0 d1 k0
            rw [htrue]
            go_wp2_with fail
            refine (head_ok _ _ _ 0 s g _ R4.out.tb rfl).mono ?_
            rintro e w5 ⟨rfl, hf5⟩
            have R5 := hid_ (R4.out.none_ hf5)
            have k0 := K0.out.fr hf5 id
            have g0 : w5.cell? ⟨wr.heap.size, 0, none⟩ = some (.int .i64 s) := k0.cell' rfl
            have g1 : w5.cell? ⟨wr.heap.size, 1, none⟩ = some (.int .i64 g) := k0.cell' rfl
            have hz5 := k0.lt
            clear hf5 k0 e0 e1
            go_wp2
            go_roundw
            case rel => exact ⟨k + 1, 1, s, g, by omega, by go_num, rfl, R5.out.alloc _⟩
            case measure => simp [intOf]; omega
          · go_wp2_with fail
            refine (swap_ok _ _ _ 0 hs hg a b s g _ (RH.out.alloc _).tb rfl).mono ?_
            rintro e w4 ⟨rfl, ht4, hf4⟩
            have hfalse : (hs == a && hg == b) = false := by simpa using hn
            rw [if_neg hn] at ht4
            have R4 := hid_ ((RH.out.alloc (.cells #[.int .i64 s, .int .i64 g] 23)).swap_no ht4 hf4)
            clear ht4 hf4 d0 d1
            rw [hfalse]
            have Hn := hid_ hn
            clear hn hfalse
            go_wp2
            go_roundw
            case rel => exact ⟨k + 1, 1, hs, hg, by omega, by go_num, rfl, R4.out⟩
            case measure => simp [intOf]; omega
      · obtain rfl : k = n := by omega
        clear R
        have hd : dn ≤ 1 := by rcases RH.out.dn with ⟨rfl, _⟩ | ⟨rfl, _⟩ <;> omega
        go_wp2_with fail
        refine (head_ok _ _ _ 0 hs hg _ RH.out.tb rfl).mono ?_
        rintro e w5 ⟨rfl, hf5⟩
        have R5 := hid_ (RH.out.none_ hf5)
        have hz5 := R5.out.b1.lt
        have hz6 : w.heap.size + 1 + 1 + 1 < w5.heap.size := R5.out.tb.lt.1
        have g0 : w5.cell? ⟨w.heap.size + 1, 0, none⟩ = some (.int .i64 c) := R5.out.b1.cell' rfl
        have g1 : w5.cell? ⟨w.heap.size + 1, 1, none⟩ = some (.int .i64 d) := R5.out.b1.cell' rfl
        clear hf5
        go_wp2_with fail
        refine (swap_ok _ _ _ 0 hs hg c d (-9) (-9) _ (R5.out.alloc _).tb rfl).mono ?_
        rintro e w6 ⟨rfl, _, hf6⟩
        have k0 := (Blk.new w5 23 #[.int .i64 hs, .int .i64 hg]).fr hf6 (only_ne (by omega))
        have k1 := (R5.out.alloc (.cells #[.int .i64 hs, .int .i64 hg] 23)).b1.fr hf6 (only_ne (by omega))
        have e0 : w6.cell? ⟨w5.heap.size, 0, none⟩ = some (.int .i64 hs) := k0.cell' rfl
        have e1 : w6.cell? ⟨w5.heap.size, 1, none⟩ = some (.int .i64 hg) := k0.cell' rfl
        have e2 : w6.cell? ⟨w.heap.size + 1, 0, none⟩ = some (.int .i64 c) := k1.cell' rfl
        have e3 : w6.cell? ⟨w.heap.size + 1, 1, none⟩ = some (.int .i64 d) := k1.cell' rfl
        have F6 := hid_ ((R5.out.alloc (.cells #[.int .i64 hs, .int .i64 hg] 23)).fr.then_only hf6 (.inr (by omega)))
        clear hf6 k0 k1 g0 g1
        by_cases ho : c = hs ∧ d = hg
        · obtain ⟨rfl, rfl⟩ := ho
          have htrue : (c == c && d == d) = true := by simp
          rw [htrue]
          go_wp2_with fail
          refine (awake5 _).mono ?_
          rintro e w7 ⟨rfl, hf7⟩
          have F7 := hid_ (F6.out.then_none hf7)
          clear hf7
          go_wp2
          go_ret
          exact ⟨rfl, F7.out⟩
        · have hq := eql_no c d hs hg ho
          have hfalse : (hs == c && hg == d) = false := by simp; intro h1 h2; exact ho ⟨h1.symm, h2.symm⟩
          rw [hfalse]
          clear ho hfalse
          go_wp2_with fail
          refine (awake5 _).mono ?_
          rintro e w7 ⟨rfl, hf7⟩
          have F7 := hid_ (F6.out.then_none hf7)
          clear hf7
          go_wp2
          go_ret
          exact ⟨rfl, F7.out⟩
end Go.Proofs.Ytnlpnbllnddaaaa

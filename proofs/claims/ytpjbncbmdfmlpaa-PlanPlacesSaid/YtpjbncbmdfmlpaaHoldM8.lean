/- Hold4, by contract: just which hold. -/
import Derived.Test.YtpjbncbmdfmlpaaChild
import Derived.Test.YtpjbncbmdfmlpaaU7
namespace Go.Proofs.Ytpjbncbmdfmlpaa
open Go.RowKit Go.BigFrame
set_option maxRecDepth 100000
set_option linter.unusedVariables false

/-- No entry behind the first, ahead of k, is of that page. -/
def NB (V : Vw) (page : Int) (k : Nat) : Prop := ∀ (j : Nat) (p : Et), 1 ≤ j → j < k → V.ents[j]? = some p → p.2 ≠ page
theorem NB.one (V : Vw) (page : Int) {k : Nat} (h : k ≤ 1) : NB V page k := fun j p h1 h2 _ => by omega
theorem NB.next {V : Vw} {page : Int} {k : Nat} (h : NB V page k) {q : Et} (hq : V.ents[k]? = some q) (hp : q.2 ≠ page) : NB V page (k + 1) := fun j p h1 h2 hj => by
  rcases Nat.lt_succ_iff_lt_or_eq.1 h2 with h3 | rfl
  · exact h j p h1 h3 hj
  · obtain rfl := Option.some.inj (hq.symm.trans hj)
    exact hp
def HoldIs (V : Vw) (page : Int) (o : Option (Int × Int × ByteArray)) : Prop :=
  (NB V page V.ents.length ∧ o = none) ∨ ∃ (i : Nat) (l q : Et), V.ents[i]? = some l ∧ V.ents[i + 1]? = some q ∧ q.2 = page ∧ NB V page (i + 1) ∧ o = some (q.2, l.2, q.1)
theorem HoldIs.uniq {V : Vw} {page : Int} {o o' : Option (Int × Int × ByteArray)} (h : HoldIs V page o) (h' : HoldIs V page o') : o = o' := by
  rcases h with ⟨hn, rfl⟩ | ⟨i, l, q, h1, h2, h3, h4, rfl⟩
  · rcases h' with ⟨_, rfl⟩ | ⟨i, l, q, h1, h2, h3, h4, rfl⟩
    · rfl
    · exact absurd h3 (hn (i + 1) q (by omega) (List.getElem?_eq_some_iff.1 h2).1 h2)
  · rcases h' with ⟨hn, rfl⟩ | ⟨j, l', q', g1, g2, g3, g4, rfl⟩
    · exact absurd h3 (hn (i + 1) q (by omega) (List.getElem?_eq_some_iff.1 h2).1 h2)
    · have hij : i = j := by
        rcases Nat.lt_trichotomy i j with h | h | h
        · exact absurd h3 (g4 (i + 1) q (by omega) (by omega) h2)
        · exact h
        · exact absurd g3 (h4 (j + 1) q' (by omega) (by omega) g2)
      subst hij
      obtain rfl := Option.some.inj (h1.symm.trans g1)
      obtain rfl := Option.some.inj (h2.symm.trans g2)
      rfl
def HoldPost2 (V : Vw) (page : Int) (w : World) (e : Ending) (w' : World) : Prop :=
  ((HoldIs V page none ∧ e = .returned (.tuple #[.agg #[.int .i64 0, .int .i64 0, .string nilS], errV 6])) ∨
   ∃ a b c, HoldIs V page (some (a, b, c)) ∧ e = .returned (.tuple #[.agg #[.int .i64 a, .int .i64 b, .string c], .nilIface])) ∧ Fr none_ w w'
theorem box3h {w1 : World} {b : Nat} {t : TypeId} {c0 c1 c2 : Value} (h : Blk w1 b t #[c0, c1, c2]) (x0 x1 x2 : Value) : Blk (((w1.setCell ⟨b, 0, none⟩ x0).setCell ⟨b, 1, none⟩ x1).setCell ⟨b, 1 + 1, none⟩ x2) b t #[x0, x1, x2] ∧ Fr (only b) w1 (((w1.setCell ⟨b, 0, none⟩ x0).setCell ⟨b, 1, none⟩ x1).setCell ⟨b, 1 + 1, none⟩ x2) :=
  ⟨((h.set_ 0 x0).set_ 1 x1).set_ 2 x2, (((Fr.refl (only b) w1).setCell (p := ⟨b, 0, none⟩) (.inl (Eq.refl _)) x0).setCell (p := ⟨b, 1, none⟩) (.inl (Eq.refl _)) x1).setCell (p := ⟨b, 1 + 1, none⟩) (.inl (Eq.refl _)) x2⟩
theorem hold_sz8 : (Try.prog.info? 41).map (·.size) = some 3 := by kernel_rfl
set_option maxHeartbeats 4000000 in
theorem hold4_nb (V : Vw) (page : Int) (A : Option Addr) (c : Nat) (w : World) (h : VwIn w V A c) (hl : V.ents.length ≤ 2000) :
    Calls Try.prog 102 #[vwV V (.slice A V.ents.length c), .int .i64 page] w (HoldPost2 V page w) := by
  obtain ⟨w0, hw0⟩ : ∃ z, z = (w.alloc (.cells (vwA V (.slice A V.ents.length c)) 43)).alloc (.cells #[.int .i64 0, .int .i64 0, .string nilS] 41) := ⟨_, rfl⟩
  have f0 : Fr none_ w w0 := by rw [hw0]; exact ((Fr.refl none_ w).alloc _).alloc _
  have BV : Hid (Blk w0 w.heap.size 43 (vwA V (.slice A V.ents.length c))) := hid_ (by rw [hw0]; exact (Blk.new w _ _).alloc _)
  have BH : Hid (Blk w0 (w.heap.size + 1) 41 #[.int .i64 0, .int .i64 0, .string nilS]) := hid_ (by rw [hw0]; exact Blk.new7 _ _ (by simp))
  have F0 := hid_ f0
  have HI := hid_ (h.keep f0)
  have v4 : w0.cell? ⟨w.heap.size, 4, none⟩ = some (.slice A V.ents.length c) := BV.out.cell' rfl
  clear f0 h
  go_enter Try.func102, Try.ntmps102
  go_upto_region 1 with fail
  change Code.wp _ _ _ _ ((w.alloc (.cells (vwA V (.slice A V.ents.length c)) 43)).alloc (.cells #[.int .i64 0, .int .i64 0, .string nilS] 41))
  rw [← hw0]
  clear hw0
  go_step3
  go_wp2_with fail
  go_step3
  go_wp2_with fail
  go_loopw [6, 12] (fun a i wr => ∃ k : Nat, k ≤ V.ents.length ∧ i = .int .i64 k ∧ a = .int .i64 0 ∧ NB V page k ∧ Fr none_ w0 wr) (fun _ i _ => V.ents.length - (intOf i).toNat)
  case atStart => exact ⟨0, Nat.zero_le _, rfl, rfl, NB.one V page (by omega), Fr.refl _ _⟩
  case round =>
    obtain ⟨k, hk, rfl, rfl, hnb, hfr⟩ := hrel
    have HNB := hid_ hnb
    clear hnb
    have FR := hid_ hfr
    have hi0 : (0 : Int) ≤ (k : Int) := Int.natCast_nonneg _
    have hrs := hfr.size
    clear hfr v4
    by_cases hlt : k < V.ents.length
    · obtain ⟨q, hq⟩ : ∃ q, V.ents[k]? = some q := ⟨_, List.getElem?_eq_getElem hlt⟩
      have HQ := hid_ hq
      obtain ⟨b, off, rfl, hb, d0, d1⟩ := et_at (HI.out.rd.none_fr FR.out) hq
      have hi1 : (k : Int) < (V.ents.length : Int) := by omega
      clear hq
      rcases Nat.eq_zero_or_pos k with h0 | h0
      · subst h0
        simp only [Nat.zero_mul, Nat.add_zero] at d0 d1
        go_wp2_with fail
        go_roundw
        case rel => exact ⟨1, by omega, by go_num, rfl, NB.one V page (by omega), FR.out.alloc _⟩
        case measure => simp [intOf]; omega
      · have hd0 : decide ((0 : Int) < (k : Int)) = true := by simp; omega
        by_cases hp : q.2 = page
        · have hd1 : (q.2 == page) = true := by simpa using hp
          have HP := hid_ hp
          have hk0 : ((k : Int) == 0) = false := by simp; omega
          have hkm : IntKind.i64.wrap ((k : Int) - 1) = ((k - 1 : Nat) : Int) := by rw [IntWalk.i64_in _ (by omega)]; omega
          obtain ⟨l, hl2⟩ : ∃ l, V.ents[k - 1]? = some l := ⟨_, List.getElem?_eq_getElem (by omega)⟩
          have HL := hid_ hl2
          clear hp hl2
          go_upto_region 10 with fail
          obtain ⟨w1, hw1⟩ : ∃ z, z = wr.alloc (.cells #[.string q.1, .int .i64 q.2] 64) := ⟨_, rfl⟩
          have f1 : Fr none_ wr w1 := by rw [hw1]; exact (Fr.refl none_ wr).alloc _
          have G1 := hid_ (FR.out.then_none f1)
          rw [← hw1]
          have v4 : w1.cell? ⟨w.heap.size, 4, none⟩ = some (.slice (some ⟨b, off, none⟩) V.ents.length c) := (BV.out.fr G1.out id).cell' rfl
          have e0 : w1.cell? ⟨b, off + k * 2, none⟩ = some (.string q.1) := cellFr d0 f1
          obtain ⟨b', off', e', hb', l0, l1⟩ := et_at (HI.out.rd.none_fr G1.out) HL.out
          cases e'
          have hi3 : ((k - 1 : Nat) : Int) < (V.ents.length : Int) := by omega
          have hi4 : (0 : Int) ≤ ((k - 1 : Nat) : Int) := Int.natCast_nonneg _
          have BH1 := hid_ (BH.out.fr G1.out id)
          clear hw1 f1 d0 d1 hd0 hd1 hk0 l0
          have hS1 : (fun w' : World => Fr none_ w1 w') w1.drew := (Fr.refl none_ w1).drew
          refine wp_region_U (m := 15) (S := fun w' : World => Fr none_ w1 w') (by kernel_rfl) ?_
          refine wpAnyU_take2 (i := 0) (v := _) rfl (by kernel_rfl) (by kernel_rfl) (by kernel_rfl) (by kernel_rfl) (fun _ _ _ h => h) (.inl ⟨by kernel_rfl, fun w' hS => by go_simp; rfl⟩) hS1 ?_
          refine wpAnyU_take2 (i := 1) (v := _) rfl (by kernel_rfl) (by kernel_rfl) (by kernel_rfl) (by kernel_rfl) (fun _ _ _ h => h) (.inl ⟨by kernel_rfl, fun w' hS => by go_simp; rfl⟩) hS1 ?_
          refine wpAnyU_take2 (i := 2) (v := _) rfl (by kernel_rfl) (by kernel_rfl) (by kernel_rfl) (by kernel_rfl) (fun _ _ _ h => h) (.inl ⟨by kernel_rfl, fun w' hS => by have s_ := cellFr v4 hS; go_simp; rfl⟩) hS1 ?_
          refine wpAnyU_take2 (i := 3) (v := _) rfl (by kernel_rfl) (by kernel_rfl) (by kernel_rfl) (by kernel_rfl) (fun _ _ _ h => h) (.inl ⟨by kernel_rfl, fun w' hS => by go_simp; rfl⟩) hS1 ?_
          refine wpAnyU_take2 (i := 4) (v := _) rfl (by kernel_rfl) (by kernel_rfl) (by kernel_rfl) (by kernel_rfl) (fun _ _ _ h => h) (.inl ⟨by kernel_rfl, fun w' hS => by go_simp; rfl⟩) hS1 ?_
          refine wpAnyU_take2 (i := 5) (v := _) rfl (by kernel_rfl) (by kernel_rfl) (by kernel_rfl) (by kernel_rfl) (fun _ _ _ h => h) (.inl ⟨by kernel_rfl, fun w' hS => by go_simp; rfl⟩) hS1 ?_
          refine wpAnyU_take2 (i := 6) (v := _) rfl (by kernel_rfl) (by kernel_rfl) (by kernel_rfl) (by kernel_rfl) (fun _ _ _ h => h) (.inl ⟨by kernel_rfl, fun w' hS => by go_simp; rfl⟩) hS1 ?_
          refine wpAnyU_take2 (i := 7) (v := _) rfl (by kernel_rfl) (by kernel_rfl) (by kernel_rfl) (by kernel_rfl) (fun _ _ _ h => h) (.inl ⟨by kernel_rfl, fun w' hS => by have s_ := cellFr l1 hS; go_simp; rfl⟩) hS1 ?_
          refine wpAnyU_take2 (i := 8) (v := _) rfl (by kernel_rfl) (by kernel_rfl) (by kernel_rfl) (by kernel_rfl) (fun _ _ _ h => h) (.inl ⟨by kernel_rfl, fun w' hS => by go_simp; rfl⟩) hS1 ?_
          refine wpAnyU_take2 (i := 9) (v := _) rfl (by kernel_rfl) (by kernel_rfl) (by kernel_rfl) (by kernel_rfl) (fun _ _ _ h => h) (.inl ⟨by kernel_rfl, fun w' hS => by have s_ := cellFr v4 hS; go_simp; rfl⟩) hS1 ?_
          refine wpAnyU_take2 (i := 10) (v := _) rfl (by kernel_rfl) (by kernel_rfl) (by kernel_rfl) (by kernel_rfl) (fun _ _ _ h => h) (.inl ⟨by kernel_rfl, fun w' hS => by go_simp; rfl⟩) hS1 ?_
          refine wpAnyU_take2 (i := 11) (v := _) rfl (by kernel_rfl) (by kernel_rfl) (by kernel_rfl) (by kernel_rfl) (fun _ _ _ h => h) (.inl ⟨by kernel_rfl, fun w' hS => by go_simp; rfl⟩) hS1 ?_
          refine wpAnyU_take2 (i := 12) (v := _) rfl (by kernel_rfl) (by kernel_rfl) (by kernel_rfl) (by kernel_rfl) (fun _ _ _ h => h) (.inl ⟨by kernel_rfl, fun w' hS => by go_simp; rfl⟩) hS1 ?_
          refine wpAnyU_take2 (i := 13) (v := _) rfl (by kernel_rfl) (by kernel_rfl) (by kernel_rfl) (by kernel_rfl) (fun _ _ _ h => h) (.inl ⟨by kernel_rfl, fun w' hS => by have s_ := cellFr e0 hS; go_simp; rfl⟩) hS1 ?_
          refine wpAnyU_take2 (i := 14) (v := _) rfl (by kernel_rfl) (by kernel_rfl) (by kernel_rfl) (by kernel_rfl) (fun _ _ _ h => h) (.inl ⟨by kernel_rfl, fun w' hS => by go_simp; rfl⟩) hS1 ?_
          have y0 := BH1.out.frozen 0
          have y1 := BH1.out.frozen 1
          have y2 := BH1.out.frozen 2
          have c0 : w1.cell? ⟨w.heap.size + 1, 0, none⟩ = some (.int .i64 0) := BH1.out.cell' rfl
          have c1 : w1.cell? ⟨w.heap.size + 1, 1, none⟩ = some (.int .i64 0) := BH1.out.cell' rfl
          have c2 : w1.cell? ⟨w.heap.size + 1, 2, none⟩ = some (.string nilS) := BH1.out.cell' rfl
          refine wpAnyU_one7 (i := 15) rfl (by kernel_rfl) (by kernel_rfl) ?_
          go_simp
          clear y0 y1 y2 c0 c1 c2 v4 e0 l1 hi3 hi4 hkm hi0 hi1
          obtain ⟨qb, qf⟩ := box3h BH1.out (.int .i64 page) (.int .i64 l.2) (.string q.1)
          obtain ⟨w2, hw2⟩ : ∃ z, z = (((w1.setCell ⟨w.heap.size + 1, 0, none⟩ (.int .i64 page)).setCell ⟨w.heap.size + 1, 1, none⟩ (.int .i64 l.2)).setCell ⟨w.heap.size + 1, 2, none⟩ (.string q.1)).drew := ⟨_, rfl⟩
          have qb2 : Blk w2 (w.heap.size + 1) 41 #[.int .i64 page, .int .i64 l.2, .string q.1] := by rw [hw2]; exact qb.drew
          have qf2 : Fr (only (w.heap.size + 1)) w1 w2 := by rw [hw2]; exact qf.drew
          rw [← hw2]
          clear hw2 qb qf
          have q0 := qb2.cell' (i := 0) rfl
          have q1 := qb2.cell' (i := 1) rfl
          have q2 := qb2.cell' (i := 2) rfl
          refine wpAnyU_one7 (i := 16) rfl (by kernel_rfl) (by kernel_rfl) ?_
          go_simp
          refine wpAnyU_done (by kernel_rfl) ?_ _
          go_wp2_with fail
          have hqk : V.ents[(k - 1) + 1]? = some q := by rw [show k - 1 + 1 = k by omega]; exact HQ.out
          refine bodyPost_ret (v := .tuple #[.agg #[.int .i64 page, .int .i64 l.2, .string q.1], .nilIface]) ?_ rfl ⟨.inr ⟨page, l.2, q.1, .inr ⟨k - 1, l, q, HL.out, hqk, HP.out, by rw [show k - 1 + 1 = k by omega]; exact HNB.out, by rw [HP.out]⟩, rfl⟩, (F0.out.then_none G1.out).then_only qf2 (.inr (by omega))⟩
          simp [results, Try.results102, go_sem, q0, q1, q2]
        · have hd1 : (q.2 == page) = false := by simpa using hp
          have HX := hid_ (HNB.out.next HQ.out hp)
          clear hp
          go_wp2_with fail
          go_roundw
          case rel => exact ⟨k + 1, by omega, by go_num, rfl, HX.out, FR.out.alloc _⟩
          case measure => simp [intOf]; omega
    · obtain rfl : k = V.ents.length := by omega
      have BR := hid_ (BH.out.fr FR.out id)
      have y0 := BR.out.frozen 0
      have y1 := BR.out.frozen 1
      have y2 := BR.out.frozen 2
      have c0 : wr.cell? ⟨w.heap.size + 1, 0, none⟩ = some (.int .i64 0) := BR.out.cell' rfl
      have c1 : wr.cell? ⟨w.heap.size + 1, 1, none⟩ = some (.int .i64 0) := BR.out.cell' rfl
      have c2 : wr.cell? ⟨w.heap.size + 1, 2, none⟩ = some (.string nilS) := BR.out.cell' rfl
      go_wp2_with fail
      clear y0 y1 y2 c0 c1 c2
      obtain ⟨qb, qf⟩ := box3h BR.out (.int .i64 0) (.int .i64 0) (.string nilS)
      have q0 := qb.cell' (i := 0) rfl
      have q1 := qb.cell' (i := 1) rfl
      have q2 := qb.cell' (i := 2) rfl
      refine bodyPost_ret (v := .tuple #[.agg #[.int .i64 0, .int .i64 0, .string nilS], errV 6]) ?_ rfl ⟨.inl ⟨.inl ⟨HNB.out, rfl⟩, rfl⟩, (F0.out.then_none FR.out).then_only qf (.inr (by omega))⟩
      simp [results, Try.results102, go_sem, q0, q1, q2]
end Go.Proofs.Ytpjbncbmdfmlpaa

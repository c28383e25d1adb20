/- inner.halves by contract. -/
import Derived.Test.YtfoljojacakkeaaDoorPre8
import Derived.Test.YtfoljojacakkeaaDoorLaw8
import Derived.BigRegion
namespace Go.Proofs.YtfoljojacakkeaaDoor
open Go.RowKit Go.BigFrame
set_option maxRecDepth 100000
set_option linter.unusedVariables false

theorem half_len {V : Vw} {n : Nat} (hn : n = V.ents.length / 2) {A : Option Addr} {c : Nat} {w : World} (h : VwIn w V A c) (h2 : 2 ≤ V.ents.length) {q : Et} (hq : V.ents[n]? = some q) {A5 : Option Addr} (hA : (if c = n then A else Option.map (fun x => x.add (n * 2)) A) = A5) (r : Int) :
    VwIn w (leftV V n q.1 r) A c ∧ (leftV V n q.1 r).ents.length = n ∧ VwIn w (rightV V n q.1) A5 (c - n) ∧ (rightV V n q.1).ents.length = V.ents.length - n := by
  have hl := lt_of_some hq
  have htl : (V.ents.take n).length = n := by simp; omega
  have hdl : (V.ents.drop n).length = V.ents.length - n := by simp
  have hqk := h.ok.ents.2 q (List.mem_of_getElem? hq)
  have hc := h.cap
  have hcm := h.capm
  refine ⟨⟨?_, ?_, hcm, ⟨h.ok.low, hqk, h.ok.hk, ⟨?_, fun p hp => h.ok.ents.2 p (List.mem_of_mem_take hp)⟩⟩⟩, htl, ⟨?_, ?_, ?_, ⟨hqk, h.ok.high, h.ok.hk, ⟨?_, fun p hp => h.ok.ents.2 p (List.mem_of_mem_drop hp)⟩⟩⟩, hdl⟩
  · show Reads w 2 A (V.ents.take n).length (etFlat (V.ents.take n))
    rw [htl, etFlat_take]
    exact h.rd.upto (by omega)
  · show (V.ents.take n).length ≤ c
    omega
  · show (V.ents.take n).length ≤ 1000
    have := h.ok.ents.1
    omega
  · show Reads w 2 A5 (V.ents.drop n).length (etFlat (V.ents.drop n))
    rw [hdl, etFlat_drop, ← hA]
    exact h.rd.cut (by omega) hc
  · show (V.ents.drop n).length ≤ c - n
    omega
  · unfold maxLen at hcm ⊢
    omega
  · show (V.ents.drop n).length ≤ 1000
    have := h.ok.ents.1
    omega
def HalvesPost (V : Vw) (w : World) (e : Ending) (w' : World) : Prop :=
  (V.held = true ∧ e = .returned (.tuple #[vwV Vw.zero (.slice none 0 0), vwV Vw.zero (.slice none 0 0), errV 13]) ∧ Fr none_ w w') ∨
  (V.held = false ∧ V.ents.length ≤ 1 ∧ e = .returned (.tuple #[vwV Vw.zero (.slice none 0 0), vwV Vw.zero (.slice none 0 0), errV 2]) ∧ Fr none_ w w') ∨
  (∃ (q : Et) (A' A5 : Option Addr) (c' c5 : Nat), V.held = false ∧ 2 ≤ V.ents.length ∧ V.ents[V.ents.length / 2]? = some q ∧
    e = .returned (.tuple #[vwV (leftV V (V.ents.length / 2) q.1 V.right) (.slice A' (leftV V (V.ents.length / 2) q.1 V.right).ents.length c'), vwV (rightV V (V.ents.length / 2) q.1) (.slice A5 (rightV V (V.ents.length / 2) q.1).ents.length c5), .nilIface]) ∧
    VwIn w' (leftV V (V.ents.length / 2) q.1 V.right) A' c' ∧ VwIn w' (rightV V (V.ents.length / 2) q.1) A5 c5 ∧ Fr none_ w w')
set_option maxHeartbeats 8000000 in
theorem halves_ok (V : Vw) (A : Option Addr) (c : Nat) (w : World) (h : VwIn w V A c) :
    Calls Tryd.prog 73 #[vwV V (.slice A V.ents.length c)] w (HalvesPost V w) := by
  have hl := h.ok.ents.1
  cases hh : V.held with
  | true =>
    clear h
    go_enter Tryd.func73, Tryd.ntmps73
    go_wp2_with fail
    refine bodyPost_ret (v := .tuple #[vwV Vw.zero (.slice none 0 0), vwV Vw.zero (.slice none 0 0), errV 13]) ?_ rfl (.inl ⟨hh, rfl, by repeat (first | exact Fr.refl _ _ | apply Fr.alloc)⟩)
    simp [results, Tryd.results73, go_sem, Vw.zero]
  | false =>
    have HH := hid_ hh
    have ev : vwV V (.slice A V.ents.length c) = vwV { V with held := false } (.slice A V.ents.length c) := by rw [vwV, vwA, hh]
    rw [ev]
    clear ev hh
    by_cases h2 : 2 ≤ V.ents.length
    · obtain ⟨n, hn⟩ : ∃ n : Nat, (V.ents.length : Int) / 2 = n := ⟨V.ents.length / 2, by omega⟩
      have hnn : n = V.ents.length / 2 := by omega
      have hd : ((n : Int) == 0) = false := by simp; omega
      obtain ⟨q, hq⟩ := some_of_lt (L := V.ents) (i := n) (by omega)
      obtain ⟨b, off, rfl, hb, c0, c1⟩ := et_at h.rd hq
      have hcap := h.cap
      have hcm := h.capm
      unfold maxLen at hcm
      obtain ⟨A5, hA5⟩ : ∃ A5, (if c = n then (some (⟨b, off, none⟩ : Addr)) else Option.map (fun x : Addr => x.add (n * 2)) (some (⟨b, off, none⟩ : Addr))) = A5 := ⟨_, rfl⟩
      have HL := hid_ (half_len hnn h h2 hq hA5 V.right)
      have HN := hid_ (And.intro hnn (And.intro hq h2))
      have hnl : n < V.ents.length := by omega
      have hi1 : (n : Int) < (V.ents.length : Int) := by omega
      have hi0 : (0 : Int) ≤ (n : Int) := Int.natCast_nonneg _
      have hA5' : (if c = n then (some (⟨b, off, none⟩ : Addr)) else some ⟨b, off + n * 2, none⟩) = A5 := by
        rw [← hA5]
        split
        · rfl
        · simp [add_lit]
      have HA := hid_ hA5'
      clear h hnn hq h2 hA5 hA5'
      go_enter Tryd.func73, Tryd.ntmps73
      go_upto_region 6 with fail
      obtain ⟨w0, hw0⟩ : ∃ z, z = ((w.alloc (.cells (vwA { V with held := false } (.slice (some ⟨b, off, none⟩) V.ents.length c)) 57)).alloc (.cells (vwA Vw.zero (.slice none 0 0)) 57)).alloc (.cells (vwA Vw.zero (.slice none 0 0)) 57) := ⟨_, rfl⟩
      have f0 : Fr none_ w w0 := by rw [hw0]; exact (((Fr.refl none_ w).alloc _).alloc _).alloc _
      have B0 : Hid (Blk w0 w.heap.size 57 #[.string V.low, .string V.high, .bool V.unb, .int .i64 V.right, .slice (some ⟨b, off, none⟩) V.ents.length c, .bool false, .int .i64 V.hp, .int .i64 V.hl, .string V.hk]) := hid_ (by rw [hw0]; exact ((Blk.new w _ _).alloc _).alloc _)
      have B1 : Hid (Blk w0 (w.heap.size + 1) 57 (vwA Vw.zero (.slice none 0 0))) := hid_ (by
        have := (Blk.new (w.alloc (.cells (vwA { V with held := false } (.slice (some ⟨b, off, none⟩) V.ents.length c)) 57)) 57 (vwA Vw.zero (.slice none 0 0))).alloc (.cells (vwA Vw.zero (.slice none 0 0)) 57)
        rw [World.size_alloc] at this
        rw [hw0]; exact this)
      have B2 : Hid (Blk w0 (w.heap.size + 1 + 1) 57 (vwA Vw.zero (.slice none 0 0))) := hid_ (by
        have := Blk.new ((w.alloc (.cells (vwA { V with held := false } (.slice (some ⟨b, off, none⟩) V.ents.length c)) 57)).alloc (.cells (vwA Vw.zero (.slice none 0 0)) 57)) 57 (vwA Vw.zero (.slice none 0 0))
        rw [World.size_alloc, World.size_alloc] at this
        rw [hw0]; exact this)
      have hz0 : w0.heap.size = w.heap.size + 1 + 1 + 1 := by rw [hw0]; simp
      have HW0 := hid_ (And.intro hw0 hz0)
      have F0 := hid_ f0
      change Code.wp _ _ _ _ (((w.alloc (.cells (vwA { V with held := false } (.slice (some ⟨b, off, none⟩) V.ents.length c)) 57)).alloc (.cells (vwA Vw.zero (.slice none 0 0)) 57)).alloc (.cells (vwA Vw.zero (.slice none 0 0)) 57))
      rw [← hw0]
      have hlt0 : w.heap.size < w0.heap.size := by omega
      have hb0 : b < w0.heap.size := by omega
      have hz3 : w.heap.size + 1 + 1 + 1 ≤ w0.heap.size := by omega
      clear hw0 f0 hz0
      go_cut [6, 7] (fun x y wq => ∃ g1 g2 : Nat, x = .pointer (some ⟨g1, 0, none⟩) ∧ y = .pointer (some ⟨g2, 0, none⟩) ∧ g1 ≠ g2 ∧ w0.heap.size ≤ g1 ∧ w0.heap.size ≤ g2 ∧ Blk wq g1 57 #[.string V.low, .string V.high, .bool V.unb, .int .i64 V.right, .slice (some ⟨b, off, none⟩) V.ents.length c, .bool false, .int .i64 V.hp, .int .i64 V.hl, .string V.hk] ∧ Blk wq g2 57 #[.string V.low, .string V.high, .bool V.unb, .int .i64 V.right, .slice (some ⟨b, off, none⟩) V.ents.length c, .bool false, .int .i64 V.hp, .int .i64 V.hl, .string V.hk] ∧ Fr none_ w0 wq)
      case first =>
        have v0 : w0.cell? ⟨w.heap.size, 0, none⟩ = some (.string V.low) := B0.out.cell' rfl
        have v1 : w0.cell? ⟨w.heap.size, 1, none⟩ = some (.string V.high) := B0.out.cell' rfl
        have v2 : w0.cell? ⟨w.heap.size, 2, none⟩ = some (.bool V.unb) := B0.out.cell' rfl
        have v3 : w0.cell? ⟨w.heap.size, 3, none⟩ = some (.int .i64 V.right) := B0.out.cell' rfl
        have v4 : w0.cell? ⟨w.heap.size, 4, none⟩ = some (.slice (some ⟨b, off, none⟩) V.ents.length c) := B0.out.cell' rfl
        have v5 : w0.cell? ⟨w.heap.size, 5, none⟩ = some (.bool false) := B0.out.cell' rfl
        have v6 : w0.cell? ⟨w.heap.size, 6, none⟩ = some (.int .i64 V.hp) := B0.out.cell' rfl
        have v7 : w0.cell? ⟨w.heap.size, 7, none⟩ = some (.int .i64 V.hl) := B0.out.cell' rfl
        have v8 : w0.cell? ⟨w.heap.size, 8, none⟩ = some (.string V.hk) := B0.out.cell' rfl
        go_region
        all_goals
          go_wp2_with fail
          go_meet
          case rel => first | exact ⟨_, _, rfl, rfl, by omega, Nat.le_refl _, by omega, ((Blk.new w0 _ _).alloc _).drew, (Blk.new_at _ _ (by simp)).drew, (((Fr.refl none_ w0).alloc _).alloc _).drew⟩ | exact ⟨_, _, rfl, rfl, by omega, by omega, Nat.le_refl _, (Blk.new_at _ _ (by simp)).drew, ((Blk.new w0 _ _).alloc _).drew, (((Fr.refl none_ w0).alloc _).alloc _).drew⟩
      case rest =>
        obtain ⟨g1, g2, rfl, rfl, hne, hg1, hg2, hb1, hb2, hfc⟩ := hcut
        have K1 := hid_ hb1
        have K2 := hid_ hb2
        have FC := hid_ hfc
        have hz := hfc.size
        have v4 : wc.cell? ⟨w.heap.size, 4, none⟩ = some (.slice (some ⟨b, off, none⟩) V.ents.length c) := (B0.out.fr hfc id).cell' rfl
        have e1 : wc.cell? ⟨g1, 4, none⟩ = some (.slice (some ⟨b, off, none⟩) V.ents.length c) := hb1.cell' rfl
        have e2 : wc.cell? ⟨g2, 4, none⟩ = some (.slice (some ⟨b, off, none⟩) V.ents.length c) := hb2.cell' rfl
        have f1 := hb1.frozen 4
        have f2 := hb2.frozen 4
        have hA := HA.out
        clear hb1 hb2 hfc
        go_wp2_with fail
        go_region
        obtain ⟨wd, hwd⟩ : ∃ z, z = ((wc.setCell ⟨g1, 4, none⟩ (.slice (some ⟨b, off, none⟩) n c)).setCell ⟨g2, 4, none⟩ (.slice A5 (V.ents.length - n) (c - n))).drew := ⟨_, rfl⟩
        have M1 : Hid (Blk wd g1 57 #[.string V.low, .string V.high, .bool V.unb, .int .i64 V.right, .slice (some ⟨b, off, none⟩) n c, .bool false, .int .i64 V.hp, .int .i64 V.hl, .string V.hk]) := hid_ (by rw [hwd]; exact ((K1.out.set_ 4 _).far (p := ⟨g2, 4, none⟩) hne _).drew)
        have M2 : Hid (Blk wd g2 57 #[.string V.low, .string V.high, .bool V.unb, .int .i64 V.right, .slice A5 (V.ents.length - n) (c - n), .bool false, .int .i64 V.hp, .int .i64 V.hl, .string V.hk]) := hid_ (by rw [hwd]; exact ((K2.out.far (p := ⟨g1, 4, none⟩) (Ne.symm hne) _).set_ 4 _).drew)
        have FD : Hid (Fr none_ w wd) := hid_ (by rw [hwd]; exact (((F0.out.then_none FC.out).setCell (p := ⟨g1, 4, none⟩) (.inr (by show w.heap.size ≤ g1; omega)) _).setCell (p := ⟨g2, 4, none⟩) (.inr (by show w.heap.size ≤ g2; omega)) _).drew)
        have FE : Hid (Fr (fun k => k = g1 ∨ k = g2) wc wd) := hid_ (by rw [hwd]; exact (((Fr.refl _ wc).setCell (p := ⟨g1, 4, none⟩) (.inl (.inl rfl)) _).setCell (p := ⟨g2, 4, none⟩) (.inl (.inr rfl)) _).drew)
        have nf : ∀ k, k < w0.heap.size → ¬ (k = g1 ∨ k = g2) := fun k hk e => by omega
        have L0 := hid_ ((B0.out.fr FC.out id).fr FE.out (nf _ hlt0))
        have L1 := hid_ ((B1.out.fr FC.out id).fr FE.out (nf _ B1.out.lt))
        have L2 := hid_ ((B2.out.fr FC.out id).fr FE.out (nf _ B2.out.lt))
        change Exit.then _ _ _ _ (((wc.setCell ⟨g1, 4, none⟩ (.slice (some ⟨b, off, none⟩) n c)).setCell ⟨g2, 4, none⟩ (.slice A5 (V.ents.length - n) (c - n))).drew)
        rw [← hwd]
        clear hwd v4 e1 e2 f1 f2 hA K1 K2 FE B0 B1 B2
        have v4 : wd.cell? ⟨w.heap.size, 4, none⟩ = some (.slice (some ⟨b, off, none⟩) V.ents.length c) := L0.out.cell' rfl
        have e0 : wd.cell? ⟨g2, 0, none⟩ = some (.string V.low) := M2.out.cell' rfl
        have e1 : wd.cell? ⟨g1, 1, none⟩ = some (.string V.high) := M1.out.cell' rfl
        have e2 : wd.cell? ⟨g1, 2, none⟩ = some (.bool V.unb) := M1.out.cell' rfl
        have f0 := M2.out.frozen 0
        have f1 := M1.out.frozen 1
        have f2 := M1.out.frozen 2
        have q0 := cellFr c0 FD.out
        go_upto_region 10 with fail
        obtain ⟨we, hwe⟩ : ∃ z, z = ((wd.setCell ⟨g2, 0, none⟩ (.string q.1)).setCell ⟨g1, 1, none⟩ (.string q.1)).setCell ⟨g1, 2, none⟩ (.bool false) := ⟨_, rfl⟩
        have N1 : Hid (Blk we g1 57 #[.string V.low, .string q.1, .bool false, .int .i64 V.right, .slice (some ⟨b, off, none⟩) n c, .bool false, .int .i64 V.hp, .int .i64 V.hl, .string V.hk]) := hid_ (by rw [hwe]; exact ((M1.out.far (p := ⟨g2, 0, none⟩) hne _).set_ 1 _).set_ 2 _)
        have N2 : Hid (Blk we g2 57 #[.string q.1, .string V.high, .bool V.unb, .int .i64 V.right, .slice A5 (V.ents.length - n) (c - n), .bool false, .int .i64 V.hp, .int .i64 V.hl, .string V.hk]) := hid_ (by rw [hwe]; exact (((M2.out.set_ 0 _).far (p := ⟨g1, 1, none⟩) (Ne.symm hne) _).far (p := ⟨g1, 2, none⟩) (Ne.symm hne) _))
        have FF : Hid (Fr (fun k => k = g1 ∨ k = g2) wd we) := hid_ (by rw [hwe]; exact ((((Fr.refl _ wd).setCell (p := ⟨g2, 0, none⟩) (.inl (.inr rfl)) _).setCell (p := ⟨g1, 1, none⟩) (.inl (.inl rfl)) _).setCell (p := ⟨g1, 2, none⟩) (.inl (.inl rfl)) _))
        have FG : Hid (Fr none_ w we) := hid_ (FD.out.trans FF.out (fun _ _ e => e.elim) (fun k hk e => by omega))
        replace L1 := hid_ (L1.out.fr FF.out (by omega))
        replace L2 := hid_ (L2.out.fr FF.out (by omega))
        change Code.wp _ _ _ _ (((wd.setCell ⟨g2, 0, none⟩ (.string q.1)).setCell ⟨g1, 1, none⟩ (.string q.1)).setCell ⟨g1, 2, none⟩ (.bool false))
        rw [← hwe]
        clear hwe v4 e0 e1 e2 f0 f1 f2 q0 M1 M2 L0 FF FD
        have a0 : we.cell? ⟨g1, 0, none⟩ = some (.string V.low) := N1.out.cell' rfl
        have a1 : we.cell? ⟨g1, 1, none⟩ = some (.string q.1) := N1.out.cell' rfl
        have a2 : we.cell? ⟨g1, 2, none⟩ = some (.bool false) := N1.out.cell' rfl
        have a3 : we.cell? ⟨g1, 3, none⟩ = some (.int .i64 V.right) := N1.out.cell' rfl
        have a4 : we.cell? ⟨g1, 4, none⟩ = some (.slice (some ⟨b, off, none⟩) n c) := N1.out.cell' rfl
        have a5 : we.cell? ⟨g1, 5, none⟩ = some (.bool false) := N1.out.cell' rfl
        have a6 : we.cell? ⟨g1, 6, none⟩ = some (.int .i64 V.hp) := N1.out.cell' rfl
        have a7 : we.cell? ⟨g1, 7, none⟩ = some (.int .i64 V.hl) := N1.out.cell' rfl
        have a8 : we.cell? ⟨g1, 8, none⟩ = some (.string V.hk) := N1.out.cell' rfl
        have d0 : we.cell? ⟨g2, 0, none⟩ = some (.string q.1) := N2.out.cell' rfl
        have d1 : we.cell? ⟨g2, 1, none⟩ = some (.string V.high) := N2.out.cell' rfl
        have d2 : we.cell? ⟨g2, 2, none⟩ = some (.bool V.unb) := N2.out.cell' rfl
        have d3 : we.cell? ⟨g2, 3, none⟩ = some (.int .i64 V.right) := N2.out.cell' rfl
        have d4 : we.cell? ⟨g2, 4, none⟩ = some (.slice A5 (V.ents.length - n) (c - n)) := N2.out.cell' rfl
        have d5 : we.cell? ⟨g2, 5, none⟩ = some (.bool false) := N2.out.cell' rfl
        have d6 : we.cell? ⟨g2, 6, none⟩ = some (.int .i64 V.hp) := N2.out.cell' rfl
        have d7 : we.cell? ⟨g2, 7, none⟩ = some (.int .i64 V.hl) := N2.out.cell' rfl
        have d8 : we.cell? ⟨g2, 8, none⟩ = some (.string V.hk) := N2.out.cell' rfl
        have y0 : we.cell? ⟨w.heap.size + 1, 0, none⟩ = some (.string Vw.zero.low) := L1.out.cell' rfl
        have y1 : we.cell? ⟨w.heap.size + 1, 1, none⟩ = some (.string Vw.zero.high) := L1.out.cell' rfl
        have y2 : we.cell? ⟨w.heap.size + 1, 2, none⟩ = some (.bool Vw.zero.unb) := L1.out.cell' rfl
        have y3 : we.cell? ⟨w.heap.size + 1, 3, none⟩ = some (.int .i64 Vw.zero.right) := L1.out.cell' rfl
        have y4 : we.cell? ⟨w.heap.size + 1, 4, none⟩ = some (.slice none 0 0) := L1.out.cell' rfl
        have y5 : we.cell? ⟨w.heap.size + 1, 5, none⟩ = some (.bool Vw.zero.held) := L1.out.cell' rfl
        have y6 : we.cell? ⟨w.heap.size + 1, 6, none⟩ = some (.int .i64 Vw.zero.hp) := L1.out.cell' rfl
        have y7 : we.cell? ⟨w.heap.size + 1, 7, none⟩ = some (.int .i64 Vw.zero.hl) := L1.out.cell' rfl
        have y8 : we.cell? ⟨w.heap.size + 1, 8, none⟩ = some (.string Vw.zero.hk) := L1.out.cell' rfl
        have z0 : we.cell? ⟨w.heap.size + 1 + 1, 0, none⟩ = some (.string Vw.zero.low) := L2.out.cell' rfl
        have z1 : we.cell? ⟨w.heap.size + 1 + 1, 1, none⟩ = some (.string Vw.zero.high) := L2.out.cell' rfl
        have z2 : we.cell? ⟨w.heap.size + 1 + 1, 2, none⟩ = some (.bool Vw.zero.unb) := L2.out.cell' rfl
        have z3 : we.cell? ⟨w.heap.size + 1 + 1, 3, none⟩ = some (.int .i64 Vw.zero.right) := L2.out.cell' rfl
        have z4 : we.cell? ⟨w.heap.size + 1 + 1, 4, none⟩ = some (.slice none 0 0) := L2.out.cell' rfl
        have z5 : we.cell? ⟨w.heap.size + 1 + 1, 5, none⟩ = some (.bool Vw.zero.held) := L2.out.cell' rfl
        have z6 : we.cell? ⟨w.heap.size + 1 + 1, 6, none⟩ = some (.int .i64 Vw.zero.hp) := L2.out.cell' rfl
        have z7 : we.cell? ⟨w.heap.size + 1 + 1, 7, none⟩ = some (.int .i64 Vw.zero.hl) := L2.out.cell' rfl
        have z8 : we.cell? ⟨w.heap.size + 1 + 1, 8, none⟩ = some (.string Vw.zero.hk) := L2.out.cell' rfl
        have fy0 := L1.out.frozen 0
        have fz0 := L2.out.frozen 0
        have fy1 := L1.out.frozen 1
        have fz1 := L2.out.frozen 1
        have fy2 := L1.out.frozen 2
        have fz2 := L2.out.frozen 2
        have fy3 := L1.out.frozen 3
        have fz3 := L2.out.frozen 3
        have fy4 := L1.out.frozen 4
        have fz4 := L2.out.frozen 4
        have fy5 := L1.out.frozen 5
        have fz5 := L2.out.frozen 5
        have fy6 := L1.out.frozen 6
        have fz6 := L2.out.frozen 6
        have fy7 := L1.out.frozen 7
        have fz7 := L2.out.frozen 7
        have fy8 := L1.out.frozen 8
        have fz8 := L2.out.frozen 8
        go_region
        go_wp2_with fail
        clear a0 d0 y0 z0 fy0 fz0 a1 d1 y1 z1 fy1 fz1 a2 d2 y2 z2 fy2 fz2 a3 d3 y3 z3 fy3 fz3 a4 d4 y4 z4 fy4 fz4 a5 d5 y5 z5 fy5 fz5 a6 d6 y6 z6 fy6 fz6 a7 d7 y7 z7 fy7 fz7 a8 d8 y8 z8 fy8 fz8
        obtain ⟨qa, fa⟩ := box9 L1.out (.string V.low) (.string q.1) (.bool false) (.int .i64 V.right) (.slice (some ⟨b, off, none⟩) n c) (.bool false) (.int .i64 V.hp) (.int .i64 V.hl) (.string V.hk)
        obtain ⟨qb, fb⟩ := box9 (L2.out.fr fa (only_ne (by omega))) (.string q.1) (.string V.high) (.bool V.unb) (.int .i64 V.right) (.slice A5 (V.ents.length - n) (c - n)) (.bool false) (.int .i64 V.hp) (.int .i64 V.hl) (.string V.hk)
        have qa2 := (qa.fr fb (only_ne (by omega))).drew
        have qb2 := qb.drew
        have fin : Fr none_ w _ := ((FG.out.then_only fa (.inr (by omega))).then_only fb (.inr (by omega))).drew
        have r0 := qa2.cell' (i := 0) rfl
        have s0 := qb2.cell' (i := 0) rfl
        have r1 := qa2.cell' (i := 1) rfl
        have s1 := qb2.cell' (i := 1) rfl
        have r2 := qa2.cell' (i := 2) rfl
        have s2 := qb2.cell' (i := 2) rfl
        have r3 := qa2.cell' (i := 3) rfl
        have s3 := qb2.cell' (i := 3) rfl
        have r4 := qa2.cell' (i := 4) rfl
        have s4 := qb2.cell' (i := 4) rfl
        have r5 := qa2.cell' (i := 5) rfl
        have s5 := qb2.cell' (i := 5) rfl
        have r6 := qa2.cell' (i := 6) rfl
        have s6 := qb2.cell' (i := 6) rfl
        have r7 := qa2.cell' (i := 7) rfl
        have s7 := qb2.cell' (i := 7) rfl
        have r8 := qa2.cell' (i := 8) rfl
        have s8 := qb2.cell' (i := 8) rfl
        have HFIN := hid_ fin
        clear qa fa qb fb qa2 qb2 fin
        refine bodyPost_ret (v := .tuple #[vwV (leftV { V with held := false } n q.1 V.right) (.slice (some ⟨b, off, none⟩) n c), vwV (rightV { V with held := false } n q.1) (.slice A5 (V.ents.length - n) (c - n)), .nilIface]) ?_ rfl ?_
        · simp [results, Tryd.results73, go_sem, leftV, rightV, r0, s0, r1, s1, r2, s2, r3, s3, r4, s4, r5, s5, r6, s6, r7, s7, r8, s8]
        · obtain ⟨hn1, hn2, hn3⟩ := HN.out
          obtain ⟨j1, j2, j3, j4⟩ := HL.out
          have ev : ({ V with held := false } : Vw) = V := by rw [← HH.out]
          refine .inr (.inr ⟨q, some ⟨b, off, none⟩, A5, c, c - n, HH.out, hn3, by rw [← hn1]; exact hn2, ?_, ?_, ?_, HFIN.out⟩)
          · rw [ev, ← hn1, j2, j4]
          · rw [← hn1]; exact j1.keep HFIN.out
          · rw [← hn1]; exact j3.keep HFIN.out

    · have hd : (((V.ents.length : Int) / 2) == 0) = true := by simp; omega
      clear h
      go_enter Tryd.func73, Tryd.ntmps73
      go_wp2_with fail
      refine bodyPost_ret (v := .tuple #[vwV Vw.zero (.slice none 0 0), vwV Vw.zero (.slice none 0 0), errV 2]) ?_ rfl (.inr (.inl ⟨HH.out, by omega, rfl, by repeat (first | exact Fr.refl _ _ | apply Fr.alloc)⟩))
      simp [results, Tryd.results73, go_sem, Vw.zero]
end Go.Proofs.YtfoljojacakkeaaDoor

/- FaultJoins' walk. Written by gen_joins1.py. -/
import Derived.Test.YtcfddlfeldidjaaDoorJoin1
import Derived.Deep.DeepCutAuto
import Derived.Deep.RegionWith
namespace Go.Proofs.YtcfddlfeldidjaaDoor
open Go.RowKit Go.BigFrame Go.ChangeShapes Go.WideShapes
set_option maxRecDepth 100000
set_option linter.unusedVariables false

theorem join_fault (a b : Wy) : (Er.join a.er b.er).fault = match a.list.head? with | some x => some x | none => b.list.head? := by
  simp only [Er.fault, Wy.er, chE_fault]
  cases a.list.head? <;> rfl
theorem list_head {y : Wy} {p : ByteArray} (h : y.ps[0]? = some p) : y.list.head? = some (p, y.ss.getD 0 0) := by
  have := y.list_get h
  rw [List.head?_eq_getElem?]
  exact this
theorem list_none {y : Wy} (h : y.ps = []) : y.list.head? = none := by simp [Wy.list, h]
theorem join_hasA (a b : Wy) : (Er.join a.er b.er).has a.k = true := by
  show (a.er.has a.k || b.er.has a.k) = true
  rw [show a.er.has a.k = (a.k == a.k) from chE_has _ _ _]
  simp
theorem join_hasB (a b : Wy) : (Er.join a.er b.er).has b.k = true := by
  show (a.er.has b.k || b.er.has b.k) = true
  rw [show b.er.has b.k = (b.k == b.k) from chE_has _ _ _]
  simp
theorem join_first (a b : Wy) : (Er.join a.er b.er).first = a.k := chE_first _ _
theorem at_first (p : ByteArray) (s : Int) (E : Er) : (Er.at_ p s E).first = E.first := rfl
set_option maxHeartbeats 8000000 in
theorem joins_walk (a b : Wy) (place : ByteArray) (w : World) (ha : WyIn w a) (hb : WyIn w b) (hL : Laid w) :
    Calls Tryd.prog 6 #[.agg (wyA a), .agg (wyA b), .string place] w fun e w' => e = .returned (.bool true) ∧ Fr none_ w w' := by
  obtain ⟨w0, hw0⟩ : ∃ w0, w0 = (w.alloc (.cells (wyA a) 42)).alloc (.cells (wyA b) 42) := ⟨_, rfl⟩
  have f0 : Fr none_ w w0 := by rw [hw0]; exact ((Fr.refl none_ w).alloc _).alloc _
  have BX0 : Hid (Blk w0 w.heap.size 42 (wyA a)) := hid_ (by rw [hw0]; exact (Blk.new w _ _).alloc _)
  have BX1 : Hid (Blk w0 (w.heap.size + 1) 42 (wyA b)) := hid_ (by
    have := Blk.new (w.alloc (.cells (wyA a) 42)) 42 (wyA b)
    rw [World.size_alloc] at this
    rw [hw0]; exact this)
  have HA := hid_ (ha.keep f0)
  have HB := hid_ (hb.keep f0)
  have hca := ha.nc
  have hma := ha.cm
  have hcb := hb.nc
  have hmb := hb.cm
  have F0 := hid_ f0
  have HL := hid_ (hL.fr f0 id)
  have c00 : w0.cell? ⟨w.heap.size, 0, none⟩ = some (.slice a.A a.n a.c) := (BX0.out.fr (Fr.refl none_ w0) id).cell' rfl
  have c01 : w0.cell? ⟨w.heap.size, 1, none⟩ = some (.slice a.B a.m a.d) := (BX0.out.fr (Fr.refl none_ w0) id).cell' rfl
  have c02 : w0.cell? ⟨w.heap.size, 2, none⟩ = some (.int .i64 a.k) := (BX0.out.fr (Fr.refl none_ w0) id).cell' rfl
  have c10 : w0.cell? ⟨w.heap.size + 1, 0, none⟩ = some (.slice b.A b.n b.c) := (BX1.out.fr (Fr.refl none_ w0) id).cell' rfl
  have c11 : w0.cell? ⟨w.heap.size + 1, 1, none⟩ = some (.slice b.B b.m b.d) := (BX1.out.fr (Fr.refl none_ w0) id).cell' rfl
  have c12 : w0.cell? ⟨w.heap.size + 1, 2, none⟩ = some (.int .i64 b.k) := (BX1.out.fr (Fr.refl none_ w0) id).cell' rfl
  clear ha hb hL f0
  rw [hw0] at c00 c01 c02 c10 c11 c12
  go_enter Tryd.func6, Tryd.ntmps6
  go_wp2_with fail
  clear c00 c01 c02 c10 c11 c12
  change Calls _ _ _ ((w.alloc (.cells (wyA a) 42)).alloc (.cells (wyA b) 42)) _
  rw [← hw0]
  clear hw0
  refine (few1_ok a _ HA.out).mono ?_
  rintro e w1 ⟨fa, rfl, hfa, hf1⟩
  have HFA := hid_ hfa
  have F1 := hid_ hf1
  have c00 : w1.cell? ⟨w.heap.size, 0, none⟩ = some (.slice a.A a.n a.c) := (BX0.out.fr hf1 id).cell' rfl
  have c01 : w1.cell? ⟨w.heap.size, 1, none⟩ = some (.slice a.B a.m a.d) := (BX0.out.fr hf1 id).cell' rfl
  have c02 : w1.cell? ⟨w.heap.size, 2, none⟩ = some (.int .i64 a.k) := (BX0.out.fr hf1 id).cell' rfl
  have c10 : w1.cell? ⟨w.heap.size + 1, 0, none⟩ = some (.slice b.A b.n b.c) := (BX1.out.fr hf1 id).cell' rfl
  have c11 : w1.cell? ⟨w.heap.size + 1, 1, none⟩ = some (.slice b.B b.m b.d) := (BX1.out.fr hf1 id).cell' rfl
  have c12 : w1.cell? ⟨w.heap.size + 1, 2, none⟩ = some (.int .i64 b.k) := (BX1.out.fr hf1 id).cell' rfl
  clear hfa hf1
  cases fa with
  | false =>
    go_wp2_with fail
    refine (awake1 _ (HL.out.fr F1.out id)).mono ?_
    rintro e w9 ⟨rfl, hf9⟩
    have F9 := hid_ hf9
    clear hf9
    go_wp2_with fail
    go_ret
    exact ⟨rfl, (F0.out.then_none F1.out).then_none F9.out⟩
  | true =>
    go_wp2_with fail
    refine (few1_ok b _ (HB.out.keep F1.out)).mono ?_
    rintro e w2 ⟨fb, rfl, hfb, hf2⟩
    have HFB := hid_ hfb
    have F2 := hid_ (F1.out.then_none hf2)
    clear hfb hf2 c00 c01 c02 c10 c11 c12
    have c00 : w2.cell? ⟨w.heap.size, 0, none⟩ = some (.slice a.A a.n a.c) := (BX0.out.fr F2.out id).cell' rfl
    have c01 : w2.cell? ⟨w.heap.size, 1, none⟩ = some (.slice a.B a.m a.d) := (BX0.out.fr F2.out id).cell' rfl
    have c02 : w2.cell? ⟨w.heap.size, 2, none⟩ = some (.int .i64 a.k) := (BX0.out.fr F2.out id).cell' rfl
    have c10 : w2.cell? ⟨w.heap.size + 1, 0, none⟩ = some (.slice b.A b.n b.c) := (BX1.out.fr F2.out id).cell' rfl
    have c11 : w2.cell? ⟨w.heap.size + 1, 1, none⟩ = some (.slice b.B b.m b.d) := (BX1.out.fr F2.out id).cell' rfl
    have c12 : w2.cell? ⟨w.heap.size + 1, 2, none⟩ = some (.int .i64 b.k) := (BX1.out.fr F2.out id).cell' rfl
    cases fb with
    | false =>
      go_wp2_with fail
      refine (awake1 _ (HL.out.fr F2.out id)).mono ?_
      rintro e w9 ⟨rfl, hf9⟩
      have F9 := hid_ hf9
      clear hf9
      go_wp2_with fail
      go_ret
      exact ⟨rfl, (F0.out.then_none F2.out).then_none F9.out⟩
    | true =>
      have hn100 : a.n ≤ 100 := HFA.out (by first | rfl | trivial)
      have hm100 : b.n ≤ 100 := HFB.out (by first | rfl | trivial)
      go_wp2_with fail
      go_cut [7, 8] (fun x z wq => ∃ t1 x1 t2 x2, x = .iface t1 x1 ∧ z = .iface t2 x2 ∧ ErAt wq a.er x ∧ ErAt wq b.er z ∧ Fr none_ w0 wq)
      case first =>
        go_region_with (go_at_call 18; first | ((with_reducible refine (made_ok a w2.drew (HA.out.keep F2.out.drew)).mono ?_); rintro e wA ⟨vA, rfl, hEA, hfA⟩; obtain ⟨tA, xA, rfl⟩ := hEA.iface; have RA : Hid (ErAt wA a.er (.iface tA xA) ∧ Fr none_ w0 wA) := hid_ ⟨hEA, F2.out.drew.then_none hfA⟩; have c10 : wA.cell? ⟨w.heap.size + 1, 0, none⟩ = some (.slice b.A b.n b.c) := (BX1.out.fr RA.out.2 id).cell' rfl; have c11 : wA.cell? ⟨w.heap.size + 1, 1, none⟩ = some (.slice b.B b.m b.d) := (BX1.out.fr RA.out.2 id).cell' rfl; have c12 : wA.cell? ⟨w.heap.size + 1, 2, none⟩ = some (.int .i64 b.k) := (BX1.out.fr RA.out.2 id).cell' rfl; clear hEA hfA) | ((with_reducible refine (made_ok a wB (HA.out.keep RB.out.2)).mono ?_); rintro e wA ⟨vA, rfl, hEA, hfA⟩; obtain ⟨tA, xA, rfl⟩ := hEA.iface; have RA : Hid (ErAt wA a.er (.iface tA xA) ∧ Fr none_ w0 wA) := hid_ ⟨hEA, RB.out.2.then_none hfA⟩; have QB := hid_ (RB.out.1.keep hfA);  clear hEA hfA) | ((with_reducible refine (made_ok b w2.drew (HB.out.keep F2.out.drew)).mono ?_); rintro e wB ⟨vB, rfl, hEB, hfB⟩; obtain ⟨tB, xB, rfl⟩ := hEB.iface; have RB : Hid (ErAt wB b.er (.iface tB xB) ∧ Fr none_ w0 wB) := hid_ ⟨hEB, F2.out.drew.then_none hfB⟩; have c00 : wB.cell? ⟨w.heap.size, 0, none⟩ = some (.slice a.A a.n a.c) := (BX0.out.fr RB.out.2 id).cell' rfl; have c01 : wB.cell? ⟨w.heap.size, 1, none⟩ = some (.slice a.B a.m a.d) := (BX0.out.fr RB.out.2 id).cell' rfl; have c02 : wB.cell? ⟨w.heap.size, 2, none⟩ = some (.int .i64 a.k) := (BX0.out.fr RB.out.2 id).cell' rfl; clear hEB hfB) | ((with_reducible refine (made_ok b wA (HB.out.keep RA.out.2)).mono ?_); rintro e wB ⟨vB, rfl, hEB, hfB⟩; obtain ⟨tB, xB, rfl⟩ := hEB.iface; have RB : Hid (ErAt wB b.er (.iface tB xB) ∧ Fr none_ w0 wB) := hid_ ⟨hEB, RA.out.2.then_none hfB⟩; have QA := hid_ (RA.out.1.keep hfB);  clear hEB hfB))
        all_goals
          go_wp2_with fail
          go_meet
          case rel => first | exact ⟨tA, xA, tB, xB, rfl, rfl, QA.out, RB.out.1, RB.out.2⟩ | exact ⟨tA, xA, tB, xB, rfl, rfl, RA.out.1, QB.out, RA.out.2⟩
      case rest =>
        obtain ⟨t1, x1, t2, x2, rfl, rfl, hEa, hEb, hF3⟩ := hcut
        have EA := hid_ hEa
        have EB := hid_ hEb
        have F3 := hid_ hF3
        clear hEa hEb hF3 c00 c01 c02 c10 c11 c12
        go_wp2_with fail
        have hb2 : Blk (wc.alloc (.cells #[.iface t1 x1, .iface t2 x2] 31)) wc.heap.size 31 #[.iface t1 x1, .iface t2 x2] := Blk.new wc _ _
        refine (join1_ok wc.heap.size t1 t2 x1 x2 _ (hb2.cell' rfl) (hb2.cell' rfl) (by simp)).mono ?_
        rintro e w4 hj
        have fj : Fr none_ wc w4 := ((Fr.refl none_ wc).alloc _).then_none hj.2.2.2
        obtain ⟨jb, rfl, EJ⟩ : ∃ jb, e = .returned (joinV jb) ∧ Hid (ErAt w4 (.join a.er b.er) (joinV jb)) := ⟨_, hj.1, hid_ (hj.er (EA.out.keep ((Fr.refl none_ wc).alloc _)) (EB.out.keep ((Fr.refl none_ wc).alloc _)))⟩
        have F4 := hid_ (F3.out.then_none fj)
        clear hb2 hj fj
        go_wp2_with fail
        refine (at_any place 1 _ _ _).mono ?_
        rintro e w5 ho
        obtain ⟨ob, rfl, OB, F45, EO⟩ : ∃ ob, e = .returned (fltV ob) ∧ Hid (Blk w5 ob 52 #[.string place, .int .i64 1, joinV jb]) ∧ Hid (Fr none_ w4 w5) ∧ Hid (ErAt w5 (.at_ place 1 (.join a.er b.er)) (fltV ob)) := ⟨_, ho.1, hid_ ho.2.1, hid_ ho.2.2, hid_ (ho.er EJ.out)⟩
        have F5 := hid_ (F4.out.then_none F45.out)
        clear ho
        go_wp2_with fail
        refine (placeE _ _ _ (EJ.out.keep F45.out) (HL.out.fr F5.out id)).mono ?_
        rintro e w6 ⟨rfl, hf6⟩
        have F56 := hid_ hf6
        have F6 := hid_ (F5.out.then_none hf6)
        clear hf6
        have c00 : w6.cell? ⟨w.heap.size, 0, none⟩ = some (.slice a.A a.n a.c) := (BX0.out.fr F6.out id).cell' rfl
        have c01 : w6.cell? ⟨w.heap.size, 1, none⟩ = some (.slice a.B a.m a.d) := (BX0.out.fr F6.out id).cell' rfl
        have c02 : w6.cell? ⟨w.heap.size, 2, none⟩ = some (.int .i64 a.k) := (BX0.out.fr F6.out id).cell' rfl
        have c10 : w6.cell? ⟨w.heap.size + 1, 0, none⟩ = some (.slice b.A b.n b.c) := (BX1.out.fr F6.out id).cell' rfl
        have c11 : w6.cell? ⟨w.heap.size + 1, 1, none⟩ = some (.slice b.B b.m b.d) := (BX1.out.fr F6.out id).cell' rfl
        have c12 : w6.cell? ⟨w.heap.size + 1, 2, none⟩ = some (.int .i64 b.k) := (BX1.out.fr F6.out id).cell' rfl
        by_cases hna : 0 < a.n
        · skip
          have hd1 : decide ((0 : Int) < (a.n : Int)) = true := by simp; omega
          have hi1 : (0 : Int) < (a.n : Int) := by omega
          obtain ⟨p0, hp0⟩ : ∃ p0, a.ps[0]? = some p0 := ⟨_, List.getElem?_eq_getElem (by have := HA.out.p.1; omega)⟩
          have hft : (Er.join a.er b.er).fault = some (p0, a.ss.getD 0 0) := by rw [join_fault, list_head hp0]
          obtain ⟨pb, po, hpA, hpb, -, q0⟩ := (HA.out.keep F6.out).p.at hp0
          rw [Nat.add_zero] at q0
          rw [hpA] at c00
          rw [hft]
          simp only [placeV]
          have hs1 : decide ((0 : Int) < (a.n : Int) + (b.n : Int)) = true := by simp; omega
          clear hft hp0 hpA
          go_wp2_with fail
          refine (trail_one place 1 ob jb _ (OB.out.fr F56.out id)).mono ?_
          rintro e w7 ⟨tg, tc, rfl, htg, hf7⟩
          have F7 := hid_ (F6.out.then_none hf7)
          have F57 := hid_ (F56.out.then_none hf7)
          have tg0 : ∀ x : Wx w7, x.to.cell? ⟨tg, 0, none⟩ = some (.string place) := fun x => x.cell htg
          have d00 : ∀ x : Wx w7, x.to.cell? ⟨w.heap.size, 0, none⟩ = some (.slice a.A a.n a.c) := fun x => x.cell ((BX0.out.fr F7.out id).cell' rfl)
          have d01 : ∀ x : Wx w7, x.to.cell? ⟨w.heap.size, 1, none⟩ = some (.slice a.B a.m a.d) := fun x => x.cell ((BX0.out.fr F7.out id).cell' rfl)
          have d02 : ∀ x : Wx w7, x.to.cell? ⟨w.heap.size, 2, none⟩ = some (.int .i64 a.k) := fun x => x.cell ((BX0.out.fr F7.out id).cell' rfl)
          have d10 : ∀ x : Wx w7, x.to.cell? ⟨w.heap.size + 1, 0, none⟩ = some (.slice b.A b.n b.c) := fun x => x.cell ((BX1.out.fr F7.out id).cell' rfl)
          have d11 : ∀ x : Wx w7, x.to.cell? ⟨w.heap.size + 1, 1, none⟩ = some (.slice b.B b.m b.d) := fun x => x.cell ((BX1.out.fr F7.out id).cell' rfl)
          have d12 : ∀ x : Wx w7, x.to.cell? ⟨w.heap.size + 1, 2, none⟩ = some (.int .i64 b.k) := fun x => x.cell ((BX1.out.fr F7.out id).cell' rfl)
          have EJ7 := hid_ (EJ.out.keep (F45.out.then_none F57.out))
          have EO7 := hid_ (EO.out.keep F57.out)
          have HL7 := hid_ (HL.out.fr F7.out id)
          clear htg hf7 c00 c01 c02 c10 c11 c12 q0
          have X1 : Hid (∀ x : Wx w7, Calls Tryd.prog 19 #[joinV jb, .int .i64 a.k] x.to fun e w' => e = .returned (.bool true) ∧ Fr none_ x.to w') := hid_ (fun x => (isE a.k _ _ _ (EJ7.out.keep x.fr)).mono fun e w' h => ⟨by rw [h.1, join_hasA], by rw [← h.2]; exact Fr.refl _ _⟩)
          have X2 : Hid (∀ x : Wx w7, Calls Tryd.prog 19 #[joinV jb, .int .i64 b.k] x.to fun e w' => e = .returned (.bool true) ∧ Fr none_ x.to w') := hid_ (fun x => (isE b.k _ _ _ (EJ7.out.keep x.fr)).mono fun e w' h => ⟨by rw [h.1, join_hasB], by rw [← h.2]; exact Fr.refl _ _⟩)
          have X3 : Hid (∀ x : Wx w7, Calls Tryd.prog 16 #[joinV jb] x.to fun e w' => e = .returned (.int .i64 a.k) ∧ Fr none_ x.to w') := hid_ (fun x => (codeE _ _ _ (EJ7.out.keep x.fr) (HL7.out.fr x.fr id)).mono fun e w' h => ⟨by rw [h.1, join_first], h.2⟩)
          have X4 : Hid (∀ x : Wx w7, Calls Tryd.prog 16 #[fltV ob] x.to fun e w' => e = .returned (.int .i64 a.k) ∧ Fr none_ x.to w') := hid_ (fun x => (codeE _ _ _ (EO7.out.keep x.fr) (HL7.out.fr x.fr id)).mono fun e w' h => ⟨by rw [h.1, at_first, join_first], h.2⟩)
          have X5 : Hid (∀ x : Wx w7, Calls Tryd.prog 20 #[joinV jb] x.to fun e w' => e = .returned (.slice none 0 0) ∧ Fr none_ x.to w') := hid_ (fun x => trail_join jb _)
          have X6 : Hid (∀ x : Wx w7, Calls Tryd.prog 11 #[] x.to fun e w' => e = .returned (.bool true) ∧ Fr none_ x.to w') := hid_ (fun x => awake1 _ (HL7.out.fr x.fr id))
          go_wp2_with fail
          refine wp_region_quiet_x (by kernel_rfl) (by kernel_rfl) ?_
          repeat (first | go_big_quiet_step (((first | (go_at_call 19; first | exact Calls.quiet_x (X1.out _) | exact Calls.quiet_x (X2.out _)) | (go_at_call 16; first | exact Calls.quiet_x (X3.out _) | exact Calls.quiet_x (X4.out _)) | (go_at_call 20; exact Calls.quiet_x (X5.out _)) | (go_at_call 11; exact Calls.quiet_x (X6.out _))))) | quiet_step (((first | (go_at_call 19; first | exact Calls.quiet_x (X1.out _) | exact Calls.quiet_x (X2.out _)) | (go_at_call 16; first | exact Calls.quiet_x (X3.out _) | exact Calls.quiet_x (X4.out _)) | (go_at_call 20; exact Calls.quiet_x (X5.out _)) | (go_at_call 11; exact Calls.quiet_x (X6.out _))))))
          refine wpQuiet_nil ?_
          intro _ hw'
          obtain ⟨xq, hw''⟩ := hw'
          subst hw''
          have FX := hid_ xq.fr
          go_wp2_with fail
          go_ret
          exact ⟨rfl, (F0.out.then_none F7.out).then_none FX.out⟩
        · by_cases hnb : 0 < b.n
          · skip
            have hd1 : decide ((0 : Int) < (a.n : Int)) = false := by simp; omega
            have hd2 : decide ((0 : Int) < (b.n : Int)) = true := by simp; omega
            have hi1 : (0 : Int) < (b.n : Int) := by omega
            obtain ⟨p0, hp0⟩ : ∃ p0, b.ps[0]? = some p0 := ⟨_, List.getElem?_eq_getElem (by have := HB.out.p.1; omega)⟩
            have hna : a.ps = [] := List.eq_nil_of_length_eq_zero (by have := HA.out.p.1; omega)
            have hft : (Er.join a.er b.er).fault = some (p0, b.ss.getD 0 0) := by rw [join_fault, list_none hna, list_head hp0]
            obtain ⟨pb, po, hpA, hpb, -, q0⟩ := (HB.out.keep F6.out).p.at hp0
            rw [Nat.add_zero] at q0
            rw [hpA] at c10
            rw [hft]
            simp only [placeV]
            have hs1 : decide ((0 : Int) < (a.n : Int) + (b.n : Int)) = true := by simp; omega
            clear hft hp0 hpA hna
            go_wp2_with fail
            refine (trail_one place 1 ob jb _ (OB.out.fr F56.out id)).mono ?_
            rintro e w7 ⟨tg, tc, rfl, htg, hf7⟩
            have F7 := hid_ (F6.out.then_none hf7)
            have F57 := hid_ (F56.out.then_none hf7)
            have tg0 : ∀ x : Wx w7, x.to.cell? ⟨tg, 0, none⟩ = some (.string place) := fun x => x.cell htg
            have d00 : ∀ x : Wx w7, x.to.cell? ⟨w.heap.size, 0, none⟩ = some (.slice a.A a.n a.c) := fun x => x.cell ((BX0.out.fr F7.out id).cell' rfl)
            have d01 : ∀ x : Wx w7, x.to.cell? ⟨w.heap.size, 1, none⟩ = some (.slice a.B a.m a.d) := fun x => x.cell ((BX0.out.fr F7.out id).cell' rfl)
            have d02 : ∀ x : Wx w7, x.to.cell? ⟨w.heap.size, 2, none⟩ = some (.int .i64 a.k) := fun x => x.cell ((BX0.out.fr F7.out id).cell' rfl)
            have d10 : ∀ x : Wx w7, x.to.cell? ⟨w.heap.size + 1, 0, none⟩ = some (.slice b.A b.n b.c) := fun x => x.cell ((BX1.out.fr F7.out id).cell' rfl)
            have d11 : ∀ x : Wx w7, x.to.cell? ⟨w.heap.size + 1, 1, none⟩ = some (.slice b.B b.m b.d) := fun x => x.cell ((BX1.out.fr F7.out id).cell' rfl)
            have d12 : ∀ x : Wx w7, x.to.cell? ⟨w.heap.size + 1, 2, none⟩ = some (.int .i64 b.k) := fun x => x.cell ((BX1.out.fr F7.out id).cell' rfl)
            have EJ7 := hid_ (EJ.out.keep (F45.out.then_none F57.out))
            have EO7 := hid_ (EO.out.keep F57.out)
            have HL7 := hid_ (HL.out.fr F7.out id)
            clear htg hf7 c00 c01 c02 c10 c11 c12 q0
            have X1 : Hid (∀ x : Wx w7, Calls Tryd.prog 19 #[joinV jb, .int .i64 a.k] x.to fun e w' => e = .returned (.bool true) ∧ Fr none_ x.to w') := hid_ (fun x => (isE a.k _ _ _ (EJ7.out.keep x.fr)).mono fun e w' h => ⟨by rw [h.1, join_hasA], by rw [← h.2]; exact Fr.refl _ _⟩)
            have X2 : Hid (∀ x : Wx w7, Calls Tryd.prog 19 #[joinV jb, .int .i64 b.k] x.to fun e w' => e = .returned (.bool true) ∧ Fr none_ x.to w') := hid_ (fun x => (isE b.k _ _ _ (EJ7.out.keep x.fr)).mono fun e w' h => ⟨by rw [h.1, join_hasB], by rw [← h.2]; exact Fr.refl _ _⟩)
            have X3 : Hid (∀ x : Wx w7, Calls Tryd.prog 16 #[joinV jb] x.to fun e w' => e = .returned (.int .i64 a.k) ∧ Fr none_ x.to w') := hid_ (fun x => (codeE _ _ _ (EJ7.out.keep x.fr) (HL7.out.fr x.fr id)).mono fun e w' h => ⟨by rw [h.1, join_first], h.2⟩)
            have X4 : Hid (∀ x : Wx w7, Calls Tryd.prog 16 #[fltV ob] x.to fun e w' => e = .returned (.int .i64 a.k) ∧ Fr none_ x.to w') := hid_ (fun x => (codeE _ _ _ (EO7.out.keep x.fr) (HL7.out.fr x.fr id)).mono fun e w' h => ⟨by rw [h.1, at_first, join_first], h.2⟩)
            have X5 : Hid (∀ x : Wx w7, Calls Tryd.prog 20 #[joinV jb] x.to fun e w' => e = .returned (.slice none 0 0) ∧ Fr none_ x.to w') := hid_ (fun x => trail_join jb _)
            have X6 : Hid (∀ x : Wx w7, Calls Tryd.prog 11 #[] x.to fun e w' => e = .returned (.bool true) ∧ Fr none_ x.to w') := hid_ (fun x => awake1 _ (HL7.out.fr x.fr id))
            go_wp2_with fail
            refine wp_region_quiet_x (by kernel_rfl) (by kernel_rfl) ?_
            repeat (first | go_big_quiet_step (((first | (go_at_call 19; first | exact Calls.quiet_x (X1.out _) | exact Calls.quiet_x (X2.out _)) | (go_at_call 16; first | exact Calls.quiet_x (X3.out _) | exact Calls.quiet_x (X4.out _)) | (go_at_call 20; exact Calls.quiet_x (X5.out _)) | (go_at_call 11; exact Calls.quiet_x (X6.out _))))) | quiet_step (((first | (go_at_call 19; first | exact Calls.quiet_x (X1.out _) | exact Calls.quiet_x (X2.out _)) | (go_at_call 16; first | exact Calls.quiet_x (X3.out _) | exact Calls.quiet_x (X4.out _)) | (go_at_call 20; exact Calls.quiet_x (X5.out _)) | (go_at_call 11; exact Calls.quiet_x (X6.out _))))))
            refine wpQuiet_nil ?_
            intro _ hw'
            obtain ⟨xq, hw''⟩ := hw'
            subst hw''
            have FX := hid_ xq.fr
            go_wp2_with fail
            go_ret
            exact ⟨rfl, (F0.out.then_none F7.out).then_none FX.out⟩
          · skip
            have hd1 : decide ((0 : Int) < (a.n : Int)) = false := by simp; omega
            have hd2 : decide ((0 : Int) < (b.n : Int)) = false := by simp; omega
            have hna : a.ps = [] := List.eq_nil_of_length_eq_zero (by have := HA.out.p.1; omega)
            have hnb : b.ps = [] := List.eq_nil_of_length_eq_zero (by have := HB.out.p.1; omega)
            have hft : (Er.join a.er b.er).fault = none := by rw [join_fault, list_none hna, list_none hnb]
            rw [hft]
            simp only [placeV]
            have hs1 : decide ((0 : Int) < (a.n : Int) + (b.n : Int)) = false := by simp; omega
            clear hft hna hnb
            go_wp2_with fail
            refine (trail_one place 1 ob jb _ (OB.out.fr F56.out id)).mono ?_
            rintro e w7 ⟨tg, tc, rfl, htg, hf7⟩
            have F7 := hid_ (F6.out.then_none hf7)
            have F57 := hid_ (F56.out.then_none hf7)
            have tg0 : ∀ x : Wx w7, x.to.cell? ⟨tg, 0, none⟩ = some (.string place) := fun x => x.cell htg
            have d00 : ∀ x : Wx w7, x.to.cell? ⟨w.heap.size, 0, none⟩ = some (.slice a.A a.n a.c) := fun x => x.cell ((BX0.out.fr F7.out id).cell' rfl)
            have d01 : ∀ x : Wx w7, x.to.cell? ⟨w.heap.size, 1, none⟩ = some (.slice a.B a.m a.d) := fun x => x.cell ((BX0.out.fr F7.out id).cell' rfl)
            have d02 : ∀ x : Wx w7, x.to.cell? ⟨w.heap.size, 2, none⟩ = some (.int .i64 a.k) := fun x => x.cell ((BX0.out.fr F7.out id).cell' rfl)
            have d10 : ∀ x : Wx w7, x.to.cell? ⟨w.heap.size + 1, 0, none⟩ = some (.slice b.A b.n b.c) := fun x => x.cell ((BX1.out.fr F7.out id).cell' rfl)
            have d11 : ∀ x : Wx w7, x.to.cell? ⟨w.heap.size + 1, 1, none⟩ = some (.slice b.B b.m b.d) := fun x => x.cell ((BX1.out.fr F7.out id).cell' rfl)
            have d12 : ∀ x : Wx w7, x.to.cell? ⟨w.heap.size + 1, 2, none⟩ = some (.int .i64 b.k) := fun x => x.cell ((BX1.out.fr F7.out id).cell' rfl)
            have EJ7 := hid_ (EJ.out.keep (F45.out.then_none F57.out))
            have EO7 := hid_ (EO.out.keep F57.out)
            have HL7 := hid_ (HL.out.fr F7.out id)
            clear htg hf7 c00 c01 c02 c10 c11 c12
            have X1 : Hid (∀ x : Wx w7, Calls Tryd.prog 19 #[joinV jb, .int .i64 a.k] x.to fun e w' => e = .returned (.bool true) ∧ Fr none_ x.to w') := hid_ (fun x => (isE a.k _ _ _ (EJ7.out.keep x.fr)).mono fun e w' h => ⟨by rw [h.1, join_hasA], by rw [← h.2]; exact Fr.refl _ _⟩)
            have X2 : Hid (∀ x : Wx w7, Calls Tryd.prog 19 #[joinV jb, .int .i64 b.k] x.to fun e w' => e = .returned (.bool true) ∧ Fr none_ x.to w') := hid_ (fun x => (isE b.k _ _ _ (EJ7.out.keep x.fr)).mono fun e w' h => ⟨by rw [h.1, join_hasB], by rw [← h.2]; exact Fr.refl _ _⟩)
            have X3 : Hid (∀ x : Wx w7, Calls Tryd.prog 16 #[joinV jb] x.to fun e w' => e = .returned (.int .i64 a.k) ∧ Fr none_ x.to w') := hid_ (fun x => (codeE _ _ _ (EJ7.out.keep x.fr) (HL7.out.fr x.fr id)).mono fun e w' h => ⟨by rw [h.1, join_first], h.2⟩)
            have X4 : Hid (∀ x : Wx w7, Calls Tryd.prog 16 #[fltV ob] x.to fun e w' => e = .returned (.int .i64 a.k) ∧ Fr none_ x.to w') := hid_ (fun x => (codeE _ _ _ (EO7.out.keep x.fr) (HL7.out.fr x.fr id)).mono fun e w' h => ⟨by rw [h.1, at_first, join_first], h.2⟩)
            have X5 : Hid (∀ x : Wx w7, Calls Tryd.prog 20 #[joinV jb] x.to fun e w' => e = .returned (.slice none 0 0) ∧ Fr none_ x.to w') := hid_ (fun x => trail_join jb _)
            have X6 : Hid (∀ x : Wx w7, Calls Tryd.prog 11 #[] x.to fun e w' => e = .returned (.bool true) ∧ Fr none_ x.to w') := hid_ (fun x => awake1 _ (HL7.out.fr x.fr id))
            go_wp2_with fail
            refine wp_region_quiet_x (by kernel_rfl) (by kernel_rfl) ?_
            repeat (first | go_big_quiet_step (((first | (go_at_call 19; first | exact Calls.quiet_x (X1.out _) | exact Calls.quiet_x (X2.out _)) | (go_at_call 16; first | exact Calls.quiet_x (X3.out _) | exact Calls.quiet_x (X4.out _)) | (go_at_call 20; exact Calls.quiet_x (X5.out _)) | (go_at_call 11; exact Calls.quiet_x (X6.out _))))) | quiet_step (((first | (go_at_call 19; first | exact Calls.quiet_x (X1.out _) | exact Calls.quiet_x (X2.out _)) | (go_at_call 16; first | exact Calls.quiet_x (X3.out _) | exact Calls.quiet_x (X4.out _)) | (go_at_call 20; exact Calls.quiet_x (X5.out _)) | (go_at_call 11; exact Calls.quiet_x (X6.out _))))))
            refine wpQuiet_nil ?_
            intro _ hw'
            obtain ⟨xq, hw''⟩ := hw'
            subst hw''
            have FX := hid_ xq.fr
            go_wp2_with fail
            go_ret
            exact ⟨rfl, (F0.out.then_none F7.out).then_none FX.out⟩
theorem joins_walk_i {H : Type} {enc : TypeId × Value → H} (v0 v1 : Value) (k : Int) (u0 u1 : Value) (l : Int) (place : ByteArray) (w : World) (h0 : Conf enc Tryd.prog w (.slice 39) v0) (h1 : Conf enc Tryd.prog w (.slice 40) v1)
    (g0 : Conf enc Tryd.prog w (.slice 39) u0) (g1 : Conf enc Tryd.prog w (.slice 40) u1) (hL : Laid w) :
    Calls Tryd.prog 6 #[.agg #[v0, v1, .int .i64 k], .agg #[u0, u1, .int .i64 l], .string place] w fun e w' => e = .returned (.bool true) ∧ Fr none_ w w' := by
  obtain ⟨y, rfl, rfl, rfl, h⟩ := way_of k h0 h1
  obtain ⟨z, rfl, rfl, rfl, g⟩ := way_of l g0 g1
  exact joins_walk y z place w h g hL
end Go.Proofs.YtcfddlfeldidjaaDoor

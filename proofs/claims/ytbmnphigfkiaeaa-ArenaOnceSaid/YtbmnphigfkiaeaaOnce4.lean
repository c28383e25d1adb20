/- ArenaOnce's walk. Written by gen_once4.py. -/
import Derived.Test.YtbmnphigfkiaeaaRefs4
import Derived.Deep.DeepCutAuto
namespace Go.Proofs.Ytbmnphigfkiaeaa
open Go.RowKit Go.ChangeShapes Go.WideShapes
open Go.Maps (Keyed int_keyed keyOf_int_mk)
set_option maxRecDepth 100000
set_option linter.unusedVariables false

structure OnceM (w : World) (a G M1 M2 N : Nat) (last : Int) (k : Nat) (v : Value) (wr : World) (ss : List Sl) (S T TL : List Rf) (DS DT : IntMap) : Prop where
  hN : ss.length = N
  told : wr.ownsRow w.heap.size 27 2 v TL.length (rfFlat TL)
  tk : TL.length ≤ k
  inv : OnceI ss S T
  ms : MarksR DS S
  mt : MarksR DT T
  rs : RMap wr M1 k DS
  rt : RMap wr M2 k DT
  ar : Ar wr a G last ss
  fr : Fr none_ w wr
theorem OnceM.keep {w : World} {a G M1 M2 N : Nat} {last : Int} {k : Nat} {v : Value} {wr w' : World} {ss : List Sl} {S T TL : List Rf} {DS DT : IntMap} (h : OnceM w a G M1 M2 N last k v wr ss S T TL DS DT) (hf : Fr none_ wr w') : OnceM w a G M1 M2 N last k v w' ss S T TL DS DT :=
  ⟨h.hN, own_none h.told hf, h.tk, h.inv, h.ms, h.mt, rmap_fr h.rs hf id, rmap_fr h.rt hf id, h.ar.keep hf, h.fr.then_none hf⟩
theorem OnceM.up {w : World} {a G M1 M2 N : Nat} {last : Int} {k : Nat} {v : Value} {wr : World} {ss : List Sl} {S T TL : List Rf} {DS DT : IntMap} (h : OnceM w a G M1 M2 N last k v wr ss S T TL DS DT) : OnceM w a G M1 M2 N last (k + 1) v wr ss S T TL DS DT :=
  ⟨h.hN, h.told, Nat.le_succ_of_le h.tk, h.inv, h.ms, h.mt, h.rs.mono (Nat.le_succ _), h.rt.mono (Nat.le_succ _), h.ar, h.fr⟩
def OnceE (w : World) (a G M1 M2 N : Nat) (last : Int) (k : Nat) (v : Value) (wr : World) : Prop := ∃ (ss : List Sl) (S T TL : List Rf) (DS DT : IntMap), OnceM w a G M1 M2 N last k v wr ss S T TL DS DT
def Rg1 (wc : World) (M1 M3 r n : Nat) (DS : IntMap) (S : List Rf) (wx : World) : Prop :=
  ∃ (left : Lit → Bool) (cnt m : Nat) (Dm : IntMap) (U : List Int), RRange wx M1 r n DS left cnt ∧ MetU S left U ∧ Marks Dm U ∧ wx.ownsMap Try.prog 3 (plainElem (H := Unit) Try.prog 3) M3 m Dm ∧ m + cnt ≤ 60 ∧ Fr none_ wc wx
def Rg1' (wc : World) (M1 M3 r n : Nat) (DS : IntMap) (S : List Rf) (cnt : Nat) (wx : World) : Prop :=
  ∃ (left : Lit → Bool) (m : Nat) (Dm : IntMap) (U : List Int), RRange wx M1 r n DS left cnt ∧ MetU S left U ∧ Marks Dm U ∧ wx.ownsMap Try.prog 3 (plainElem (H := Unit) Try.prog 3) M3 m Dm ∧ m + cnt ≤ 60 ∧ Fr none_ wc wx
theorem Rg1'.to {wc : World} {M1 M3 r n : Nat} {DS : IntMap} {S : List Rf} {cnt : Nat} {wx : World} (h : Rg1' wc M1 M3 r n DS S cnt wx) : Rg1 wc M1 M3 r n DS S wx := by
  obtain ⟨a, b, c, d, e⟩ := h
  exact ⟨a, cnt, b, c, d, e⟩
theorem Rg1'.left_eq {wc : World} {M1 M3 r n : Nat} {DS : IntMap} {S : List Rf} {cnt : Nat} {wx : World} (h : Rg1' wc M1 M3 r n DS S cnt wx) : wx.rangeLeft M1 r = cnt := by
  obtain ⟨a, b, c, d, e, _⟩ := h
  exact e.left_eq
def Rg2 (wx : World) (M2 r n : Nat) (DT : IntMap) (wy : World) : Prop := ∃ (left : Lit → Bool) (cnt : Nat), RRange wy M2 r n DT left cnt ∧ Fr none_ wx wy
def OnceS (w : World) (a G M1 M2 N n : Nat) (last : Int) (v i : Value) (wr : World) : Prop :=
  ∃ k : Nat, k ≤ n ∧ i = .int .i64 k ∧ OnceE w a G M1 M2 N last k v wr
set_option maxHeartbeats 4000000 in
theorem once4_walk (slots last : Int) (A : Option Addr) (n cap : Nat) (L : List Dn) (w : World) (h : DnReads w A n L) (hm : n ≤ maxLen) :
    Calls Try.prog 4 #[.int .i64 slots, .int .i64 last, .slice A n cap] w fun e w' => e = .returned (.bool true) ∧ Fr none_ w w' := by
  have H := hid_ h
  have hln := h.1
  have HM := hid_ hm
  have hmm := @run_makeMap Try.prog
  clear h hm
  go_enter Try.func4, Try.ntmps4
  go_wp2_with fail
  refine (few4_ok slots A n cap L w H.out HM.out).mono ?_
  rintro e w1 ⟨b, rfl, hb, hf1⟩
  have F1 := hid_ hf1
  clear hf1
  cases b with
  | false =>
    go_wp2_with fail
    refine (awake4 _).mono ?_
    rintro e w2 ⟨rfl, hf2⟩
    go_wp2
    go_ret
    exact ⟨rfl, F1.out.then_none hf2⟩
  | true =>
  obtain ⟨q1, q2, hq⟩ := hb rfl
  have HQ := hid_ hq
  clear hq hb
  by_cases hno : slots < 1 ∨ 4096 < slots ∨ last < 1 ∨ 1099511627776 < last
  · have HNO := hid_ hno
    clear hno q2
    go_wp2_with fail
    refine (arNew_no slots last _ HNO.out).mono ?_
    rintro e w2 ⟨rfl, rfl⟩
    go_wp2_with fail
    refine (awake4 _).mono ?_
    rintro e w2 ⟨rfl, hf2⟩
    go_wp2
    go_ret
    exact ⟨rfl, F1.out.then_none hf2⟩
  obtain ⟨N, rfl⟩ : ∃ N : Nat, slots = N := ⟨slots.toNat, by omega⟩
  have n1 : 1 ≤ N := by omega
  have n2 : N ≤ 60 := by omega
  have l1 : 1 ≤ last := by omega
  have l2 : last ≤ 1099511627776 := by omega
  clear hno q2
  go_wp2_with fail
  refine (arNew_ok N last _ n1 (by omega) l1 l2).mono ?_
  rintro e w2 ⟨a, G, rfl, hA2, hf2, ha, hG⟩
  have K2 := hid_ hA2
  have F2 := hid_ (F1.out.then_none hf2)
  have hG0 : w.heap.size ≤ G := Nat.le_trans F1.out.size hG
  clear hA2 hf2 ha hG
  go_wp2_with fail
  obtain ⟨M1, hM1⟩ : ∃ M1, M1 = w2.heap.size := ⟨_, rfl⟩
  obtain ⟨M2, hM2⟩ : ∃ M2, M2 = w2.heap.size + 1 := ⟨_, rfl⟩
  obtain ⟨w3, hw3⟩ : ∃ w3, w3 = (w2.alloc (.map #[] 0)).alloc (.map #[] 0) := ⟨_, rfl⟩
  have N1 : RMap w3 M1 0 (.map []) := by rw [hw3, hM1]; exact (World.ownsMap_made w2 _ _ _).alloc _
  have N2 : RMap w3 M2 0 (.map []) := by
    rw [hw3, hM2]
    have := World.ownsMap_made (w2.alloc (.map #[] 0)) Try.prog 27 (plainElem (H := Unit) Try.prog 3)
    rwa [World.size_alloc] at this
  have f3 : Fr none_ w2 w3 := by rw [hw3]; exact ((Fr.refl none_ w2).alloc _).alloc _
  have hM12 : M1 ≠ M2 := by omega
  have hMw : w.heap.size ≤ M1 := by have := F2.out.size; omega
  have hMw2 : w.heap.size ≤ M2 := by omega
  rw [← hM2, ← hM1]
  change Code.wp _ _ _ _ ((w2.alloc (.map #[] 0)).alloc (.map #[] 0))
  rw [← hw3]
  clear hM1 hM2 hw3
  have K3 := hid_ (K2.out.keep f3)
  have F3 := hid_ (F2.out.then_none f3)
  have HN1 := hid_ N1
  have HN2 := hid_ N2
  clear N1 N2 f3
  go_loopw [10, 38] (fun v i wr => OnceS w a G M1 M2 N n last v i wr) (fun _ i _ => n - (intOf i).toNat)
  case atStart => exact ⟨0, Nat.zero_le _, rfl, _, [], [], [], _, _, List.length_replicate, World.ownsRow_nil _ _ _ _, Nat.le_refl _, OnceI.start N, MarksR.empty, MarksR.empty, HN1.out, HN2.out, K3.out, F3.out⟩
  case round =>
    obtain ⟨k, hk, rfl, ss, S, T, TL, DS, DT, hM⟩ := hrel
    obtain ⟨tA, tc, rfl⟩ := hM.told.shape
    have htk := hM.tk
    have HM0 := hid_ hM
    have F := hid_ hM.fr
    clear hM
    by_cases hlt : k < n
    · obtain ⟨D, hD⟩ : ∃ D, L[k]? = some D := ⟨_, List.getElem?_eq_getElem (by omega)⟩
      obtain ⟨b, off, rfl, hb, hR, hO⟩ := (H.out.keep F.out).at_ hD
      have hz := HQ.out k D hD
      have HR := hid_ hR
      have hO' := hO
      have HO := hid_ hO
      have hi0 : (0 : Int) ≤ (k : Int) := Int.natCast_nonneg _
      have hi1 : (k : Int) < (n : Int) := by omega
      have hnb := hO.nb
      clear hR hO hO' hD
      go_upto_region 12 with (first | (refine wpList_load_mid rfl 45 (.tmp 40) rfl b (off + k * 20) rfl (doL D) _ HR.out Try.underlying45 rfl do_size ?_) | (refine wpList_store_mid rfl 45 (.tmp 12) (.tmp 41) rfl wr.heap.size 0 (doL D).toArray rfl rfl (new_there wr _ doZ) do_size (do_one D) ?_; obtain ⟨w1, hw1⟩ : ∃ w1, w1 = (wr.alloc (.cells doZ 45)).setCells wr.heap.size 0 (doL D) := ⟨_, rfl⟩; change wpList _ _ _ _ _ ((wr.alloc (.cells doZ 45)).setCells wr.heap.size 0 (doL D)); rw [← hw1]; have P1 : Hid (Blk w1 wr.heap.size 45 (doL D).toArray ∧ Fr none_ wr w1) := hid_ (by rw [hw1]; exact new_copy wr _ doZ _ rfl); clear hw1; have b18 : w1.cell? ⟨wr.heap.size, 18, none⟩ = some (.bool D.lst) := P1.out.1.cell' rfl; have b16 : w1.cell? ⟨wr.heap.size, 16, none⟩ = some (.int .i64 D.sl) := P1.out.1.cell' rfl; have b17 : w1.cell? ⟨wr.heap.size, 17, none⟩ = some (.int .i64 D.gn) := P1.out.1.cell' rfl))
      obtain ⟨X, hX⟩ : ∃ X, X = w1.heap.size := ⟨_, rfl⟩
      obtain ⟨w4, hw4⟩ : ∃ w4, w4 = w1.alloc (.cells #[.int .i64 D.sl, .int .i64 D.gn] 27) := ⟨_, rfl⟩
      have f14 : Fr none_ w1 w4 := by rw [hw4]; exact (Fr.refl none_ w1).alloc _
      have KX : Hid (Blk w4 X 27 #[.int .i64 D.sl, .int .i64 D.gn]) := hid_ (by rw [hw4, hX]; exact Blk.new w1 _ _)
      have PD := hid_ (P1.out.1.fr f14 id)
      have FR4 := hid_ (P1.out.2.then_none f14)
      have M4 := hid_ (HM0.out.keep FR4.out)
      have hXw : wr.heap.size ≤ X := by have := P1.out.2.size; omega
      have hXp : wr.heap.size < X := by rw [hX]; exact P1.out.1.lt
      have hXne : wr.heap.size ≠ X := by omega
      have HXne := hid_ hXne
      rw [← hX]
      change Code.wp _ _ _ _ (w1.alloc (.cells #[.int .i64 D.sl, .int .i64 D.gn] 27))
      rw [← hw4]
      clear hw4 hX f14 hXne b16 b17 b18 hXp
      go_cut [50] (fun v wq => ∃ bb : Bool, v = .bool bb ∧ (bb = true → 0 < TL.length) ∧ w4 = wq)
      case first =>
        have b18 : w4.cell? ⟨wr.heap.size, 18, none⟩ = some (.bool D.lst) := PD.out.cell' rfl
        cases hl : D.lst with
        | false =>
          rw [hl] at b18
          clear hl
          go_wp2
          go_meet
          case rel => exact ⟨false, rfl, (fun h => by cases h), rfl⟩
        | true =>
          rw [hl] at b18
          clear hl
          by_cases ht : 0 < TL.length
          · have htd : decide ((0 : Int) < (TL.length : Int)) = true := by simp; omega
            go_wp2
            go_meet
            case rel => exact ⟨true, rfl, fun _ => ht, rfl⟩
          · have htd : decide ((0 : Int) < (TL.length : Int)) = false := decide_eq_false (by omega)
            go_wp2
            go_meet
            case rel => exact ⟨false, rfl, (fun h => by cases h), rfl⟩
      case rest =>
      obtain ⟨bb, rfl, hbb, rfl⟩ := hcut
      go_upto_if 50 with fail
      go_cut [] (fun wq => ∃ x : Rf, Blk wq X 27 #[.int .i64 x.1, .int .i64 x.2] ∧ Fr (only X) w4 wq)
      case first =>
        cases bb with
        | false =>
          go_wp2
          go_meet
          case rel => exact ⟨(D.sl, D.gn), KX.out, Fr.refl _ _⟩
        | true =>
          have ht := hbb rfl
          clear hbb
          obtain ⟨q, hq⟩ : ∃ q : Nat, (TL.length : Int) - 1 - D.nn % (TL.length : Int) = q := ⟨((TL.length : Int) - 1 - D.nn % TL.length).toNat, by have := Int.emod_lt_of_pos D.nn (show (0:Int) < TL.length by omega); have := Int.emod_nonneg D.nn (show (TL.length : Int) ≠ 0 by omega); omega⟩
          have hql : q < TL.length := by have := Int.emod_nonneg D.nn (show (TL.length : Int) ≠ 0 by omega); omega
          obtain ⟨p, hp⟩ : ∃ p, TL[q]? = some p := ⟨_, List.getElem?_eq_getElem hql⟩
          obtain ⟨g, rfl, r0, r1⟩ := own_rf M4.out.told rfl hp
          have hmod : D.nn.tmod (TL.length : Int) = D.nn % (TL.length : Int) := Int.tmod_eq_emod_of_nonneg hnb.1
          have hq0 : (0 : Int) ≤ (q : Int) := Int.natCast_nonneg _
          have hq1 : (q : Int) < (TL.length : Int) := by omega
          have e19 : w4.cell? ⟨wr.heap.size, 19, none⟩ = some (.int .u8 D.nn) := PD.out.cell' rfl
          have x0 : w4.cell? ⟨X, 0, none⟩ = some (.int .i64 D.sl) := KX.out.cell' rfl
          have x1 : w4.cell? ⟨X, 1, none⟩ = some (.int .i64 D.gn) := KX.out.cell' rfl
          have z0 := KX.out.frozen 0
          have z1 := KX.out.frozen 1
          have xl := KX.out.lt
          have ht63 : (TL.length : Int) ≤ 60 := by omega
          obtain ⟨nb1, nb2⟩ := hnb
          have HXX := hid_ (show Blk ((w4.setCell ⟨X, 0, none⟩ (.int .i64 p.1)).setCell ⟨X, 1, none⟩ (.int .i64 p.2)) X 27 #[.int .i64 p.1, .int .i64 p.2] ∧ Fr (only X) w4 ((w4.setCell ⟨X, 0, none⟩ (.int .i64 p.1)).setCell ⟨X, 1, none⟩ (.int .i64 p.2)) from
            ⟨(KX.out.set_ 0 (.int .i64 p.1)).set_ 1 (.int .i64 p.2), ((Fr.refl (only X) w4).setCell (p := ⟨X, 0, none⟩) (.inl (Eq.refl X)) _).setCell (p := ⟨X, 1, none⟩) (.inl (Eq.refl X)) _⟩)
          clear hp hql
          go_wp2_with fail
          go_meet
          case rel => exact ⟨p, HXX.out⟩
      case rest =>
      obtain ⟨x, hx, hfx⟩ := hcut
      have KX5 := hid_ hx
      have PD5 := hid_ (PD.out.fr hfx (only_ne HXne.out))
      have FR5 := hid_ (FR4.out.then_only hfx (.inr hXw))
      have M5 := hid_ (HM0.out.keep FR5.out)
      clear hx hfx M4 KX PD FR4 hbb
      have HMw := hid_ (And.intro hMw hMw2)
      have e0 : wc.cell? ⟨wr.heap.size, 0, none⟩ = some (.int .i64 D.verb) := PD5.out.cell' rfl
      go_upto_if 66 with fail
      go_cut [10] (fun v wq => OnceE w a G M1 M2 N last (k + 1) v wq)
      case first =>
        by_cases hverb : D.verb = 0
        · have hvb : (D.verb == 0) = true := by simpa using hverb
          clear hverb
          have e1 : wc.cell? ⟨wr.heap.size, 1, none⟩ = some (.int .i64 D.R.kind) := PD5.out.cell' rfl
          have e2 : wc.cell? ⟨wr.heap.size, 2, none⟩ = some (.string D.R.low) := PD5.out.cell' rfl
          have e3 : wc.cell? ⟨wr.heap.size, 3, none⟩ = some (.string D.R.high) := PD5.out.cell' rfl
          have e4 : wc.cell? ⟨wr.heap.size, 4, none⟩ = some (.bool D.R.unb) := PD5.out.cell' rfl
          have e5 : wc.cell? ⟨wr.heap.size, 5, none⟩ = some (.int .i64 D.R.right) := PD5.out.cell' rfl
          have e6 : wc.cell? ⟨wr.heap.size, 6, none⟩ = some (.slice D.A D.R.rows.length D.c) := PD5.out.cell' rfl
          have e7 : wc.cell? ⟨wr.heap.size, 7, none⟩ = some (.slice D.B D.R.ents.length D.d) := PD5.out.cell' rfl
          have e8 : wc.cell? ⟨wr.heap.size, 8, none⟩ = some (.string D.R.key) := PD5.out.cell' rfl
          have e9 : wc.cell? ⟨wr.heap.size, 9, none⟩ = some (.string D.R.val) := PD5.out.cell' rfl
          have e10 : wc.cell? ⟨wr.heap.size, 10, none⟩ = some (.int .i64 D.R.page) := PD5.out.cell' rfl
          have e11 : wc.cell? ⟨wr.heap.size, 11, none⟩ = some (.int .i64 D.R.hpage) := PD5.out.cell' rfl
          have e12 : wc.cell? ⟨wr.heap.size, 12, none⟩ = some (.int .i64 D.R.hleft) := PD5.out.cell' rfl
          have e13 : wc.cell? ⟨wr.heap.size, 13, none⟩ = some (.string D.R.hkey) := PD5.out.cell' rfl
          have e14 : wc.cell? ⟨wr.heap.size, 14, none⟩ = some (.int .i64 D.R.nslot) := PD5.out.cell' rfl
          have e15 : wc.cell? ⟨wr.heap.size, 15, none⟩ = some (.int .i64 D.R.ngen) := PD5.out.cell' rfl
          go_wp2_with fail
          refine (alloc_ok D.R D.A D.c D.B D.d _ a G _ ss M5.out.ar (HO.out.rd.keep FR5.out) ⟨by omega, by omega⟩).mono ?_
          rintro e w5 h5
          rcases h5 with ⟨i, s, vr5, ve5, hs, ⟨hu, hgl⟩, -, rfl, hA5, -, hf5⟩ | ⟨hno, rfl, hf5⟩
          · have hi := (List.getElem?_eq_some_iff.1 hs).1
            have hiN := M5.out.hN
            have hg := M5.out.ar.gen s (List.mem_of_getElem? hs)
            have hfr := M5.out.inv.fresh hs hu
            have hok : RfOk ((i : Int) + 1, s.gen + 1) := ⟨wf_small (by omega) (by omega), wf_gen (by omega) (by omega)⟩
            have hkey := keyOf_ref hok
            have hl1 := M5.out.ms.no hok hfr.1 (.lit (.int .i64 0))
            have hl2 := M5.out.mt.no hok hfr.2 (.lit (.int .i64 0))
            have F5 := hid_ hf5
            have HI5 := hid_ (M5.out.inv.put hs hu (t := ⟨s.gen + 1, true, D.R, vr5, ve5⟩) rfl rfl)
            have HS5 := hid_ (M5.out.ms.put hok hfr.1)
            have A5 := hid_ hA5
            have R1 := hid_ (rmap_fr M5.out.rs hf5 (only_ne (M5.out.ar.neM M5.out.rs)))
            have R2 := hid_ (rmap_fr M5.out.rt hf5 (only_ne (M5.out.ar.neM M5.out.rt)))
            have T5 := hid_ (own_fr M5.out.told hf5 (fun k hk e => by obtain ⟨cs, hG, _⟩ := M5.out.ar.hG; exact own_blk_ne M5.out.told hG (by decide) (by rw [hk, show k = G from e])))
            have b1 : (1 : Int) ≤ (i : Int) + 1 := by omega
            have b2 : (i : Int) + 1 ≤ (N : Int) := by omega
            have b3 : (1 : Int) ≤ s.gen + 1 := by omega
            have b4 : s.gen + 1 ≤ last := by omega
            have HOK := hid_ hok
            clear hs hu hgl hA5 hf5 hfr hok hiN hg hi hkey e0 e1 e2 e3 e4 e5 e6 e7 e8 e9 e10 e11 e12 e13 e14 e15
            obtain ⟨Y, hY⟩ : ∃ Y, Y = w5.heap.size := ⟨_, rfl⟩
            obtain ⟨w6, hw6⟩ : ∃ w6, w6 = w5.alloc (.cells #[.int .i64 ((i : Int) + 1), .int .i64 (s.gen + 1)] 27) := ⟨_, rfl⟩
            have f56 : Fr none_ w5 w6 := by rw [hw6]; exact (Fr.refl none_ w5).alloc _
            have KY : Hid (Blk w6 Y 27 #[.int .i64 ((i : Int) + 1), .int .i64 (s.gen + 1)]) := hid_ (by rw [hw6, hY]; exact Blk.new w5 _ _)
            have R1a := hid_ (rmap_fr R1.out f56 id)
            have R2a := hid_ (rmap_fr R2.out f56 id)
            have hk1 : (Instr.lookup 42 (.map (some M1)) (.agg #[.int .i64 ((i : Int) + 1), .int .i64 (s.gen + 1)]) false).run Try.prog (w5.alloc (.cells #[.int .i64 ((i : Int) + 1), .int .i64 (s.gen + 1)] 27)) = .ok (.int .i64 0) (w5.alloc (.cells #[.int .i64 ((i : Int) + 1), .int .i64 (s.gen + 1)] 27)) := by rw [← hw6]; exact rlook R1a.out HOK.out hl1
            have hk2 : (Instr.lookup 42 (.map (some M2)) (.agg #[.int .i64 ((i : Int) + 1), .int .i64 (s.gen + 1)]) false).run Try.prog (w5.alloc (.cells #[.int .i64 ((i : Int) + 1), .int .i64 (s.gen + 1)] 27)) = .ok (.int .i64 0) (w5.alloc (.cells #[.int .i64 ((i : Int) + 1), .int .i64 (s.gen + 1)] 27)) := by rw [← hw6]; exact rlook R2a.out HOK.out hl2
            have A6 := hid_ (A5.out.keep f56)
            have T6 := hid_ (own_none T5.out f56)
            have F6 := hid_ ((M5.out.fr.then_only F5.out (.inr hG0)).then_none f56)
            have HY := hid_ hY
            have HW6 := hid_ hw6
            clear f56 hl1 hl2 hY hw6
            go_upto_region 19 with fail
            rw [← HY.out]
            change Code.wp _ _ _ _ (w5.alloc (.cells #[.int .i64 ((i : Int) + 1), .int .i64 (s.gen + 1)] 27))
            rw [← HW6.out]
            clear hk1 hk2
            have y0 : w6.cell? ⟨Y, 0, none⟩ = some (.int .i64 ((i : Int) + 1)) := KY.out.cell' rfl
            have y1 : w6.cell? ⟨Y, 1, none⟩ = some (.int .i64 (s.gen + 1)) := KY.out.cell' rfl
            have hkey := keyOf_ref HOK.out
            have hkn : k < maxLen := by unfold maxLen; omega
            have hMY : M1 ≠ Y := fun e => by
              obtain ⟨es, c, hb⟩ := rmap_at R1a.out
              have := KY.out
              unfold Blk at this
              rw [← e, hb] at this
              cases this
            have HMY := hid_ hMY
            clear hMY
            go_upto_region 20 with (at_mapUpdate; refine wpList_mapUpdate_own _ rfl _ _ _ 42 rfl 27 3 ref_law Try.underlying42 _ M1 k _ rfl R1a.out hkn _ _ _ rfl rfl hkey _ [] (plainElem_int Try.underlying3 (by decide)) ?_; intro w7 hown7 hgr7)
            have f67 : Fr (only M1) w6 w7 := (Fr.refl (only M1) w6).grown hgr7 (fun k hk => .inl (show k = M1 by simpa using hk.symm))
            have A7 := hid_ (A6.out.off (rmap_at R1a.out) f67)
            have R17 : Hid (RMap w7 M1 (k + 1) _) := hid_ hown7
            have R27 := hid_ (rmap_fr R2a.out f67 (only_ne (Ne.symm hM12)))
            have KY7 := hid_ (KY.out.fr f67 (only_ne (Ne.symm HMY.out)))
            have T7 := hid_ (own_fr T6.out f67 (own_off T6.out (rmap_at R1a.out)))
            have F7 := hid_ (F6.out.then_only f67 (.inr hMw))
            clear hown7 hgr7 f67 y0 y1
            have y0 : w7.cell? ⟨Y, 0, none⟩ = some (.int .i64 ((i : Int) + 1)) := KY7.out.cell' rfl
            have y1 : w7.cell? ⟨Y, 1, none⟩ = some (.int .i64 (s.gen + 1)) := KY7.out.cell' rfl
            obtain ⟨i0, hi0', hz0, hs0, hb0⟩ := info_parts ref_info
            have Hi := hid_ (And.intro hi0' (And.intro hz0 (And.intro hs0 hb0)))
            clear hi0' hz0 hs0 hb0
            have hF7 := F7.out.size
            go_wp2_with (at_builtin; refine wpList_append_own _ rfl _ _ 43 rfl w.heap.size 27 i0 _ 2 16 Try.underlying43 Hi.out.1 Hi.out.2.1 Hi.out.2.2.1 Hi.out.2.2.2 rfl (by decide) _ _ _ rfl (T7.out.alloc _) ⟨w7.heap.size, 0, none⟩ 1 1 [.int .i64 ((i : Int) + 1), .int .i64 (s.gen + 1)] rfl rfl ?c1 ?c2 ?c3 ?c4 ?c5 ?_)
            case c1 =>
              intro j u hu
              rw [add_lit, Nat.zero_add]
              exact (Blk.new w7 27 #[.int .i64 ((i : Int) + 1), .int .i64 (s.gen + 1)]).cell' (by simpa using hu)
            case c2 => intro u hu; simp at hu; rcases hu with rfl | rfl <;> rfl
            case c3 => unfold maxLen; omega
            case c4 => omega
            case c5 => simp; omega
            intro v' w8 hown8 hgr8 _
            have f78 : Fr none_ w w8 := (F7.out.alloc _).grown hgr8 (fun b hb => .inr (T7.out.lt b hb).1)
            have hT78 := T7.out.alloc (.cells #[.int .i64 ((i : Int) + 1), .int .i64 (s.gen + 1)] 27)
            have REL : OnceE w a G M1 M2 N last (k + 1) v' w8 := ⟨_, _, T, TL ++ [((i : Int) + 1, s.gen + 1)], _, DT, by rw [List.length_set]; exact M5.out.hN, by simpa [rfFlat, rfCells] using hown8, by simp; omega, HI5.out, HS5.out, M5.out.mt, rmap_told (rmap_fr R17.out ((Fr.refl none_ w7).alloc _) id) hT78 hgr8, (rmap_told (rmap_fr R27.out ((Fr.refl none_ w7).alloc _) id) hT78 hgr8).mono (Nat.le_succ _), (A7.out.keep ((Fr.refl none_ w7).alloc _)).told hT78 hgr8, f78⟩
            have HREL := hid_ REL
            clear REL hown8 hgr8 f78 hT78 y0 y1 hkey
            go_wp2
            go_meet
            case rel => exact HREL.out
          · have F5 := hid_ (FR5.out.then_none hf5)
            have M6 := hid_ (HM0.out.keep F5.out)
            clear hno hf5 e0 e1 e2 e3 e4 e5 e6 e7 e8 e9 e10 e11 e12 e13 e14 e15
            go_wp2_with fail
            go_roundw
            case rel => exact ⟨k + 1, by omega, by go_num, ss, S, T, TL, DS, DT, (M6.out.keep ((Fr.refl none_ w5).alloc _)).up⟩
            case measure => simp [intOf]; omega
        · have hvb : (D.verb == 0) = false := by simpa using hverb
          clear hverb
          have x0 : wc.cell? ⟨X, 0, none⟩ = some (.int .i64 x.1) := KX5.out.cell' rfl
          have x1 : wc.cell? ⟨X, 1, none⟩ = some (.int .i64 x.2) := KX5.out.cell' rfl
          go_wp2_with fail
          by_cases hat : atC ss x.1 x.2 = 0
          · rcases atC_cases ss x.1 x.2 with ⟨e1, _⟩ | ⟨i, s, hsl, hs, ⟨e1, _⟩ | ⟨_, hu, hg⟩⟩
            · omega
            · omega
            refine (free_ok x.1 x.2 M5.out.ar hs hsl hu hg).mono ?_
            rintro e w5 ⟨rfl, hA5, hf5⟩
            have hxe : x = ((i : Int) + 1, s.gen) := Prod.ext hsl hg.symm
            have hi := (List.getElem?_eq_some_iff.1 hs).1
            have hgn := M5.out.ar.gen s (List.mem_of_getElem? hs)
            have hdel := M5.out.inv.del hs hu (t := ⟨s.gen, false, Rc.zero, .slice none 0 0, .slice none 0 0⟩) rfl rfl
            rw [← hxe] at hdel
            have hok := M5.out.ms.ok x hdel.2.1
            have hl := M5.out.ms.at_ x hdel.2.1 (.lit (.int .i64 0))
            have HS5 := hid_ (M5.out.ms.del M5.out.inv.nd hdel.2.1)
            have HT5 := hid_ (M5.out.mt.put hok hdel.2.2)
            have HI5 := hid_ hdel.1
            have A5 := hid_ hA5
            have R1 := hid_ (rmap_fr M5.out.rs hf5 (only_ne (M5.out.ar.neM M5.out.rs)))
            have R2 := hid_ (rmap_fr M5.out.rt hf5 (only_ne (M5.out.ar.neM M5.out.rt)))
            have T5 := hid_ (own_fr M5.out.told hf5 (fun k hk e => by obtain ⟨cs, hG, _⟩ := M5.out.ar.hG; exact own_blk_ne M5.out.told hG (by decide) (by rw [hk, show k = G from e])))
            have KX6 := hid_ (KX5.out.fr hf5 (only_ne (by obtain ⟨cs, hG, _⟩ := M5.out.ar.hG; exact Blk.ne_ KX5.out hG (by decide))))
            have F6 := hid_ (M5.out.fr.then_only hf5 (.inr hG0))
            have hk1 : (Instr.lookup 42 (.map (some M1)) (.agg #[.int .i64 x.1, .int .i64 x.2]) false).run Try.prog w5 = .ok (.int .i64 1) w5 := rlook R1.out hok hl
            have HOK := hid_ hok
            clear hdel hxe hsl hs hu hg hi hgn hok hl hA5 hf5 hat x0 x1
            have x0 : w5.cell? ⟨X, 0, none⟩ = some (.int .i64 x.1) := KX6.out.cell' rfl
            have x1 : w5.cell? ⟨X, 1, none⟩ = some (.int .i64 x.2) := KX6.out.cell' rfl
            have hkey := keyOf_ref HOK.out
            go_upto_region 25 with (at_delete; refine wpList_delete_own _ rfl _ _ 42 27 rfl 3 ref_law Try.underlying42 _ M1 k DS rfl R1.out _ _ rfl hkey ?_; intro w6 hown6 hturn6)
            have f56 : Fr (only M1) w5 w6 := (Fr.refl (only M1) w5).grown hturn6.grown (fun k hk => .inl (show k = M1 by simpa using hk.symm))
            have hMX : M1 ≠ X := fun e => by
              obtain ⟨es, c, hb⟩ := rmap_at R1.out
              have := KX6.out
              unfold Blk at this
              rw [← e, hb] at this
              cases this
            have hMX2 : M2 ≠ X := fun e => by
              obtain ⟨es, c, hb⟩ := rmap_at R2.out
              have := KX6.out
              unfold Blk at this
              rw [← e, hb] at this
              cases this
            have A6 := hid_ (A5.out.off (rmap_at R1.out) f56)
            have R16 : Hid (RMap w6 M1 k (DS.del (refK x))) := hid_ hown6
            have R26 := hid_ (rmap_fr R2.out f56 (only_ne (Ne.symm hM12)))
            have KX7 := hid_ (KX6.out.fr f56 (only_ne (Ne.symm hMX)))
            have T6 := hid_ (own_fr T5.out f56 (own_off T5.out (rmap_at R1.out)))
            have F7 := hid_ (F6.out.then_only f56 (.inr hMw))
            clear hown6 hturn6 f56 x0 x1 hk1 hMX hMX2
            have x0 : w6.cell? ⟨X, 0, none⟩ = some (.int .i64 x.1) := KX7.out.cell' rfl
            have x1 : w6.cell? ⟨X, 1, none⟩ = some (.int .i64 x.2) := KX7.out.cell' rfl
            have hkn : k < maxLen := by unfold maxLen; omega
            go_wp2_with (at_mapUpdate; refine wpList_mapUpdate_own _ rfl _ _ _ 42 rfl 27 3 ref_law Try.underlying42 _ M2 k _ rfl R26.out hkn _ _ _ rfl rfl hkey _ [] (plainElem_int Try.underlying3 (by decide)) ?_; intro w7 hown7 hgr7; have f67 : Fr (only M2) w6 w7 := (Fr.refl (only M2) w6).grown hgr7 (fun k hk => .inl (show k = M2 by simpa using hk.symm)); have REL : OnceE w a G M1 M2 N last (k + 1) (.slice tA TL.length tc) w7 := ⟨_, _, _, TL, _, _, by rw [List.length_set]; exact M5.out.hN, own_fr T6.out f67 (own_off T6.out (rmap_at R26.out)), Nat.le_succ_of_le M5.out.tk, HI5.out, HS5.out, HT5.out, (rmap_fr R16.out f67 (only_ne hM12)).mono (Nat.le_succ _), hown7, A6.out.off (rmap_at R26.out) f67, F7.out.then_only f67 (.inr hMw2)⟩; have HREL := hid_ REL; clear REL hown7 hgr7 f67 x0 x1)
            go_meet
            case rel => exact HREL.out
          · refine (free_bad x.1 x.2 M5.out.ar hat).mono ?_
            rintro e w5 ⟨rfl, hf5⟩
            have M6 := hid_ (M5.out.keep hf5)
            clear hf5 x0 x1
            go_wp2
            go_meet
            case rel => exact ⟨ss, S, T, TL, DS, DT, M6.out.up⟩
      case rest =>
      obtain ⟨ss5, S5, T5, TL5, DS5, DT5, hM5⟩ := hcut
      have M7 := hid_ hM5
      clear hM5 e0 M5 KX5 PD5 FR5 HM0
      go_upto_region 27 with fail
      obtain ⟨M3, hM3⟩ : ∃ M3, M3 = wc.heap.size := ⟨_, rfl⟩
      obtain ⟨wm, hwm⟩ : ∃ wm, wm = wc.alloc (.map #[] 0) := ⟨_, rfl⟩
      have N3 : Hid (wm.ownsMap Try.prog 3 (plainElem (H := Unit) Try.prog 3) M3 0 (.map [])) := hid_ (by rw [hwm, hM3]; exact World.ownsMap_made wc _ _ _)
      have fm : Fr none_ wc wm := by rw [hwm]; exact (Fr.refl none_ wc).alloc _
      have M8 := hid_ (M7.out.keep fm)
      have FC := hid_ fm
      have h3c : wc.heap.size ≤ M3 := by omega
      have h3l : M3 < wm.heap.size := N3.out.lt
      rw [← hM3]
      change Code.wp _ _ _ _ (wc.alloc (.map #[] 0))
      rw [← hwm]
      clear hwm fm
      go_wp2_with (at_range; refine wpList_range_own _ rfl _ 42 rfl 27 3 ref_law Try.underlying42 _ M1 (k + 1) DS5 rfl M8.out.rs ?_; intro w0 hrg0 hg0 hs0)
      go_frame
      obtain ⟨r1, hr1⟩ : ∃ r1, r1 = wm.heap.size := ⟨_, rfl⟩
      have f0 : Fr none_ wm w0 := (Fr.refl none_ wm).grown hg0 (fun k hk => by cases hk)
      have hr1c : wc.heap.size ≤ r1 := by omega
      have hr13 : M3 ≠ r1 := by omega
      have hcnt0 : Maps.size DS5 ≤ 60 := by rw [M8.out.ms.size, M8.out.inv.cnt]; have := live_le ss5 ss5.length; have := M8.out.hN; omega
      rw [← hr1] at hrg0
      rw [← hr1]
      have N30 := hid_ (map_fr4 N3.out f0 id)
      have FC0 := hid_ (FC.out.then_none f0)
      have HRG := hid_ hrg0
      clear hg0 hs0 f0 hrg0 hr1 hM3 N3 FC M8
      go_loopw [17] (fun _ wx => Rg1 wc M1 M3 r1 (k + 1) DS5 S5 wx) (fun _ wx => wx.rangeLeft M1 r1)
      case atStart => exact ⟨_, _, 0, _, [], HRG.out, fun p _ _ h => by simp at h, Marks.empty, N30.out, by omega, FC0.out⟩
      case round =>
        obtain ⟨left, cnt, m, Dm, U, hrg, hmu, hmk, hmap, hmc, hfx⟩ := hrel
        obtain ⟨wx, rfl⟩ : ∃ wx : World, wx = wr := ⟨_, rfl⟩
        have RG := hid_ hrg
        have MU := hid_ hmu
        have MK := hid_ hmk
        have MP := hid_ hmap
        have FX := hid_ hfx
        have MC := hid_ hmc
        clear hrg hmu hmk hmap hfx hmc
        go_wp2_with (at_next; refine wpList_next_rr _ rfl _ rfl M1 r1 (k + 1) DS5 left cnt rfl RG.out ?_ ?_)
        · intro hc0 hl0
          clear hc0 hl0
          have MX := hid_ (M7.out.keep FX.out)
          clear RG MU MK MP MC FC0 N30 HRG
          go_wp2_with (at_range; refine wpList_range_own _ rfl _ 42 rfl 27 3 ref_law Try.underlying42 _ M2 (k + 1) DT5 rfl MX.out.rt ?_; intro w0' hrg0 hg0 hs0)
          go_frame
          obtain ⟨r2, hr2⟩ : ∃ r2, r2 = wx.heap.size := ⟨_, rfl⟩
          have f0 : Fr none_ wx w0' := (Fr.refl none_ wx).grown hg0 (fun k hk => by cases hk)
          have hr2c : wx.heap.size ≤ r2 := by omega
          rw [← hr2] at hrg0
          rw [← hr2]
          have HRG := hid_ hrg0
          have F0' := hid_ f0
          clear hg0 hs0 f0 hrg0 hr2
          go_loopw [20] (fun _ wy => Rg2 wx M2 r2 (k + 1) DT5 wy) (fun _ wy => wy.rangeLeft M2 r2)
          case atStart => exact ⟨_, _, HRG.out, F0'.out⟩
          case round =>
            obtain ⟨left, cnt, hrg, hfy⟩ := hrel
            obtain ⟨wy, rfl⟩ : ∃ wy : World, wy = wr := ⟨_, rfl⟩
            have RG := hid_ hrg
            have FY := hid_ hfy
            clear hrg hfy
            go_wp2_with (at_next; refine wpList_next_rr _ rfl _ rfl M2 r2 (k + 1) DT5 left cnt rfl RG.out ?_ ?_)
            · intro hc0 hl0
              clear hc0 hl0
              go_wp2
              go_roundw
              case rel => exact ⟨k + 1, by omega, by go_num, ss5, S5, T5, TL5, DS5, DT5, MX.out.keep FY.out⟩
              case measure => simp [intOf]; omega
            · intro x' y c w1 cnt1 hok hl hhas hrg1 hlt hg1 hs1 hen
              have hpT := (MX.out.mt.has (x', y) hok).1 hhas
              have h4 := atC_stale MX.out.inv hpT
              have f1 : Fr (only r2) wy w1 := (Fr.refl (only r2) wy).grown hg1 (fun k hk => .inl (show k = r2 by cases hk; rfl))
              have FY1 := hid_ (FY.out.then_only f1 (.inr hr2c))
              have RG1 := hid_ hrg1
              have HLT := hid_ hlt
              have A1 := hid_ (MX.out.ar.keep FY1.out)
              have H4 := hid_ h4
              clear hpT h4 hg1 hs1 hl hhas hrg1 hok f1 hlt
              go_wp2_with fail
              refine (load_bad x' y (A1.out.keep ((Fr.refl none_ w1).alloc _)) (by rw [H4.out]; decide)).mono ?_
              rintro e w2 ⟨rfl, hf2⟩
              rw [show atC ss5 x' y = 4 from H4.out]
              have f12 : Fr none_ w1 w2 := ((Fr.refl none_ w1).alloc _).then_none hf2
              have RG2 := hid_ (rrange_fr RG1.out f12 id id)
              have FY2 := hid_ (FY1.out.then_none f12)
              clear f12 hf2 hen
              go_wp2_with fail
              refine (isF 4 4 _).mono ?_
              rintro e w3 ⟨rfl, rfl⟩
              go_wp2_with fail
              go_roundw
              case rel => exact ⟨_, cnt1, rrange_fr RG2.out ((Fr.refl none_ w2).alloc _) id id, FY2.out.alloc _⟩
              case measure => rw [(rrange_fr RG2.out ((Fr.refl none_ w2).alloc _) id id).left_eq, RG.out.left_eq]; exact HLT.out
        · intro x' y c w1 cnt1 hok hl hhas hrg1 hlt hg1 hs1 hen
          have hpS := (M7.out.ms.has (x', y) hok).1 hhas
          obtain ⟨i, s, hs, hu, hpe⟩ := (M7.out.inv.live (x', y)).1 hpS
          simp only [Prod.mk.injEq] at hpe
          have f1 : Fr (only r1) wx w1 := (Fr.refl (only r1) wx).grown hg1 (fun k hk => .inl (show k = r1 by cases hk; rfl))
          have FX1 := hid_ (FX.out.then_only f1 (.inr hr1c))
          have hnu := MU.out (x', y) hpS hl
          have MU1 := hid_ (MU.out.step M7.out.inv M7.out.ms hpS)
          have MP1 := hid_ (map_fr4 MP.out f1 (only_ne hr13))
          have RG1 := hid_ hrg1
          have hlk := MK.out.no x' hnu
          have hMC := MC.out
          have HLT := hid_ hlt
          have HOK := hid_ hok
          have A1 := hid_ (M7.out.ar.keep FX1.out)
          have HS := hid_ (And.intro hs (And.intro hpe.1 (And.intro hu hpe.2.symm)))
          clear hpS hs hu hpe hg1 hs1 hl hhas hrg1 hok hnu f1 hlt
          go_wp2_with fail
          refine (load_ok x' y (A1.out.keep ((Fr.refl none_ w1).alloc _)) HS.out.1 HS.out.2.1 HS.out.2.2.1 HS.out.2.2.2).mono ?_
          rintro e w2 ⟨rA, rc, rB, rd, rfl, -, hf2⟩
          have f12 : Fr none_ w1 w2 := ((Fr.refl none_ w1).alloc _).then_none hf2
          have RG2 := hid_ (rrange_fr RG1.out f12 id id)
          have MP2 := hid_ (map_fr4 MP1.out f12 id)
          have FX2 := hid_ (FX1.out.then_none f12)
          have Y2 := hid_ ((Blk.new w1 27 #[.int .i64 x', .int .i64 y]).fr hf2 id)
          have hkey := keyOf_int_mk (P := Try.prog) Try.underlying3 HOK.out.1
          have hk : ∀ o, (Instr.lookup 51 (.map (some M3)) (.int .i64 x') false).run Try.prog (w2.alloc o) = .ok (.int .i64 0) (w2.alloc o) := fun o => by
            obtain ⟨c', hrun, hat', _⟩ := (map_fr4 MP2.out ((Fr.refl none_ w2).alloc o) id).lookup_int int_law4 Try.underlying51 Try.underlying3 (zero_int4 _) hkey
            obtain rfl : (0 : Int) = c' := by simpa using hlk.symm.trans hat'
            exact hrun
          have y0 : w2.cell? ⟨w1.heap.size, 0, none⟩ = some (.int .i64 x') := Y2.out.cell' rfl
          have yl := Y2.out.lt
          have hmn : m < maxLen := by unfold maxLen; omega
          have hM13 : M3 ≠ M1 := by have := M7.out.rs.lt; omega
          have HM13 := hid_ hM13
          clear f12 hf2 hlk hen hM13
          go_wp2_with (at_mapUpdate; refine wpList_mapUpdate_own _ rfl _ _ _ 51 rfl 3 3 int_law4 Try.underlying51 _ M3 m _ rfl (map_fr4 MP2.out ((Fr.refl none_ w2).alloc _) id) hmn _ _ _ rfl rfl hkey _ [] (plainElem_int Try.underlying3 (by decide)) ?_; intro w3 hown3 hgr3; have REL : Rg1' wc M1 M3 r1 (k + 1) DS5 S5 cnt1 w3 := ⟨_, m + 1, _, U ++ [x'], rrange_fr (rrange_fr RG2.out ((Fr.refl none_ w2).alloc _) id id) ((Fr.refl (only M3) _).grown hgr3 (fun k hk => .inl (show k = M3 by simpa using hk.symm))) (only_ne (Ne.symm HM13.out)) (only_ne (Ne.symm hr13)), MU1.out, MK.out.put x', hown3, by have := HLT.out; omega, (FX2.out.alloc _).grown hgr3 (fun k hk => .inr (by have e : k = M3 := (by simpa using hk.symm); omega))⟩; have HREL := hid_ REL; clear REL hown3 hgr3)
          go_roundw
          case rel => exact by (repeat apply Exists.intro); exact ⟨HREL.out.to, rfl⟩
          case measure => rw [HREL.out.left_eq, RG.out.left_eq]; exact HLT.out
    · obtain rfl : k = n := by omega
      go_wp2_with fail
      refine (live_ok _ HM0.out.ar).mono ?_
      rintro e w3' ⟨A3, c3, rfl, -, hf3⟩
      have M6 := hid_ (HM0.out.keep hf3)
      have hsz : Maps.size DS = (liveTo ss ss.length).length := by rw [M6.out.ms.size, M6.out.inv.cnt]
      obtain ⟨lv, hlv⟩ : ∃ lv, lv = (liveTo ss ss.length).length := ⟨_, rfl⟩
      rw [← hlv] at hsz
      rw [← hlv]
      have HSZ := hid_ hsz
      clear hsz hlv hf3
      go_wp2_with (at_len; refine wpList_len_own _ rfl _ 42 rfl 27 3 Try.underlying42 _ M1 k DS rfl M6.out.rs ?_; rw [HSZ.out])
      refine (awake4 _).mono ?_
      rintro e w4 ⟨rfl, hf4⟩
      go_wp2
      go_ret
      exact ⟨rfl, M6.out.fr.then_none hf4⟩
theorem once4_walk_i {H : Type} {enc : TypeId × Value → H} (slots last : Int) (wfs : (Lit.int .i64 slots).wf = true) (wfl : (Lit.int .i64 last).wf = true) (A : Option Addr) (n cap : Nat) (hc : n ≤ cap) (hm : cap ≤ maxLen) (w : World) (h : Do4At enc w A n) :
    Calls Try.prog 4 #[.int .i64 slots, .int .i64 last, .slice A n cap] w fun e w' => e = .returned (.bool true) ∧ Fr none_ w w' := by
  obtain ⟨L, hL⟩ := dns_of h
  exact once4_walk slots last A n cap L w hL (by omega)
end Go.Proofs.Ytbmnphigfkiaeaa

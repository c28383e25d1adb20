/- FaultWorst's walk. -/
import Derived.Test.YtcfddlfeldidjaaDoorWst1b
import Derived.OwnWalk
import Derived.Deep.Cut
namespace Go.Proofs.YtcfddlfeldidjaaDoor
open Go.RowKit Go.ChangeShapes Go.WideShapes
set_option maxRecDepth 100000
set_option linter.unusedVariables false

theorem leaves_Cd : leaves Tryd.prog 6 22 = [(0, .int .i64)] := by kernel_rfl
theorem cells_Cd : Tryd.prog.cellsOf 22 = 1 := by kernel_rfl
theorem Cd_at {H : Type} {enc : TypeId × Value → H} {w : World} {A : Option Addr} {n : Nat} (h : Rd enc Tryd.prog w 6 22 A n) : ∃ N, IntReads w A n N := by
  rcases Nat.eq_zero_or_pos n with h0 | h0
  · subst h0; exact ⟨[], rfl, fun h => absurd h (by omega)⟩
  · obtain ⟨b, off, hA, hb, hc⟩ := h h0
    obtain ⟨L, hl, hL⟩ := choose_list (α := Int) (P := fun k x => w.cell? ⟨b, off + k, none⟩ = some (.int .i64 x)) n (fun k hk => by
      have hk := hc k hk
      rw [leaves_Cd, cells_Cd] at hk
      obtain ⟨_, h0, x0, rfl, w0⟩ := hk 0 (.int .i64) (by simp)
      exact ⟨x0, by simpa using h0⟩)
    exact ⟨L, hl, fun _ => ⟨b, off, hA, hb, hL⟩⟩
theorem codes_conf {H : Type} {enc : TypeId × Value → H} {w : World} {v : Value} (h : Conf enc Tryd.prog w (.slice 28) v) : ∃ A n c L, v = .slice A n c ∧ n ≤ c ∧ c ≤ maxLen ∧ IntReads w A n L := by
  obtain ⟨fuel, d, ps, ht, hlt, hwt⟩ := h
  obtain ⟨A, n, c, rfl, h1, h2, h3, h4, h5⟩ := open_list 6 Tryd.underlying28 ht hlt hwt (by rw [leaves_Cd]; rfl) (by rw [leaves_Cd, cells_Cd]; rfl)
  obtain ⟨L, hL⟩ := Cd_at h5
  exact ⟨A, n, c, L, rfl, h1, h2, hL⟩
theorem err_info : (Tryd.prog.info? 31).map (fun i => (i.zero, i.size, i.bytes)) = some (some .nilIface, 1, 16) := by kernel_rfl
theorem EV.grown {w w' : World} {X : List (Option (Int × Int))} {vs : List Value} (h : EV w X vs) {base n : Nat} {v : Value} {xs : List Value} (hown : w.ownsRow base 31 1 v n xs) (hg : w.grownBy w' v.ownBlock) : EV w' X vs :=
  ⟨h.1, fun k x hx => by
    obtain ⟨u, h1, h2⟩ := h.2 k x hx
    refine ⟨u, h1, ?_⟩
    cases x with
    | none => exact h2
    | some x =>
      obtain ⟨b, ve, e1, e2, e3⟩ := h2
      exact ⟨b, ve, e1, e2.grown hg (Ne.symm (own_blk_ne hown e2 (by decide))), e3⟩⟩
theorem code_lit {l : List Int} {k : Nat} (h : k < l.length) : l[k]? = some (codeAt l k) := (List.getElem?_eq_getElem h).trans (by simp [codeAt, h])
/-- What the loop holds. -/
structure AllS (w : World) (base : Nat) (l : List Int) (a : Int) (k : Nat) (all : Value) (wr : World) : Prop where
  o : ∃ vs, wr.ownsRow base 31 1 all (allU l a k).length vs ∧ EV wr (allU l a k) vs
  f : Fr none_ w wr

set_option maxHeartbeats 8000000 in
theorem worst_walk (l : List Int) (A : Option Addr) (c : Nat) (no : Int) (w : World) (hR : IntReads w A l.length l) (hc : l.length ≤ maxLen) (hn0 : 0 ≤ no) (hn1 : no ≤ 255) (hL : Laid w) :
    Calls Tryd.prog 4 #[.slice A l.length c, .int .u8 no] w fun e w' => e = .returned (.bool true) ∧ Fr none_ w w' := by
  have H := hid_ hR
  have HL := hid_ hL
  unfold maxLen at hc
  obtain ⟨i0, hi0, hz0, hs0, hb0⟩ := info_parts err_info
  have Hi := hid_ (And.intro hi0 (And.intro hz0 (And.intro hs0 hb0)))
  clear hR hL hi0 hz0 hs0 hb0
  by_cases hg : (100 : Int) < (l.length : Int)
  · have hd : decide ((100 : Int) < (l.length : Int)) = true := by simpa using hg
    go_enter Tryd.func4, Tryd.ntmps4
    go_wp2_with fail
    refine (awake1 _ HL.out).mono ?_
    rintro e w1 ⟨rfl, hf1⟩
    have F1 := hid_ hf1
    clear hf1
    go_wp2_with fail
    go_ret
    exact ⟨rfl, F1.out⟩
  have hd : decide ((100 : Int) < (l.length : Int)) = false := by simpa using hg
  have hn : l.length ≤ 100 := by omega
  go_enter Tryd.func4, Tryd.ntmps4
  go_wp2_with fail
  obtain ⟨a0, ha0⟩ : ∃ a0, no % ((l.length : Int) + 1) = a0 := ⟨_, rfl⟩
  rw [ha0]
  clear ha0
  go_loopw [5, 28] (fun v i wr => ∃ k : Nat, k ≤ l.length ∧ i = .int .i64 k ∧ AllS w w.heap.size l a0 k v wr) (fun _ i _ => l.length - (intOf i).toNat)
  case atStart => exact ⟨0, Nat.zero_le _, rfl, ⟨[], World.ownsRow_nil w w.heap.size 31 1, EV.nil w⟩, Fr.refl _ _⟩
  case round =>
    obtain ⟨k, hk, rfl, hS⟩ := hrel
    obtain ⟨vs, hown, hE⟩ := hS.o
    have HF := hid_ hS.f
    have hsz := hS.f.size
    have hul := all_len l a0 k
    have HO := hid_ hown
    have HE := hid_ hE
    clear hS hown hE
    have hi0 : (0 : Int) ≤ (k : Int) := Int.natCast_nonneg _
    by_cases hlt : k < l.length
    · have hi1 : (k : Int) < (l.length : Int) := by omega
      obtain ⟨b, off, rfl, hb, q0⟩ := (H.out.fr HF.out).at (code_lit hlt)
      by_cases hka : (k : Int) = a0
      · have hd1 : ((k : Int) == a0) = true := by simpa using hka
        have HKA := hid_ hka
        clear hka
        go_wp2_with (at_builtin; refine wpList_append_own _ rfl _ _ 29 rfl w.heap.size 31 i0 _ 1 16 Tryd.underlying29 Hi.out.1 Hi.out.2.1 Hi.out.2.2.1 Hi.out.2.2.2 rfl (by decide) _ _ _ rfl (HO.out.alloc _) ⟨wr.heap.size, 0, none⟩ 1 1 [.nilIface] rfl rfl ?c1 ?c2 ?c3 ?c4 ?c5 ?_)
        case c1 =>
          intro j u hu
          rw [add_lit, Nat.zero_add]
          exact (Blk.new wr 31 #[.nilIface]).cell' (by simpa using hu)
        case c2 => intro u hu; simp at hu; subst hu; rfl
        case c3 => unfold maxLen; omega
        case c4 => omega
        case c5 => simp; omega
        intro v' w1 hown1 hgr1 _
        have O1 := hid_ hown1
        have E1 := hid_ (((HE.out.keep ((Fr.refl none_ wr).alloc _)).grown (HO.out.alloc _) hgr1).snoc (show ErO w1 none .nilIface from rfl))
        have F1 := hid_ ((HF.out.alloc _).grown hgr1 (fun b hb => .inr (HO.out.lt b hb).1))
        have z1 := F1.out.size
        obtain ⟨b', off', e', hb', q1⟩ := (H.out.fr F1.out).at (code_lit hlt)
        cases e'
        clear hown1 hgr1 q0
        go_wp2_with fail
        refine (at_any sX1 (k : Int) _ _ w1).mono ?_
        rintro e w2 ha
        obtain ⟨rfl, hb2, hf2⟩ := ha
        have B2 := hid_ hb2
        have O2 := hid_ (own_none O1.out hf2)
        have E2 := hid_ ((E1.out).keep hf2)
        have F2 := hid_ ((F1.out).then_none hf2)
        have z2 := hf2.size
        clear hb2 hf2
        go_wp2_with (at_builtin; refine wpList_append_own _ rfl _ _ 29 rfl w.heap.size 31 i0 _ 1 16 Tryd.underlying29 Hi.out.1 Hi.out.2.1 Hi.out.2.2.1 Hi.out.2.2.2 rfl (by decide) _ _ _ rfl (O2.out.alloc _) ⟨w2.heap.size, 0, none⟩ 1 1 [fltV w1.heap.size] rfl rfl ?c1 ?c2 ?c3 ?c4 ?c5 ?_)
        case c1 =>
          intro j u hu
          rw [add_lit, Nat.zero_add]
          exact (Blk.new w2 31 #[fltV w1.heap.size]).cell' (by simpa using hu)
        case c2 => intro u hu; simp at hu; subst hu; rfl
        case c3 => unfold maxLen; omega
        case c4 => omega
        case c5 => simp; omega
        intro v' w3 hown3 hgr3 _
        have R : AllS w w.heap.size l a0 (k + 1) v' w3 := by
          refine ⟨⟨(vs ++ [.nilIface]) ++ [fltV w1.heap.size], ?_, ?_⟩, (F2.out.alloc _).grown hgr3 (fun b hb => .inr (O2.out.lt b hb).1)⟩
          · unfold allU
            rw [if_pos HKA.out]
            simpa using hown3
          · unfold allU
            rw [if_pos HKA.out]
            exact ((E2.out.keep ((Fr.refl none_ w2).alloc _)).grown (O2.out.alloc _) hgr3).snoc (show ErO w3 (some ((k : Int), codeAt l k)) _ from ⟨_, _, rfl, (B2.out.alloc _).grown hgr3 (Ne.symm (own_blk_ne O2.out B2.out (by decide))), rfl⟩)
        have HR := hid_ R
        clear R hown3 hgr3
        go_wp2_with fail
        go_roundw
        case rel => exact ⟨k + 1, by omega, by go_num, HR.out⟩
        case measure => simp [intOf]; omega
      · have hd1 : ((k : Int) == a0) = false := by simpa using hka
        have HKA := hid_ hka
        clear hka
        go_wp2_with fail
        refine (at_any sX1 (k : Int) _ _ wr).mono ?_
        rintro e w2 ha
        obtain ⟨rfl, hb2, hf2⟩ := ha
        have B2 := hid_ hb2
        have O2 := hid_ (own_none HO.out hf2)
        have E2 := hid_ ((HE.out).keep hf2)
        have F2 := hid_ ((HF.out).then_none hf2)
        have z2 := hf2.size
        clear hb2 hf2
        go_wp2_with (at_builtin; refine wpList_append_own _ rfl _ _ 29 rfl w.heap.size 31 i0 _ 1 16 Tryd.underlying29 Hi.out.1 Hi.out.2.1 Hi.out.2.2.1 Hi.out.2.2.2 rfl (by decide) _ _ _ rfl (O2.out.alloc _) ⟨w2.heap.size, 0, none⟩ 1 1 [fltV wr.heap.size] rfl rfl ?c1 ?c2 ?c3 ?c4 ?c5 ?_)
        case c1 =>
          intro j u hu
          rw [add_lit, Nat.zero_add]
          exact (Blk.new w2 31 #[fltV wr.heap.size]).cell' (by simpa using hu)
        case c2 => intro u hu; simp at hu; subst hu; rfl
        case c3 => unfold maxLen; omega
        case c4 => omega
        case c5 => simp; omega
        intro v' w3 hown3 hgr3 _
        have R : AllS w w.heap.size l a0 (k + 1) v' w3 := by
          refine ⟨⟨vs ++ [fltV wr.heap.size], ?_, ?_⟩, (F2.out.alloc _).grown hgr3 (fun b hb => .inr (O2.out.lt b hb).1)⟩
          · unfold allU
            rw [if_neg HKA.out]
            simpa using hown3
          · unfold allU
            rw [if_neg HKA.out]
            exact ((E2.out.keep ((Fr.refl none_ w2).alloc _)).grown (O2.out.alloc _) hgr3).snoc (show ErO w3 (some ((k : Int), codeAt l k)) _ from ⟨_, _, rfl, (B2.out.alloc _).grown hgr3 (Ne.symm (own_blk_ne O2.out B2.out (by decide))), rfl⟩)
        have HR := hid_ R
        clear R hown3 hgr3
        go_wp2_with fail
        go_roundw
        case rel => exact ⟨k + 1, by omega, by go_num, HR.out⟩
        case measure => simp [intOf]; omega
    · obtain rfl : k = l.length := by omega
      go_wp2_with fail
      obtain ⟨A2, c2, hsh, h1, h2, h3⟩ := own_parts HO.out
      subst hsh
      have hvl : vs.length = (allU l a0 l.length).length := HE.out.1
      refine (worst_ok (allU l a0 l.length) vs A2 c2 _ (by omega) (VReads.of_own HO.out hvl) HE.out (HL.out.fr HF.out id)).mono ?_
      rintro e w1 ⟨v1, rfl, hv1, hf1⟩
      rw [best_all] at hv1
      have HV1 := hid_ hv1
      have F1 := hid_ (HF.out.then_none hf1)
      clear hv1 hf1 h1 h2 h3 HE HO hvl HF hul hsz
      go_wp2_with fail
      refine (rworst_ok l A c _ (by omega) (H.out.fr F1.out)).mono ?_
      rintro e w2 ⟨rfl, hf2⟩
      have V2 := hid_ (HV1.out.keep hf2)
      have F2 := hid_ (F1.out.then_none hf2)
      clear hf2 HV1 F1
      rcases Nat.eq_zero_or_pos l.length with h0 | h0
      · skip
        have hba : bestAt l l.length = -1 := by rw [h0]; rfl
        have hbn : bestN l l.length = none := by rw [h0]; rfl
        rw [hba]
        rw [hbn] at V2
        have h5 := V2.out
        have h5 : _ = Value.nilIface := h5
        subst h5
        clear V2 hba hbn
        go_wp2_with fail
        refine (worst_ok [] [] none 0 _ (by decide) (VReads.nil _) (EV.nil _) (HL.out.fr F2.out id)).mono ?_
        rintro e w3 ⟨v3, rfl, hv3, hf3⟩
        have hv3 : _ = Value.nilIface := hv3
        subst hv3
        have F3 := hid_ (F2.out.then_none hf3)
        clear hf3
        go_wp2_with fail
        have ev2 : ∀ wx, EV wx [none, none] [.nilIface, .nilIface] := fun wx => ((EV.nil wx).snoc (show ErO wx none .nilIface from rfl)).snoc (show ErO wx none .nilIface from rfl)
        refine (worst_ok [none, none] [.nilIface, .nilIface] (some ⟨w3.heap.size, 0, none⟩) 2 _ (by decide) ⟨rfl, fun _ => ⟨_, rfl, fun j u hu => (Blk.new w3 31 #[.nilIface, .nilIface]).cell' (by simpa using hu)⟩⟩ (ev2 _) (HL.out.fr (F3.out.alloc _) id)).mono ?_
        rintro e w4 ⟨v4, rfl, hv4, hf4⟩
        have hv4 : _ = Value.nilIface := hv4
        subst hv4
        have F4 := hid_ ((F3.out.alloc (.cells #[.nilIface, .nilIface] 31)).then_none hf4)
        clear hf4 ev2
        go_wp2_with fail
        refine (awake1 _ (HL.out.fr F4.out id)).mono ?_
        rintro e w5 ⟨rfl, hf5⟩
        have F5 := hid_ (F4.out.then_none hf5)
        clear hf5
        go_wp2_with fail
        go_ret
        exact ⟨rfl, F5.out⟩
      · obtain ⟨m, hm, hbn, hmax⟩ := bestN_some l l.length h0
        have hba : bestAt l l.length = (m : Int) := by unfold bestAt; rw [hbn]
        rw [hba]
        rw [hbn] at V2
        have HM := hid_ hmax
        have V3 : Hid (ErAt w2 (.at_ sX1 (m : Int) (.code (codeAt l m))) v1) := V2
        obtain ⟨cm, hcm⟩ : ∃ cm, codeAt l m = cm := ⟨_, rfl⟩
        rw [hcm] at V3
        have HC := hid_ hcm
        clear V2 hba hbn hmax hcm
        obtain ⟨q, ve, hq1, -, -⟩ := V3.out
        subst hq1
        have hm0 : decide ((m : Int) < 0) = false := by simp
        go_wp2_with fail
        refine (placeE _ _ _ V3.out (HL.out.fr F2.out id)).mono ?_
        rintro e w3 ⟨rfl, hf3⟩
        rw [show placeV (Er.at_ sX1 (m : Int) (.code cm)).fault = .tuple #[.string sX1, .int .i64 (m : Int), .bool true] from rfl]
        have F3 := hid_ (F2.out.then_none hf3)
        have V4 := hid_ (V3.out.keep hf3)
        clear hf3 V3
        have hm1 : (m : Int) < (l.length : Int) := by omega
        have hm2 : (0 : Int) ≤ (m : Int) := Int.natCast_nonneg _
        obtain ⟨b, off, rfl, hb, q0⟩ := (H.out.fr F3.out).at (code_lit hm)
        rw [HC.out] at q0
        have x0 : ∀ x : Wx w3, x.to.cell? ⟨b, off + m, none⟩ = some (.int .i64 cm) := fun x => x.cell q0
        have X0 : Hid (∀ x : Wx w3, Calls Tryd.prog 16 #[fltV q] x.to fun e w' => e = .returned (.int .i64 cm) ∧ Fr none_ x.to w') := hid_ (fun x => codeE _ _ _ (V4.out.keep x.fr) ((HL.out.fr F3.out id).fr x.fr id))
        clear q0
        go_wp2_with fail
        refine wp_region_quiet_x (by kernel_rfl) (by kernel_rfl) ?_
        repeat (first | go_big_quiet_step ((go_at_call 16; exact Calls.quiet_x (X0.out _))) | quiet_step ((go_at_call 16; exact Calls.quiet_x (X0.out _))))
        refine wpQuiet_nil ?_
        intro _ hw'
        obtain ⟨xq, hw''⟩ := hw'
        subst hw''
        have V5 := hid_ (V4.out.keep xq.fr)
        have F5 := hid_ (F3.out.then_none xq.fr)
        obtain ⟨w5, hw5⟩ : ∃ w5, xq.to = w5 := ⟨_, rfl⟩
        rw [hw5] at V5 F5
        rw [hw5]
        clear x0 X0 V4 F3 hw5
        go_wp2_with fail
        go_loopw [95] (fun i wr => ∃ k : Nat, k ≤ l.length ∧ i = .int .i64 k ∧ Fr none_ w5 wr) (fun i _ => l.length - (intOf i).toNat)
        case atStart => exact ⟨0, Nat.zero_le _, rfl, Fr.refl _ _⟩
        case round =>
          obtain ⟨k, hk, rfl, hfr⟩ := hrel
          have F6 := hid_ (F5.out.then_none hfr)
          have V6 := hid_ (V5.out.keep hfr)
          have G6 := hid_ hfr
          clear hfr
          have hi0 : (0 : Int) ≤ (k : Int) := Int.natCast_nonneg _
          by_cases hlt : k < l.length
          · have hi1 : (k : Int) < (l.length : Int) := by omega
            obtain ⟨b', off', e', hb', q1⟩ := (H.out.fr F6.out).at (code_lit hlt)
            cases e'
            go_wp2_with fail
            refine (weight_ok (codeAt l k) _).mono ?_
            rintro e w7 ⟨rfl, hf7⟩
            have F7 := hid_ hf7
            clear hf7
            go_wp2_with fail
            refine (codeE _ _ _ (V6.out.keep F7.out) ((HL.out.fr F6.out id).fr F7.out id)).mono ?_
            rintro e w8 ⟨rfl, hf8⟩
            have F8 := hid_ (F7.out.then_none hf8)
            rw [show (Er.at_ sX1 (m : Int) (.code cm)).first = cm from rfl]
            clear hf8
            go_wp2_with fail
            refine (weight_ok cm _).mono ?_
            rintro e w9 ⟨rfl, hf9⟩
            have F9 := hid_ (F8.out.then_none hf9)
            clear hf9
            have hd : decide (wtM cm < wtM (codeAt l k)) = false := by
              have := HM.out k hlt
              rw [HC.out] at this
              simpa using this
            go_wp2_with fail
            go_roundw
            case rel => exact ⟨k + 1, by omega, by go_num, G6.out.then_none F9.out⟩
            case measure => simp [intOf]; omega
          · obtain rfl : k = l.length := by omega
            go_wp2_with fail
            refine (awake1 _ (HL.out.fr F6.out id)).mono ?_
            rintro e w7 ⟨rfl, hf7⟩
            have F7 := hid_ (F6.out.then_none hf7)
            clear hf7
            go_wp2_with fail
            go_ret
            exact ⟨rfl, F7.out⟩
theorem worst_walk_i (A : Option Addr) (n c : Nat) (no : Int) (w : World) (hc : n ≤ c) (hm : c ≤ maxLen) (h0 : ∃ N, IntReads w A n N) (hn : (Lit.int .u8 no).wf = true) (hL : Laid w) :
    Calls Tryd.prog 4 #[.slice A n c, .int .u8 no] w fun e w' => e = .returned (.bool true) ∧ Fr none_ w w' := by
  obtain ⟨L, h3⟩ := h0
  obtain rfl : L.length = n := h3.1
  exact worst_walk L A c no w h3 (by omega) (wf_u8 hn).1 (wf_u8 hn).2 hL
end Go.Proofs.YtcfddlfeldidjaaDoor

/- inner.Fold of a chain of one base. Written by gen_ea13.py. -/
import Derived.Test.YthpkbppaaagaoaaGreatMhF
namespace Go.Proofs.YthpkbppaaagaoaaGreat
open Go.RowKit Go.BigFrame
set_option maxRecDepth 100000
set_option linter.unusedVariables false

theorem vin_ok (V : Vw) (ve : Value) (key : ByteArray) (w : World) (h1 : SzOk V.low) (h2 : SzOk V.high) (h3 : SzOk key) :
    Calls Tryz.prog 135 #[vwV V ve, .string key] w fun e w' => e = .returned (.bool (inS V.low V.high V.unb key)) ∧ Fr none_ w w' := by
  have F0 := hid_ ((Fr.refl none_ w).alloc (.cells (vwA V ve) 138))
  have H := hid_ (And.intro h1 (And.intro h2 h3))
  clear h1 h2 h3
  go_enter Tryz.func135, Tryz.ntmps135
  go_wp2_with fail
  refine (in_ok V.low V.high V.unb key _ H.out.1.le H.out.2.1.le H.out.2.2.le).mono ?_
  rintro e w1 ⟨rfl, q, rfl⟩
  go_wp2
  go_ret
  exact ⟨rfl, F0.out.drewN q⟩
set_option maxHeartbeats 4000000 in
theorem sound_ok (V : Vw) (A : Option Addr) (c : Nat) (w : World) (h : VwIn w V A c) :
    Calls Tryz.prog 121 #[vwV V (.slice A V.ents.length c)] w (SoundPost V w) := by
  obtain ⟨w0, hw0⟩ : ∃ w0, w0 = w.alloc (.cells (vwA V (.slice A V.ents.length c)) 138) := ⟨_, rfl⟩
  have f0 : Fr none_ w w0 := by rw [hw0]; exact (Fr.refl none_ w).alloc _
  have F0 := hid_ f0
  have H0 := hid_ (h.keep f0)
  have B0 : Hid (Blk w0 w.heap.size 138 (vwA V (.slice A V.ents.length c))) := hid_ (by rw [hw0]; exact Blk.new w _ _)
  have h1000 := h.ok.ents.1
  have OK := hid_ h.ok
  have v0 : w0.cell? ⟨w.heap.size, 0, none⟩ = some (.string V.low) := B0.out.cell' rfl
  have v1 : w0.cell? ⟨w.heap.size, 1, none⟩ = some (.string V.high) := B0.out.cell' rfl
  have v2 : w0.cell? ⟨w.heap.size, 2, none⟩ = some (.bool V.unb) := B0.out.cell' rfl
  have v4 : w0.cell? ⟨w.heap.size, 4, none⟩ = some (.slice A V.ents.length c) := B0.out.cell' rfl
  clear h f0
  by_cases hl0 : V.ents.length = 0
  · have hne : ¬ Sound V := fun h => by
      obtain ⟨p, hp, _⟩ := h.head
      rw [List.getElem?_eq_none (by omega)] at hp
      cases hp
    have HNE := hid_ hne
    rw [hl0] at v4 hw0
    rw [hl0]
    clear hl0 hne
    go_enter Tryz.func121, Tryz.ntmps121
    go_wp2_with fail
    change Code.wp _ _ _ _ (w.alloc (.cells (vwA V (.slice A 0 c)) 138))
    rw [← hw0]
    clear hw0
    go_quiet (fail)
    go_wp2_with fail
    go_ret
    exact ⟨false, rfl, ⟨(fun h => by cases h), fun h => absurd h HNE.out⟩, F0.out.drewN _⟩
  obtain ⟨p0, hp0⟩ : ∃ p, V.ents[0]? = some p := ⟨_, List.getElem?_eq_getElem (by omega)⟩
  obtain ⟨b, off, rfl, hb, c0, c1⟩ := et_at H0.out.rd hp0
  have hd0 : decide ((0 : Int) < (V.ents.length : Int)) = true := by simp; omega
  have hd0' : ((V.ents.length : Int) == 0) = false := beq_eq_false_iff_ne.2 (by omega)
  have hi1 : (0 : Int) < (V.ents.length : Int) := by omega
  simp only [Nat.zero_mul, Nat.add_zero] at c0
  have HP0 := hid_ hp0
  have HL0 := hid_ hl0
  clear hp0 c1 hl0
  by_cases hlow : p0.1 = V.low
  case neg =>
    have hne : ¬ Sound V := fun h => by
      obtain ⟨p, hp, e⟩ := h.head
      rw [HP0.out] at hp
      cases hp
      exact hlow e
    have HNE := hid_ hne
    have hs1 := sEq_ne hlow
    unfold sEq at hs1
    have hs2 : (p0.1.toList != V.low.toList) = true := by simpa [bne] using hs1
    clear hne hlow
    go_enter Tryz.func121, Tryz.ntmps121
    go_wp2_with fail
    change Code.wp _ _ _ _ (w.alloc (.cells (vwA V (.slice (some ⟨b, off, none⟩) V.ents.length c)) 138))
    rw [← hw0]
    clear hw0
    go_quiet (fail)
    go_wp2_with fail
    go_ret
    exact ⟨false, rfl, ⟨(fun h => by cases h), fun h => absurd h HNE.out⟩, F0.out.drewN _⟩
  have hs1 : (p0.1.toList == V.low.toList) = true := sEq_iff.2 hlow
  have hs2 : (p0.1.toList != V.low.toList) = false := by simpa [bne] using hs1
  have HLOW := hid_ hlow
  clear hlow
  by_cases hhi : V.unb = true ∧ V.high ≠ nilS
  · have hne : ¬ Sound V := fun h => hhi.2 (h.high hhi.1)
    have HNE := hid_ hne
    rw [hhi.1] at v2
    have hh : V.high.toList.isEmpty = false := by
      cases e : V.high.toList.isEmpty with
      | false => rfl
      | true => exact absurd (ba_eq (by rw [← ba_toList, List.isEmpty_iff.1 e])) hhi.2
    have hh2 : (!V.high.toList.isEmpty) = true := by rw [hh]; rfl
    clear hne hhi
    go_enter Tryz.func121, Tryz.ntmps121
    go_wp2_with fail
    change Code.wp _ _ _ _ (w.alloc (.cells (vwA V (.slice (some ⟨b, off, none⟩) V.ents.length c)) 138))
    rw [← hw0]
    clear hw0
    go_quiet (fail)
    go_wp2_with fail
    go_ret
    exact ⟨false, rfl, ⟨(fun h => by cases h), fun h => absurd h HNE.out⟩, F0.out.drewN _⟩
  have HHI : Hid (V.unb = true → V.high = nilS) := hid_ (fun hu => Classical.byContradiction fun hn => hhi ⟨hu, hn⟩)
  clear hhi
  go_enter Tryz.func121, Tryz.ntmps121
  go_upto_region 1 with fail
  change Code.wp _ _ _ _ (w.alloc (.cells (vwA V (.slice (some ⟨b, off, none⟩) V.ents.length c)) 138))
  rw [← hw0]
  clear hw0
  go_cut [27] (fun v wq => v = .bool false ∧ Fr none_ w0 wq)
  case first =>
    cases hu : V.unb with
    | false =>
      rw [hu] at v2
      clear hu
      go_quiet (fail)
      go_wp2
      go_meet
      case rel => exact ⟨rfl, (Fr.refl none_ w0).drewN _⟩
    | true =>
      have hh := HHI.out hu
      rw [hu] at v2
      rw [hh] at v1
      clear hu hh
      go_quiet (fail)
      go_wp2
      go_meet
      case rel => exact ⟨rfl, (Fr.refl none_ w0).drewN _⟩
  case rest =>
  obtain ⟨rfl, hf⟩ := hcut
  have B1 := hid_ (B0.out.fr hf id)
  have F1 := hid_ (F0.out.then_none hf)
  have H1 := hid_ (H0.out.keep hf)
  clear hf v0 v1 v2 v4 c0 hs1 hs2 hd0 hd0'
  have v4 : wc.cell? ⟨w.heap.size, 4, none⟩ = some (.slice (some ⟨b, off, none⟩) V.ents.length c) := B1.out.cell' rfl
  go_wp2_with fail
  clear v4 F0 H0 B0
  go_loopw [31] (fun i wr => ∃ k : Nat, k ≤ V.ents.length ∧ i = .int .i64 k ∧ SoundTo V k ∧ Fr none_ wc wr) (fun i _ => V.ents.length - (intOf i).toNat)
  case atStart => exact ⟨0, Nat.zero_le _, rfl, ⟨fun j p hj => by omega, fun j p q hj => by omega⟩, Fr.refl _ _⟩
  case round =>
    obtain ⟨k, hk, rfl, hst, hF⟩ := hrel
    have ST := hid_ hst
    have B := hid_ (B1.out.fr hF id)
    have H := hid_ (H1.out.keep hF)
    have F := hid_ (F1.out.then_none hF)
    have FC := hid_ hF
    clear hst hF
    have hi0 : (0 : Int) ≤ (k : Int) := Int.natCast_nonneg _
    by_cases hlt : k < V.ents.length
    · have hi1' : (k : Int) < (V.ents.length : Int) := by omega
      obtain ⟨p, hp⟩ : ∃ p, V.ents[k]? = some p := ⟨_, List.getElem?_eq_getElem hlt⟩
      obtain ⟨b2, off2, hA, hb2, c0, c1⟩ := et_at H.out.rd hp
      obtain ⟨rfl, rfl⟩ : b = b2 ∧ off = off2 := by injection hA with hA; injection hA with e1 e2; exact ⟨e1, e2⟩
      have HP := hid_ hp
      clear hp hA
      go_upto_region 6 with fail
      obtain ⟨X, hX⟩ : ∃ X, X = wr.heap.size := ⟨_, rfl⟩
      obtain ⟨w2, hw2⟩ : ∃ w2, w2 = wr.alloc (.cells #[.string p.1, .int .i64 p.2] 132) := ⟨_, rfl⟩
      have f2 : Fr none_ wr w2 := by rw [hw2]; exact (Fr.refl none_ wr).alloc _
      have BX : Hid (Blk w2 X 132 #[.string p.1, .int .i64 p.2]) := hid_ (by rw [hw2, hX]; exact Blk.new wr _ _)
      have B2 := hid_ (B.out.fr f2 id)
      have H2 := hid_ (H.out.keep f2)
      have F2 := hid_ (FC.out.then_none f2)
      rw [← hX]
      change Code.wp _ _ _ _ (wr.alloc (.cells #[.string p.1, .int .i64 p.2] 132))
      rw [← hw2]
      clear hw2 hX f2 c0 c1
      have hpk := OK.out.ents.2 p (List.mem_of_getElem? HP.out)
      have HPK := hid_ hpk
      clear hpk
      go_cut [57] (fun v wq => ∃ bb : Bool, v = .bool bb ∧ (bb = false ↔ (inS V.low V.high V.unb p.1 = true ∧ ∀ q, 0 < k → V.ents[k - 1]? = some q → ltS q.1 p.1 = true)) ∧ Fr none_ w2 wq)
      case first =>
        have v0 : w2.cell? ⟨w.heap.size, 0, none⟩ = some (.string V.low) := B2.out.cell' rfl
        have v1 : w2.cell? ⟨w.heap.size, 1, none⟩ = some (.string V.high) := B2.out.cell' rfl
        have v2 : w2.cell? ⟨w.heap.size, 2, none⟩ = some (.bool V.unb) := B2.out.cell' rfl
        have v3 : w2.cell? ⟨w.heap.size, 3, none⟩ = some (.int .i64 V.right) := B2.out.cell' rfl
        have v4 : w2.cell? ⟨w.heap.size, 4, none⟩ = some (.slice (some ⟨b, off, none⟩) V.ents.length c) := B2.out.cell' rfl
        have v5 : w2.cell? ⟨w.heap.size, 5, none⟩ = some (.bool V.held) := B2.out.cell' rfl
        have v6 : w2.cell? ⟨w.heap.size, 6, none⟩ = some (.int .i64 V.hp) := B2.out.cell' rfl
        have v7 : w2.cell? ⟨w.heap.size, 7, none⟩ = some (.int .i64 V.hl) := B2.out.cell' rfl
        have v8 : w2.cell? ⟨w.heap.size, 8, none⟩ = some (.string V.hk) := B2.out.cell' rfl
        have x0 : w2.cell? ⟨X, 0, none⟩ = some (.string p.1) := BX.out.cell' rfl
        have y0 : ∀ x : Wx w2, x.to.cell? ⟨w.heap.size, 0, none⟩ = some (.string V.low) := fun x => x.cell v0
        have y1 : ∀ x : Wx w2, x.to.cell? ⟨w.heap.size, 1, none⟩ = some (.string V.high) := fun x => x.cell v1
        have y2 : ∀ x : Wx w2, x.to.cell? ⟨w.heap.size, 2, none⟩ = some (.bool V.unb) := fun x => x.cell v2
        have y3 : ∀ x : Wx w2, x.to.cell? ⟨w.heap.size, 3, none⟩ = some (.int .i64 V.right) := fun x => x.cell v3
        have y4 : ∀ x : Wx w2, x.to.cell? ⟨w.heap.size, 4, none⟩ = some (.slice (some ⟨b, off, none⟩) V.ents.length c) := fun x => x.cell v4
        have y5 : ∀ x : Wx w2, x.to.cell? ⟨w.heap.size, 5, none⟩ = some (.bool V.held) := fun x => x.cell v5
        have y6 : ∀ x : Wx w2, x.to.cell? ⟨w.heap.size, 6, none⟩ = some (.int .i64 V.hp) := fun x => x.cell v6
        have y7 : ∀ x : Wx w2, x.to.cell? ⟨w.heap.size, 7, none⟩ = some (.int .i64 V.hl) := fun x => x.cell v7
        have y8 : ∀ x : Wx w2, x.to.cell? ⟨w.heap.size, 8, none⟩ = some (.string V.hk) := fun x => x.cell v8
        have z0 : ∀ x : Wx w2, x.to.cell? ⟨X, 0, none⟩ = some (.string p.1) := fun x => x.cell x0
        clear v0 v1 v2 v3 v4 v5 v6 v7 v8 x0
        cases hin : inS V.low V.high V.unb p.1 with
        | false =>
          have HC : Hid (∀ x : Wx w2, Calls Tryz.prog 135 #[vwV V (.slice (some ⟨b, off, none⟩) V.ents.length c), .string p.1] x.to fun e w' => e = .returned (.bool false) ∧ Fr none_ x.to w') := hid_ (fun x => by
            have h := vin_ok V (.slice (some ⟨b, off, none⟩) V.ents.length c) p.1 x.to OK.out.low OK.out.high HPK.out
            rwa [hin] at h)
          have HIN := hid_ hin
          clear hin
          refine wp_region_quiet_x (by kernel_rfl) (by kernel_rfl) ?_
          repeat (first | go_big_quiet_step ((go_at_call 135; exact Calls.quiet_x (HC.out _))) | quiet_step ((go_at_call 135; exact Calls.quiet_x (HC.out _))))
          refine wpQuiet_nil ?_
          intro _ hw'
          obtain ⟨xq, hw''⟩ := hw'
          subst hw''
          go_wp2
          go_meet
          case rel => exact ⟨true, rfl, ⟨(fun h => by cases h), fun h => by rw [HIN.out] at h; cases h.1⟩, xq.fr⟩
        | true =>
          have HC : Hid (∀ x : Wx w2, Calls Tryz.prog 135 #[vwV V (.slice (some ⟨b, off, none⟩) V.ents.length c), .string p.1] x.to fun e w' => e = .returned (.bool true) ∧ Fr none_ x.to w') := hid_ (fun x => by
            have h := vin_ok V (.slice (some ⟨b, off, none⟩) V.ents.length c) p.1 x.to OK.out.low OK.out.high HPK.out
            rwa [hin] at h)
          have HIN := hid_ hin
          clear hin
          by_cases hk0 : 0 < k
          · obtain ⟨q, hq⟩ : ∃ q, V.ents[k - 1]? = some q := ⟨_, List.getElem?_eq_getElem (by omega)⟩
            obtain ⟨b3, off3, hA, hb3, d0, d1⟩ := et_at H2.out.rd hq
            obtain ⟨rfl, rfl⟩ : b = b3 ∧ off = off3 := by injection hA with hA; injection hA with e1 e2; exact ⟨e1, e2⟩
            have e0 : ∀ x : Wx w2, x.to.cell? ⟨b, off + (k - 1) * 2, none⟩ = some (.string q.1) := fun x => x.cell d0
            have hqk := OK.out.ents.2 q (List.mem_of_getElem? hq)
            have HQK := hid_ hqk
            have HQ := hid_ hq
            have HQ' : Hid ((∀ q', 0 < k → V.ents[k - 1]? = some q' → ltS q'.1 p.1 = true) ↔ ltS q.1 p.1 = true) := hid_ ⟨fun h => h q hk0 hq, fun h q' _ hq' => by rw [hq] at hq'; cases hq'; exact h⟩
            have HC2 : Hid (∀ x : Wx w2, Calls Tryz.prog 115 #[.string q.1, .string p.1] x.to fun e w' => e = .returned (.int .i64 (cmpI q.1 p.1)) ∧ Fr none_ x.to w') := hid_ (fun x => (compare_ok q.1 p.1 x.to HQK.out.le HPK.out.le).mono (by rintro e w' ⟨rfl, n, rfl⟩; exact ⟨rfl, (Fr.refl none_ _).drewN n⟩))
            have hw1 : IntKind.i64.wrap ((k : Int) - 1) = ((k - 1 : Nat) : Int) := by rw [show (k : Int) - 1 = ((k - 1 : Nat) : Int) by omega]; exact IntWalk.i64_in _ (by omega)
            have hdk : decide (0 < k) = true := decide_eq_true hk0
            have hj0 : (0 : Int) ≤ ((k - 1 : Nat) : Int) := Int.natCast_nonneg _
            have hj1 : ((k - 1 : Nat) : Int) < (V.ents.length : Int) := by omega
            obtain ⟨j, hj⟩ : ∃ j, j = k - 1 := ⟨_, rfl⟩
            rw [← hj] at e0 hw1 hj0 hj1
            have HJ := hid_ hj
            have hge := cmp_ge q.1 p.1
            have HGE := hid_ hge
            clear hq hA d0 d1 hqk hj hge hk0
            refine wp_region_quiet_x (by kernel_rfl) (by kernel_rfl) ?_
            repeat (first | go_big_quiet_step ((first | (go_at_call 135; exact Calls.quiet_x (HC.out _)) | (go_at_call 115; exact Calls.quiet_x (HC2.out _)))) | quiet_step ((first | (go_at_call 135; exact Calls.quiet_x (HC.out _)) | (go_at_call 115; exact Calls.quiet_x (HC2.out _)))))
            refine wpQuiet_nil ?_
            intro _ hw'
            obtain ⟨xq, hw''⟩ := hw'
            subst hw''
            go_wp2
            go_meet
            case rel => exact ⟨_, rfl, by
              rw [HGE.out, HIN.out, HQ'.out]
              cases ltS q.1 p.1 <;> simp, xq.fr⟩
          · have hdk : decide (0 < k) = false := decide_eq_false hk0
            have hk0' : k = 0 := by omega
            have HK0 := hid_ hk0'
            clear hk0 hk0'
            refine wp_region_quiet_x (by kernel_rfl) (by kernel_rfl) ?_
            repeat (first | go_big_quiet_step ((go_at_call 135; exact Calls.quiet_x (HC.out _))) | quiet_step ((go_at_call 135; exact Calls.quiet_x (HC.out _))))
            refine wpQuiet_nil ?_
            intro _ hw'
            obtain ⟨xq, hw''⟩ := hw'
            subst hw''
            go_wp2
            go_meet
            case rel => exact ⟨false, rfl, ⟨fun _ => ⟨HIN.out, fun q h => by have := HK0.out; omega⟩, fun _ => rfl⟩, xq.fr⟩
      case rest =>
      obtain ⟨bb, rfl, hbb, hf⟩ := hcut
      have F3 := hid_ (F2.out.then_none hf)
      have HB := hid_ hbb
      clear hf hbb B2 H2 BX F2
      cases bb with
      | true =>
        have hns : ¬ Sound V := fun hS => by
          have h := HB.out.2 ⟨hS.inn p (List.mem_of_getElem? HP.out), fun q h0 hq => hS.ris (k - 1) q p hq (by rw [show k - 1 + 1 = k by omega]; exact HP.out)⟩
          cases h
        have HNS := hid_ hns
        clear hns
        go_wp2_with fail
        go_ret
        exact ⟨false, rfl, ⟨(fun h => by cases h), fun h => absurd h HNS.out⟩, F1.out.then_none F3.out⟩
      | false =>
        have hst : SoundTo V (k + 1) := by
          have h := HB.out.1 rfl
          refine ⟨fun j p' hj hp' => ?_, fun j p' q hj hp' hq => ?_⟩
          · rcases Nat.lt_succ_iff_lt_or_eq.1 hj with hj | rfl
            · exact ST.out.1 j p' hj hp'
            · rw [HP.out] at hp'; cases hp'; exact h.1
          · rcases Nat.lt_succ_iff_lt_or_eq.1 hj with hj | hj
            · exact ST.out.2 j p' q hj hp' hq
            · rw [hj, HP.out] at hq
              cases hq
              exact h.2 p' (by omega) (by rw [show k - 1 = j by omega]; exact hp')
        have HST := hid_ hst
        clear hst
        go_wp2_with fail
        go_roundw
        case rel => exact ⟨k + 1, by omega, by go_num, HST.out, F3.out⟩
        case measure => simp [intOf]; omega
    · obtain rfl : k = V.ents.length := by omega
      have hS : Sound V := ⟨⟨p0, HP0.out, HLOW.out⟩, HHI.out, fun p hp => by obtain ⟨j, hj, e⟩ := List.mem_iff_getElem.1 hp; exact ST.out.1 j p hj (by rw [List.getElem?_eq_getElem hj, e]), fun j p q hp hq => ST.out.2 j p q (List.getElem?_eq_some_iff.1 hq).1 hp hq⟩
      have HS := hid_ hS
      clear hS
      go_wp2_with fail
      go_ret
      exact ⟨true, rfl, ⟨fun _ => HS.out, fun _ => rfl⟩, F.out⟩
theorem box9 {w1 : World} {b : Nat} {t : TypeId} {c0 c1 c2 c3 c4 c5 c6 c7 c8 : Value} (h : Blk w1 b t #[c0, c1, c2, c3, c4, c5, c6, c7, c8]) (x0 x1 x2 x3 x4 x5 x6 x7 x8 : Value) :
    Blk (((((((((w1.setCell ⟨b, 0, none⟩ x0).setCell ⟨b, 1, none⟩ x1).setCell ⟨b, 2, none⟩ x2).setCell ⟨b, 3, none⟩ x3).setCell ⟨b, 4, none⟩ x4).setCell ⟨b, 5, none⟩ x5).setCell ⟨b, 6, none⟩ x6).setCell ⟨b, 7, none⟩ x7).setCell ⟨b, 8, none⟩ x8) b t #[x0, x1, x2, x3, x4, x5, x6, x7, x8] ∧ Fr (only b) w1 (((((((((w1.setCell ⟨b, 0, none⟩ x0).setCell ⟨b, 1, none⟩ x1).setCell ⟨b, 2, none⟩ x2).setCell ⟨b, 3, none⟩ x3).setCell ⟨b, 4, none⟩ x4).setCell ⟨b, 5, none⟩ x5).setCell ⟨b, 6, none⟩ x6).setCell ⟨b, 7, none⟩ x7).setCell ⟨b, 8, none⟩ x8) := by
  refine ⟨?_, (((((((((Fr.refl (only b) w1).setCell (p := ⟨b, 0, none⟩) (.inl (Eq.refl _)) x0).setCell (p := ⟨b, 1, none⟩) (.inl (Eq.refl _)) x1).setCell (p := ⟨b, 2, none⟩) (.inl (Eq.refl _)) x2).setCell (p := ⟨b, 3, none⟩) (.inl (Eq.refl _)) x3).setCell (p := ⟨b, 4, none⟩) (.inl (Eq.refl _)) x4).setCell (p := ⟨b, 5, none⟩) (.inl (Eq.refl _)) x5).setCell (p := ⟨b, 6, none⟩) (.inl (Eq.refl _)) x6).setCell (p := ⟨b, 7, none⟩) (.inl (Eq.refl _)) x7).setCell (p := ⟨b, 8, none⟩) (.inl (Eq.refl _)) x8⟩
  have e := (((((((((h.set_ 0 x0).set_ 1 x1).set_ 2 x2).set_ 3 x3).set_ 4 x4).set_ 5 x5).set_ 6 x6).set_ 7 x7).set_ 8 x8)
  simp only [List.setIfInBounds_toArray, List.set_cons_zero, List.set_cons_succ] at e
  exact e
abbrev Pt := Option Addr × Nat × List Et
abbrev ptV (x : Pt) : Value := .slice x.1 x.2.2.length x.2.1
def ptL (ps : List Pt) : List Et := (ps.map (·.2.2)).flatten
theorem ptL_take {ps : List Pt} {k : Nat} {x : Pt} (h : ps[k]? = some x) : ptL (ps.take (k + 1)) = ptL (ps.take k) ++ x.2.2 := by
  simp [ptL, List.take_add_one, h]
theorem ptL_le (ps : List Pt) : ∀ k, (ptL (ps.take k)).length ≤ (ptL ps).length := fun k => by
  have : ptL ps = ptL (ps.take k) ++ ptL (ps.drop k) := by
    unfold ptL
    rw [← List.flatten_append, ← List.map_append, List.take_append_drop]
  rw [this, List.length_append]
  omega
def JoinPost (w : World) (L : List Et) (e : Ending) (w' : World) : Prop :=
  ∃ A c, e = .returned (.slice A L.length c) ∧ w'.ownsRow w.heap.size 132 2 (.slice A L.length c) L.length (etFlat L) ∧ Fr none_ w w'
set_option maxHeartbeats 2000000 in
theorem joined_ok (b : Nat) (ps : List Pt) (w : World) (hb : ∀ (i : Nat) x, ps[i]? = some x → w.cell? ⟨b, i, none⟩ = some (ptV x)) (hr : ∀ x ∈ ps, Reads w 2 x.1 x.2.2.length (etFlat x.2.2)) (hl : (ptL ps).length ≤ 2000) (hn : ps.length ≤ 10) :
    Calls Tryz.prog 120 #[.slice (some ⟨b, 0, none⟩) ps.length ps.length] w (JoinPost w (ptL ps)) := by
  obtain ⟨i0, hi0, hz0, hs0, hb0⟩ := info_parts entry_info
  have Hi := hid_ (And.intro hi0 (And.intro hz0 (And.intro hs0 hb0)))
  have HB := hid_ hb
  have HR := hid_ hr
  clear hi0 hz0 hs0 hb0 hb hr
  go_enter Tryz.func120, Tryz.ntmps120
  go_wp2_with fail
  go_loopw [3, 8] (fun v i wr => ∃ k : Nat, k ≤ ps.length ∧ i = .int .i64 k ∧ wr.ownsRow w.heap.size 132 2 v (ptL (ps.take k)).length (etFlat (ptL (ps.take k))) ∧ Fr none_ w wr) (fun _ i _ => ps.length - (intOf i).toNat)
  case atStart => exact ⟨0, Nat.zero_le _, rfl, World.ownsRow_nil _ _ _ _, Fr.refl _ _⟩
  case round =>
    obtain ⟨k, hk, rfl, hown, hF⟩ := hrel
    obtain ⟨A, c, rfl⟩ := hown.shape
    have O := hid_ hown
    have F := hid_ hF
    clear hown hF
    have hi0 : (0 : Int) ≤ (k : Int) := Int.natCast_nonneg _
    by_cases hlt : k < ps.length
    · have hi1 : (k : Int) < (ps.length : Int) := by omega
      obtain ⟨x, hx⟩ : ∃ x, ps[k]? = some x := ⟨_, List.getElem?_eq_getElem hlt⟩
      obtain ⟨A2, c2, L2⟩ := x
      have hc : wr.cell? ⟨b, k, none⟩ = some (.slice A2 L2.length c2) := cellFr (HB.out k _ hx) F.out
      have R := hid_ ((HR.out _ (List.mem_of_getElem? hx)).none_fr F.out)
      have HT := hid_ (ptL_take hx)
      have hle : (ptL (ps.take k)).length + L2.length ≤ (ptL ps).length := by
        have := ptL_le ps (k + 1)
        rw [HT.out, List.length_append] at this
        exact this
      have hfs := F.out.size
      clear hx
      go_wp2_with (at_builtin; refine wpList_append_any _ rfl (.tmp 12) (.tmp 13) 49 rfl w.heap.size 132 i0 _ 2 24 Tryz.underlying49 Hi.out.1 Hi.out.2.1 Hi.out.2.2.1 Hi.out.2.2.2 rfl (by omega) (.slice A (ptL (ps.take k)).length c) (ptL (ps.take k)).length (etFlat (ptL (ps.take k))) rfl O.out A2 L2.length c2 (etFlat L2) rfl R.out (etFlat_one _) (by simp only [maxLen]; omega) (by omega) hfs ?_; intro A3 c3 w3 hown3 hgr3)
      have R3 : w3.ownsRow w.heap.size 132 2 (.slice A3 ((ptL (ps.take k)).length + L2.length) c3) (ptL (ps.take (k + 1))).length (etFlat (ptL (ps.take (k + 1)))) ∧ Fr none_ w w3 := by
        refine ⟨?_, F.out.grown hgr3 (fun b hb => .inr (O.out.lt b hb).1)⟩
        rw [HT.out, List.length_append, etFlat_app]
        exact hown3
      have HR3 := hid_ R3
      clear R3 hown3 hgr3
      go_wp2
      go_roundw
      case rel => exact ⟨k + 1, by omega, by go_num, HR3.out.1, HR3.out.2⟩
      case measure => simp [intOf]; omega
    · obtain rfl : k = ps.length := by omega
      have o := O.out
      have f := F.out
      rw [List.take_length] at o
      go_wp2
      go_ret
      rw [List.take_length]
      exact ⟨A, c, rfl, o, f⟩
def FoldPostI (w : World) (e : Ending) (w' : World) : Prop := ∃ (V : Vw) (A : Option Addr) (c : Nat), e = .returned (.tuple #[vwV V (.slice A V.ents.length c), .nilIface]) ∧ Fr none_ w w'
set_option maxHeartbeats 8000000 in
theorem foldI_ok (A : Option Addr) (n cap : Nat) (L : List Ch) (w : World) (h : ChReads w A n L) (h1 : n = 1) (hs : ∀ C ∈ L, C.R.ents.length ≤ 500 ∧ C.R.kind = 7 ∧ Sound (baseV C.R)) :
    Calls Tryz.prog 110 #[.slice A n cap] w (FoldPostI w) := by
  have H1 := hid_ h1
  have hn : n ≤ 400 := by omega
  clear h1
  have hln := h.1
  obtain ⟨w0, hw0⟩ : ∃ w0, w0 = w.alloc (.cells (vwA Vw.zero (.slice none 0 0)) 138) := ⟨_, rfl⟩
  have f0 : Fr none_ w w0 := by rw [hw0]; exact (Fr.refl none_ w).alloc _
  have BO : Hid (Blk w0 w.heap.size 138 (vwA Vw.zero (.slice none 0 0))) := hid_ (by rw [hw0]; exact Blk.new w _ _)
  have F0 := hid_ f0
  have H := hid_ h
  have HS := hid_ hs
  have hsz0 : w.heap.size < w0.heap.size := BO.out.lt
  clear h f0 hs
  go_enter Tryz.func110, Tryz.ntmps110
  go_wp2_with fail
  change Code.wp _ _ _ _ (w.alloc (.cells (vwA Vw.zero (.slice none 0 0)) 138))
  rw [← hw0]
  clear hw0
  go_loopw [13] (fun i wr => ∃ k : Nat, k ≤ n ∧ i = .int .i64 k ∧ Fr none_ w0 wr) (fun i _ => n - (intOf i).toNat)
  case atStart => exact ⟨0, Nat.zero_le _, rfl, Fr.refl _ _⟩
  case round =>
    obtain ⟨k, hk, rfl, hF⟩ := hrel
    have F := hid_ hF
    clear hF
    have hi0 : (0 : Int) ≤ (k : Int) := Int.natCast_nonneg _
    by_cases hlt : k < n
    · obtain ⟨C, hC⟩ : ∃ C, L[k]? = some C := ⟨_, List.getElem?_eq_getElem (by omega)⟩
      obtain ⟨b, off, rfl, hb, hR, hO⟩ := (H.out.keep (F0.out.then_none F.out)).at_ hC
      have hi1 : (k : Int) < (n : Int) := by omega
      have HR := hid_ hR
      have HC := hid_ hC
      clear hR hO hC
      go_upto_region 4 with (first | (refine wpList_load_mid rfl 51 (.tmp 15) rfl b (off + k * 15) rfl (recL C) _ HR.out Tryz.underlying51 rfl rec_size8 ?_) | (refine wpList_store_mid rfl 51 (.tmp 5) (.tmp 16) rfl wr.heap.size 0 (recL C).toArray rfl rfl (new_there wr _ recZ8) rec_size8 (rec_one C) ?_; obtain ⟨w1, hw1⟩ : ∃ w1, w1 = (wr.alloc (.cells recZ8 51)).setCells wr.heap.size 0 (recL C) := ⟨_, rfl⟩; change wpList _ _ _ _ _ ((wr.alloc (.cells recZ8 51)).setCells wr.heap.size 0 (recL C)); rw [← hw1]; have P1 : Hid (Blk w1 wr.heap.size 51 (recL C).toArray ∧ Fr none_ wr w1) := hid_ (by rw [hw1]; exact new_copy wr _ recZ8 _ rfl); clear hw1))
      have c0 : w1.cell? ⟨wr.heap.size, 0, none⟩ = some (.int .i64 7) := by rw [← (HS.out C (List.mem_of_getElem? HC.out)).2.1]; exact P1.out.1.cell' rfl
      go_wp2_with fail
      go_roundw
      case rel => exact ⟨k + 1, by omega, by go_num, F.out.then_none P1.out.2⟩
      case measure => simp [intOf]; omega
    · obtain rfl : k = n := by omega
      have F1 := hid_ (F0.out.then_none F.out)
      have BO1 := hid_ (BO.out.fr F.out id)
      have hsz1 := F.out.size
      clear hlt hi0 BO F0
      obtain ⟨m, rfl⟩ : ∃ m, k = m + 1 := ⟨k - 1, by have := H1.out; omega⟩
      have HM0 : Hid (m = 0) := hid_ (by have := H1.out; omega)
      obtain ⟨D, hD⟩ : ∃ D, L[m]? = some D := ⟨_, List.getElem?_eq_getElem (by omega)⟩
      obtain ⟨b, off, rfl, hb, hR, hO⟩ := (H.out.keep F1.out).at_ hD
      have HD := hid_ hD
      have HR := hid_ hR
      have HO := hid_ hO
      obtain ⟨hDs, hD7, hDS⟩ := HS.out D (List.mem_of_getElem? hD)
      have HDS := hid_ hDS
      have hi0 : (0 : Int) ≤ (m : Int) := Int.natCast_nonneg _
      have hi1 : (m : Int) < ((m + 1 : Nat) : Int) := by omega
      have hi2 : (m : Int) < (m : Int) + 1 := by omega
      have hw1 : IntKind.i64.wrap ((m : Int) + 1 - 1) = (m : Int) := by rw [show (m : Int) + 1 - 1 = (m : Int) by omega]; exact IntWalk.i64_in _ (by omega)
      have k0 : wr.cell? ⟨b, off + m * 15, none⟩ = some (.int .i64 7) := by rw [← hD7]; exact HR.out 0 _ rfl
      clear hD hR hO hD7 hDS
      go_upto_region 11 with (first | (refine wpList_load_mid rfl 51 (.tmp 45) rfl b (off + m * 15) rfl (recL D) _ HR.out Tryz.underlying51 rfl rec_size8 ?_) | (refine wpList_store_mid rfl 51 (.tmp 7) (.tmp 46) rfl wr.heap.size 0 (recL D).toArray rfl rfl (new_there wr _ recZ8) rec_size8 (rec_one D) ?_; obtain ⟨w1, hw1⟩ : ∃ w1, w1 = (wr.alloc (.cells recZ8 51)).setCells wr.heap.size 0 (recL D) := ⟨_, rfl⟩; change wpList _ _ _ _ _ ((wr.alloc (.cells recZ8 51)).setCells wr.heap.size 0 (recL D)); rw [← hw1]; have P1 : Hid (Blk w1 wr.heap.size 51 (recL D).toArray ∧ Fr none_ wr w1) := hid_ (by rw [hw1]; exact new_copy wr _ recZ8 _ rfl); clear hw1))
      try go_frame
      have BO2 := hid_ (BO1.out.fr P1.out.2 id)
      have F2 := hid_ (F1.out.then_none P1.out.2)
      have HO2 := hid_ (HO.out.keep P1.out.2)
      have hsz2 := P1.out.2.size
      go_cut [8] (fun v wq => ∃ X A' c', v = .pointer (some ⟨X, 0, none⟩) ∧ w.heap.size < X ∧ Blk wq X 138 (vwA (baseV D.R) (.slice A' D.R.ents.length c')) ∧ VwIn wq (baseV D.R) A' c' ∧ Fr none_ w1 wq)
      case first =>
        have g1 : w1.cell? ⟨wr.heap.size, 1, none⟩ = some (.string D.R.low) := P1.out.1.cell' rfl
        have g2 : w1.cell? ⟨wr.heap.size, 2, none⟩ = some (.string D.R.high) := P1.out.1.cell' rfl
        have g3 : w1.cell? ⟨wr.heap.size, 3, none⟩ = some (.bool D.R.unb) := P1.out.1.cell' rfl
        have g4 : w1.cell? ⟨wr.heap.size, 4, none⟩ = some (.int .i64 D.R.right) := P1.out.1.cell' rfl
        have g6 : w1.cell? ⟨wr.heap.size, 6, none⟩ = some (.slice D.B D.R.ents.length D.d) := P1.out.1.cell' rfl
        have hS0 : (fun w' : World => Fr none_ w1 w') w1.drew := (Fr.refl none_ w1).drew
        refine wp_region_U (m := 14) (S := fun w' : World => Fr none_ w1 w') (by kernel_rfl) ?_
        refine wpAnyU_take2 (i := 0) (v := _) rfl (by kernel_rfl) (by kernel_rfl) (by kernel_rfl) (by kernel_rfl) (fun _ _ _ h => h) (.inl ⟨by kernel_rfl, fun w' hS => by have s_g1 := cellFr g1 hS; have s_g2 := cellFr g2 hS; have s_g3 := cellFr g3 hS; have s_g4 := cellFr g4 hS; have s_g6 := cellFr g6 hS; go_simp; rfl⟩) hS0 ?_
        refine wpAnyU_take2 (i := 1) (v := _) rfl (by kernel_rfl) (by kernel_rfl) (by kernel_rfl) (by kernel_rfl) (fun _ _ _ h => h) (.inl ⟨by kernel_rfl, fun w' hS => by have s_g1 := cellFr g1 hS; have s_g2 := cellFr g2 hS; have s_g3 := cellFr g3 hS; have s_g4 := cellFr g4 hS; have s_g6 := cellFr g6 hS; go_simp; rfl⟩) hS0 ?_
        refine wpAnyU_take2 (i := 2) (v := _) rfl (by kernel_rfl) (by kernel_rfl) (by kernel_rfl) (by kernel_rfl) (fun _ _ _ h => h) (.inl ⟨by kernel_rfl, fun w' hS => by have s_g1 := cellFr g1 hS; have s_g2 := cellFr g2 hS; have s_g3 := cellFr g3 hS; have s_g4 := cellFr g4 hS; have s_g6 := cellFr g6 hS; go_simp; rfl⟩) hS0 ?_
        refine wpAnyU_take2 (i := 3) (v := _) rfl (by kernel_rfl) (by kernel_rfl) (by kernel_rfl) (by kernel_rfl) (fun _ _ _ h => h) (.inl ⟨by kernel_rfl, fun w' hS => by have s_g1 := cellFr g1 hS; have s_g2 := cellFr g2 hS; have s_g3 := cellFr g3 hS; have s_g4 := cellFr g4 hS; have s_g6 := cellFr g6 hS; go_simp; rfl⟩) hS0 ?_
        refine wpAnyU_take2 (i := 4) (v := _) rfl (by kernel_rfl) (by kernel_rfl) (by kernel_rfl) (by kernel_rfl) (fun _ _ _ h => h) (.inl ⟨by kernel_rfl, fun w' hS => by have s_g1 := cellFr g1 hS; have s_g2 := cellFr g2 hS; have s_g3 := cellFr g3 hS; have s_g4 := cellFr g4 hS; have s_g6 := cellFr g6 hS; go_simp; rfl⟩) hS0 ?_
        refine wpAnyU_take2 (i := 5) (v := _) rfl (by kernel_rfl) (by kernel_rfl) (by kernel_rfl) (by kernel_rfl) (fun _ _ _ h => h) (.inl ⟨by kernel_rfl, fun w' hS => by have s_g1 := cellFr g1 hS; have s_g2 := cellFr g2 hS; have s_g3 := cellFr g3 hS; have s_g4 := cellFr g4 hS; have s_g6 := cellFr g6 hS; go_simp; rfl⟩) hS0 ?_
        refine wpAnyU_take2 (i := 6) (v := _) rfl (by kernel_rfl) (by kernel_rfl) (by kernel_rfl) (by kernel_rfl) (fun _ _ _ h => h) (.inl ⟨by kernel_rfl, fun w' hS => by have s_g1 := cellFr g1 hS; have s_g2 := cellFr g2 hS; have s_g3 := cellFr g3 hS; have s_g4 := cellFr g4 hS; have s_g6 := cellFr g6 hS; go_simp; rfl⟩) hS0 ?_
        refine wpAnyU_take2 (i := 7) (v := _) rfl (by kernel_rfl) (by kernel_rfl) (by kernel_rfl) (by kernel_rfl) (fun _ _ _ h => h) (.inl ⟨by kernel_rfl, fun w' hS => by have s_g1 := cellFr g1 hS; have s_g2 := cellFr g2 hS; have s_g3 := cellFr g3 hS; have s_g4 := cellFr g4 hS; have s_g6 := cellFr g6 hS; go_simp; rfl⟩) hS0 ?_
        refine wpAnyU_take2 (i := 8) (v := _) rfl (by kernel_rfl) (by kernel_rfl) (by kernel_rfl) (by kernel_rfl) (fun _ _ _ h => h) (.inl ⟨by kernel_rfl, fun w' hS => by have s_g1 := cellFr g1 hS; have s_g2 := cellFr g2 hS; have s_g3 := cellFr g3 hS; have s_g4 := cellFr g4 hS; have s_g6 := cellFr g6 hS; go_simp; rfl⟩) hS0 ?_
        refine wpAnyU_take2 (i := 9) (v := _) rfl (by kernel_rfl) (by kernel_rfl) (by kernel_rfl) (by kernel_rfl) (fun _ _ _ h => h) (.inl ⟨by kernel_rfl, fun w' hS => by have s_g1 := cellFr g1 hS; have s_g2 := cellFr g2 hS; have s_g3 := cellFr g3 hS; have s_g4 := cellFr g4 hS; have s_g6 := cellFr g6 hS; go_simp; rfl⟩) hS0 ?_
        refine wpAnyU_two7 (i := 10) (j := 13) rfl rfl (by kernel_rfl) (by kernel_rfl) (by kernel_rfl) ?_ ?_
        · go_simp
          refine ⟨(by repeat (first | exact Fr.refl none_ w1 | apply Fr.drew | apply Fr.alloc)), ?_⟩
          refine wpAnyU_two7 (i := 11) (j := 13) rfl rfl (by kernel_rfl) (by kernel_rfl) (by kernel_rfl) ?_ ?_
          · skip
            go_simp
            obtain ⟨w3, hw3⟩ : ∃ w3, w3 = (w1.alloc (.cells #[.slice D.B D.R.ents.length D.d] 49)).drew := ⟨_, rfl⟩
            have f3 : Fr none_ w1 w3 := by rw [hw3]; exact (by repeat (first | exact Fr.refl none_ w1 | apply Fr.drew | apply Fr.alloc))
            have B3 : Hid (Blk w3 (w1.heap.size) 49 #[.slice D.B D.R.ents.length D.d]) := hid_ (by rw [hw3]; exact (Blk.new w1 _ _).drew)
            have hws := f3.size
            have RD := hid_ (HO2.out.rd.e.none_fr f3)
            have F3 := hid_ f3
            rw [← hw3]
            clear hw3 f3
            refine (joined_ok (w1.heap.size) [(D.B, D.d, D.R.ents)] w3 ?_ ?_ ?_ ?_).mono ?_
            · intro i x hx
              match i, hx with
              | 0, hx => cases hx; rw [B3.out.cell]; rfl
              | k + 1, hx => simp at hx
            · intro x hx
              obtain rfl : x = (D.B, D.d, D.R.ents) := by simpa using hx
              exact RD.out
            · simp [ptL]; omega
            · simp
            rintro e w4 ⟨A', c', rfl, ho, hf4⟩
            rw [show ptL [(D.B, D.d, D.R.ents)] = D.R.ents by simp [ptL]] at ho ⊢
            have O4 := hid_ ho
            have F4 := hid_ (F3.out.then_none hf4)
            have hs4 := hf4.size
            clear ho hf4 B3 RD
            refine ⟨F4.out, ?_⟩
            refine wpAnyU_take2 (i := 12) (v := _) rfl (by kernel_rfl) (by kernel_rfl) (by kernel_rfl) (by kernel_rfl) (fun _ _ _ h => h) (.inl ⟨by kernel_rfl, fun w' hS => by skip; go_simp; rfl⟩) F4.out ?_
            refine wpAnyU_one7 (i := 13) rfl (by kernel_rfl) (by kernel_rfl) ?_
            go_simp
            obtain ⟨w5, hw5⟩ : ∃ w5, w5 = w4.alloc (.cells #[.string ⟨#[]⟩, .string ⟨#[]⟩, .bool false, .int .i64 0, .slice none 0 0, .bool false, .int .i64 0, .int .i64 0, .string ⟨#[]⟩] 138) := ⟨_, rfl⟩
            have X5 : Hid (Blk w5 w4.heap.size 138 (vwA Vw.zero (.slice none 0 0))) := hid_ (by rw [hw5]; exact Blk.new w4 _ _)
            have F5 : Hid (Fr none_ w1 w5) := hid_ (by rw [hw5]; exact F4.out.alloc _)
            have O5 := hid_ (own_none O4.out (by rw [hw5]; exact (Fr.refl none_ w4).alloc (.cells #[.string ⟨#[]⟩, .string ⟨#[]⟩, .bool false, .int .i64 0, .slice none 0 0, .bool false, .int .i64 0, .int .i64 0, .string ⟨#[]⟩] 138) : Fr none_ w4 w5))
            rw [← hw5]
            clear hw5
            refine ⟨F5.out, ?_⟩
            have s0 : w5.cell? ⟨w4.heap.size, 0, none⟩ = some (.string nilS) := X5.out.cell' rfl
            have z0 := X5.out.frozen 0
            have s1 : w5.cell? ⟨w4.heap.size, 1, none⟩ = some (.string nilS) := X5.out.cell' rfl
            have z1 := X5.out.frozen 1
            have s2 : w5.cell? ⟨w4.heap.size, 2, none⟩ = some (.bool false) := X5.out.cell' rfl
            have z2 := X5.out.frozen 2
            have s3 : w5.cell? ⟨w4.heap.size, 3, none⟩ = some (.int .i64 0) := X5.out.cell' rfl
            have z3 := X5.out.frozen 3
            have s4 : w5.cell? ⟨w4.heap.size, 4, none⟩ = some (.slice none 0 0) := X5.out.cell' rfl
            have z4 := X5.out.frozen 4
            have s5 : w5.cell? ⟨w4.heap.size, 5, none⟩ = some (.bool false) := X5.out.cell' rfl
            have z5 := X5.out.frozen 5
            have s6 : w5.cell? ⟨w4.heap.size, 6, none⟩ = some (.int .i64 0) := X5.out.cell' rfl
            have z6 := X5.out.frozen 6
            have s7 : w5.cell? ⟨w4.heap.size, 7, none⟩ = some (.int .i64 0) := X5.out.cell' rfl
            have z7 := X5.out.frozen 7
            have s8 : w5.cell? ⟨w4.heap.size, 8, none⟩ = some (.string nilS) := X5.out.cell' rfl
            have z8 := X5.out.frozen 8
            refine wpAnyU_one7 (i := 14) rfl (by kernel_rfl) (by kernel_rfl) ?_
            go_simp
            refine wpAnyU_done (by kernel_rfl) ?_ _
            clear s0 z0 s1 z1 s2 z2 s3 z3 s4 z4 s5 z5 s6 z6 s7 z7 s8 z8
            obtain ⟨qb, qf⟩ := box9 X5.out (.string D.R.low) (.string D.R.high) (.bool D.R.unb) (.int .i64 D.R.right) (.slice A' D.R.ents.length c') (.bool false) (.int .i64 0) (.int .i64 0) (.string nilS)
            have hvin := vin_of_own (V := baseV D.R) (own_fr O5.out qf (fun k hk e => own_blk_ne O5.out X5.out (by decide) (by rw [hk, show k = w4.heap.size from e]))) rfl ⟨HO.out.low, HO.out.high, SzOk.nil, HO.out.ents⟩
            have hfr := F5.out.then_only qf (.inr (by omega))
            have HREL := hid_ (And.intro hvin (And.intro qb hfr))
            clear hvin qb qf hfr
            go_wp2
            go_meet
            case rel => exact ⟨_, A', c', rfl, by omega, HREL.out.2.1, HREL.out.1, HREL.out.2.2⟩
          · go_simp
            refine ⟨(by repeat (first | exact Fr.refl none_ w1 | apply Fr.drew | apply Fr.alloc)), ?_⟩
            refine wpAnyU_one7 (i := 11) rfl (by kernel_rfl) (by kernel_rfl) ?_
            go_simp
            obtain ⟨w3, hw3⟩ : ∃ w3, w3 = ((w1.alloc (.cells #[.slice D.B D.R.ents.length D.d] 49)).alloc (.cells #[.string ⟨#[]⟩, .string ⟨#[]⟩, .bool false, .int .i64 0, .slice none 0 0, .bool false, .int .i64 0, .int .i64 0, .string ⟨#[]⟩] 138)).drew := ⟨_, rfl⟩
            have f3 : Fr none_ w1 w3 := by rw [hw3]; exact (by repeat (first | exact Fr.refl none_ w1 | apply Fr.drew | apply Fr.alloc))
            have B3 : Hid (Blk w3 (w1.heap.size) 49 #[.slice D.B D.R.ents.length D.d]) := hid_ (by rw [hw3]; exact ((Blk.new w1 _ _).alloc _).drew)
            have X3 : Hid (Blk w3 (w1.heap.size + 1) 138 (vwA Vw.zero (.slice none 0 0))) := hid_ (by rw [hw3]; exact (by have := Blk.new (w1.alloc (.cells #[.slice D.B D.R.ents.length D.d] 49)) 138 (vwA Vw.zero (.slice none 0 0)); rw [World.size_alloc] at this; exact this.drew))
            have hws := f3.size
            have RD := hid_ (HO2.out.rd.e.none_fr f3)
            have F3 := hid_ f3
            rw [← hw3]
            clear hw3 f3
            refine (joined_ok (w1.heap.size) [(D.B, D.d, D.R.ents)] w3 ?_ ?_ ?_ ?_).mono ?_
            · intro i x hx
              match i, hx with
              | 0, hx => cases hx; rw [B3.out.cell]; rfl
              | k + 1, hx => simp at hx
            · intro x hx
              obtain rfl : x = (D.B, D.d, D.R.ents) := by simpa using hx
              exact RD.out
            · simp [ptL]; omega
            · simp
            rintro e w4 ⟨A', c', rfl, ho, hf4⟩
            rw [show ptL [(D.B, D.d, D.R.ents)] = D.R.ents by simp [ptL]] at ho ⊢
            have O4 := hid_ ho
            have F4 := hid_ (F3.out.then_none hf4)
            have X4 := hid_ (X3.out.fr hf4 id)
            have hs4 := hf4.size
            clear ho hf4 B3 RD
            refine ⟨F4.out, ?_⟩
            refine wpAnyU_take2 (i := 12) (v := _) rfl (by kernel_rfl) (by kernel_rfl) (by kernel_rfl) (by kernel_rfl) (fun _ _ _ h => h) (.inl ⟨by kernel_rfl, fun w' hS => by skip; go_simp; rfl⟩) F4.out ?_
            have s0 : w4.cell? ⟨w1.heap.size + 1, 0, none⟩ = some (.string nilS) := X4.out.cell' rfl
            have z0 := X4.out.frozen 0
            have s1 : w4.cell? ⟨w1.heap.size + 1, 1, none⟩ = some (.string nilS) := X4.out.cell' rfl
            have z1 := X4.out.frozen 1
            have s2 : w4.cell? ⟨w1.heap.size + 1, 2, none⟩ = some (.bool false) := X4.out.cell' rfl
            have z2 := X4.out.frozen 2
            have s3 : w4.cell? ⟨w1.heap.size + 1, 3, none⟩ = some (.int .i64 0) := X4.out.cell' rfl
            have z3 := X4.out.frozen 3
            have s4 : w4.cell? ⟨w1.heap.size + 1, 4, none⟩ = some (.slice none 0 0) := X4.out.cell' rfl
            have z4 := X4.out.frozen 4
            have s5 : w4.cell? ⟨w1.heap.size + 1, 5, none⟩ = some (.bool false) := X4.out.cell' rfl
            have z5 := X4.out.frozen 5
            have s6 : w4.cell? ⟨w1.heap.size + 1, 6, none⟩ = some (.int .i64 0) := X4.out.cell' rfl
            have z6 := X4.out.frozen 6
            have s7 : w4.cell? ⟨w1.heap.size + 1, 7, none⟩ = some (.int .i64 0) := X4.out.cell' rfl
            have z7 := X4.out.frozen 7
            have s8 : w4.cell? ⟨w1.heap.size + 1, 8, none⟩ = some (.string nilS) := X4.out.cell' rfl
            have z8 := X4.out.frozen 8
            refine wpAnyU_one7 (i := 14) rfl (by kernel_rfl) (by kernel_rfl) ?_
            go_simp
            refine wpAnyU_done (by kernel_rfl) ?_ _
            clear s0 z0 s1 z1 s2 z2 s3 z3 s4 z4 s5 z5 s6 z6 s7 z7 s8 z8
            obtain ⟨qb, qf⟩ := box9 X4.out (.string D.R.low) (.string D.R.high) (.bool D.R.unb) (.int .i64 D.R.right) (.slice A' D.R.ents.length c') (.bool false) (.int .i64 0) (.int .i64 0) (.string nilS)
            have hvin := vin_of_own (V := baseV D.R) (own_fr O4.out qf (fun k hk e => own_blk_ne O4.out X4.out (by decide) (by rw [hk, show k = w1.heap.size + 1 from e]))) rfl ⟨HO.out.low, HO.out.high, SzOk.nil, HO.out.ents⟩
            have hfr := F4.out.then_only qf (.inr (by omega))
            have HREL := hid_ (And.intro hvin (And.intro qb hfr))
            clear hvin qb qf hfr
            go_wp2
            go_meet
            case rel => exact ⟨_, A', c', rfl, by omega, HREL.out.2.1, HREL.out.1, HREL.out.2.2⟩
        · go_simp
          refine ⟨(by repeat (first | exact Fr.refl none_ w1 | apply Fr.drew | apply Fr.alloc)), ?_⟩
          refine wpAnyU_one7 (i := 10) rfl (by kernel_rfl) (by kernel_rfl) ?_
          go_simp
          refine ⟨(by repeat (first | exact Fr.refl none_ w1 | apply Fr.drew | apply Fr.alloc)), ?_⟩
          refine wpAnyU_one7 (i := 11) rfl (by kernel_rfl) (by kernel_rfl) ?_
          go_simp
          obtain ⟨w3, hw3⟩ : ∃ w3, w3 = ((w1.alloc (.cells #[.string ⟨#[]⟩, .string ⟨#[]⟩, .bool false, .int .i64 0, .slice none 0 0, .bool false, .int .i64 0, .int .i64 0, .string ⟨#[]⟩] 138)).alloc (.cells #[.slice D.B D.R.ents.length D.d] 49)).drew := ⟨_, rfl⟩
          have f3 : Fr none_ w1 w3 := by rw [hw3]; exact (by repeat (first | exact Fr.refl none_ w1 | apply Fr.drew | apply Fr.alloc))
          have B3 : Hid (Blk w3 (w1.heap.size + 1) 49 #[.slice D.B D.R.ents.length D.d]) := hid_ (by rw [hw3]; exact (by have := Blk.new (w1.alloc (.cells #[.string ⟨#[]⟩, .string ⟨#[]⟩, .bool false, .int .i64 0, .slice none 0 0, .bool false, .int .i64 0, .int .i64 0, .string ⟨#[]⟩] 138)) 49 #[.slice D.B D.R.ents.length D.d]; rw [World.size_alloc] at this; exact this.drew))
          have X3 : Hid (Blk w3 (w1.heap.size) 138 (vwA Vw.zero (.slice none 0 0))) := hid_ (by rw [hw3]; exact ((Blk.new w1 _ _).alloc _).drew)
          have hws := f3.size
          have RD := hid_ (HO2.out.rd.e.none_fr f3)
          have F3 := hid_ f3
          rw [← hw3]
          clear hw3 f3
          refine (joined_ok (w1.heap.size + 1) [(D.B, D.d, D.R.ents)] w3 ?_ ?_ ?_ ?_).mono ?_
          · intro i x hx
            match i, hx with
            | 0, hx => cases hx; rw [B3.out.cell]; rfl
            | k + 1, hx => simp at hx
          · intro x hx
            obtain rfl : x = (D.B, D.d, D.R.ents) := by simpa using hx
            exact RD.out
          · simp [ptL]; omega
          · simp
          rintro e w4 ⟨A', c', rfl, ho, hf4⟩
          rw [show ptL [(D.B, D.d, D.R.ents)] = D.R.ents by simp [ptL]] at ho ⊢
          have O4 := hid_ ho
          have F4 := hid_ (F3.out.then_none hf4)
          have X4 := hid_ (X3.out.fr hf4 id)
          have hs4 := hf4.size
          clear ho hf4 B3 RD
          refine ⟨F4.out, ?_⟩
          refine wpAnyU_take2 (i := 12) (v := _) rfl (by kernel_rfl) (by kernel_rfl) (by kernel_rfl) (by kernel_rfl) (fun _ _ _ h => h) (.inl ⟨by kernel_rfl, fun w' hS => by skip; go_simp; rfl⟩) F4.out ?_
          have s0 : w4.cell? ⟨w1.heap.size, 0, none⟩ = some (.string nilS) := X4.out.cell' rfl
          have z0 := X4.out.frozen 0
          have s1 : w4.cell? ⟨w1.heap.size, 1, none⟩ = some (.string nilS) := X4.out.cell' rfl
          have z1 := X4.out.frozen 1
          have s2 : w4.cell? ⟨w1.heap.size, 2, none⟩ = some (.bool false) := X4.out.cell' rfl
          have z2 := X4.out.frozen 2
          have s3 : w4.cell? ⟨w1.heap.size, 3, none⟩ = some (.int .i64 0) := X4.out.cell' rfl
          have z3 := X4.out.frozen 3
          have s4 : w4.cell? ⟨w1.heap.size, 4, none⟩ = some (.slice none 0 0) := X4.out.cell' rfl
          have z4 := X4.out.frozen 4
          have s5 : w4.cell? ⟨w1.heap.size, 5, none⟩ = some (.bool false) := X4.out.cell' rfl
          have z5 := X4.out.frozen 5
          have s6 : w4.cell? ⟨w1.heap.size, 6, none⟩ = some (.int .i64 0) := X4.out.cell' rfl
          have z6 := X4.out.frozen 6
          have s7 : w4.cell? ⟨w1.heap.size, 7, none⟩ = some (.int .i64 0) := X4.out.cell' rfl
          have z7 := X4.out.frozen 7
          have s8 : w4.cell? ⟨w1.heap.size, 8, none⟩ = some (.string nilS) := X4.out.cell' rfl
          have z8 := X4.out.frozen 8
          refine wpAnyU_one7 (i := 14) rfl (by kernel_rfl) (by kernel_rfl) ?_
          go_simp
          refine wpAnyU_done (by kernel_rfl) ?_ _
          clear s0 z0 s1 z1 s2 z2 s3 z3 s4 z4 s5 z5 s6 z6 s7 z7 s8 z8
          obtain ⟨qb, qf⟩ := box9 X4.out (.string D.R.low) (.string D.R.high) (.bool D.R.unb) (.int .i64 D.R.right) (.slice A' D.R.ents.length c') (.bool false) (.int .i64 0) (.int .i64 0) (.string nilS)
          have hvin := vin_of_own (V := baseV D.R) (own_fr O4.out qf (fun k hk e => own_blk_ne O4.out X4.out (by decide) (by rw [hk, show k = w1.heap.size from e]))) rfl ⟨HO.out.low, HO.out.high, SzOk.nil, HO.out.ents⟩
          have hfr := F4.out.then_only qf (.inr (by omega))
          have HREL := hid_ (And.intro hvin (And.intro qb hfr))
          clear hvin qb qf hfr
          go_wp2
          go_meet
          case rel => exact ⟨_, A', c', rfl, by omega, HREL.out.2.1, HREL.out.1, HREL.out.2.2⟩
      case rest =>
      obtain ⟨X, A', c', rfl, hX, hb8, hvin, hf8⟩ := hcut
      have BX := hid_ hb8
      have VI := hid_ hvin
      have F8 := hid_ (F2.out.then_none hf8)
      have BO8 := hid_ (BO2.out.fr hf8 id)
      clear hb8 hvin hf8 BO2 HO2 BO1 F1 F2
      have v0 : wc.cell? ⟨X, 0, none⟩ = some (.string (baseV D.R).low) := BX.out.cell' rfl
      have v1 : wc.cell? ⟨X, 1, none⟩ = some (.string (baseV D.R).high) := BX.out.cell' rfl
      have v2 : wc.cell? ⟨X, 2, none⟩ = some (.bool (baseV D.R).unb) := BX.out.cell' rfl
      have v3 : wc.cell? ⟨X, 3, none⟩ = some (.int .i64 (baseV D.R).right) := BX.out.cell' rfl
      have v4 : wc.cell? ⟨X, 4, none⟩ = some (.slice A' D.R.ents.length c') := BX.out.cell' rfl
      have v5 : wc.cell? ⟨X, 5, none⟩ = some (.bool (baseV D.R).held) := BX.out.cell' rfl
      have v6 : wc.cell? ⟨X, 6, none⟩ = some (.int .i64 (baseV D.R).hp) := BX.out.cell' rfl
      have v7 : wc.cell? ⟨X, 7, none⟩ = some (.int .i64 (baseV D.R).hl) := BX.out.cell' rfl
      have v8 : wc.cell? ⟨X, 8, none⟩ = some (.string (baseV D.R).hk) := BX.out.cell' rfl
      go_wp2_with fail
      refine (sound_ok (baseV D.R) A' c' _ VI.out).mono ?_
      rintro e w2 ⟨bb, rfl, hbb, hf2⟩
      have HB := hid_ hbb
      have BX2 := hid_ (BX.out.fr hf2 id)
      have VI2 := hid_ (VI.out.keep hf2)
      have F9 := hid_ (F8.out.then_none hf2)
      have BO9 := hid_ (BO8.out.fr hf2 id)
      clear hbb hf2 BX VI F8 BO8 v0 v1 v2 v3 v4 v5 v6 v7 v8
      cases bb with
      | false => exact absurd (HB.out.2 HDS.out) (by decide)
      | true =>
        go_wp2_with fail
        go_loopw [9] (fun i wr => i = .int .i64 ((m : Int) - 1) ∧ wr = w2) (fun i _ => (intOf i + 1).toNat)
        case atStart => exact ⟨rfl, rfl⟩
        case round =>
          obtain ⟨rfl, rfl⟩ := hrel
          have hm0 := HM0.out
          have hge : decide ((0 : Int) ≤ (m : Int) - 1) = false := decide_eq_false (by omega)
          have hge2 : ¬ ((0 : Int) ≤ (m : Int) - 1) := by omega
          clear hm0
          have v0 : wr.cell? ⟨X, 0, none⟩ = some (.string (baseV D.R).low) := BX2.out.cell' rfl
          have v1 : wr.cell? ⟨X, 1, none⟩ = some (.string (baseV D.R).high) := BX2.out.cell' rfl
          have v2 : wr.cell? ⟨X, 2, none⟩ = some (.bool (baseV D.R).unb) := BX2.out.cell' rfl
          have v3 : wr.cell? ⟨X, 3, none⟩ = some (.int .i64 (baseV D.R).right) := BX2.out.cell' rfl
          have v4 : wr.cell? ⟨X, 4, none⟩ = some (.slice A' D.R.ents.length c') := BX2.out.cell' rfl
          have v5 : wr.cell? ⟨X, 5, none⟩ = some (.bool (baseV D.R).held) := BX2.out.cell' rfl
          have v6 : wr.cell? ⟨X, 6, none⟩ = some (.int .i64 (baseV D.R).hp) := BX2.out.cell' rfl
          have v7 : wr.cell? ⟨X, 7, none⟩ = some (.int .i64 (baseV D.R).hl) := BX2.out.cell' rfl
          have v8 : wr.cell? ⟨X, 8, none⟩ = some (.string (baseV D.R).hk) := BX2.out.cell' rfl
          have s0 : wr.cell? ⟨w.heap.size, 0, none⟩ = some (.string nilS) := BO9.out.cell' rfl
          have z0 := BO9.out.frozen 0
          have s1 : wr.cell? ⟨w.heap.size, 1, none⟩ = some (.string nilS) := BO9.out.cell' rfl
          have z1 := BO9.out.frozen 1
          have s2 : wr.cell? ⟨w.heap.size, 2, none⟩ = some (.bool false) := BO9.out.cell' rfl
          have z2 := BO9.out.frozen 2
          have s3 : wr.cell? ⟨w.heap.size, 3, none⟩ = some (.int .i64 0) := BO9.out.cell' rfl
          have z3 := BO9.out.frozen 3
          have s4 : wr.cell? ⟨w.heap.size, 4, none⟩ = some (.slice none 0 0) := BO9.out.cell' rfl
          have z4 := BO9.out.frozen 4
          have s5 : wr.cell? ⟨w.heap.size, 5, none⟩ = some (.bool false) := BO9.out.cell' rfl
          have z5 := BO9.out.frozen 5
          have s6 : wr.cell? ⟨w.heap.size, 6, none⟩ = some (.int .i64 0) := BO9.out.cell' rfl
          have z6 := BO9.out.frozen 6
          have s7 : wr.cell? ⟨w.heap.size, 7, none⟩ = some (.int .i64 0) := BO9.out.cell' rfl
          have z7 := BO9.out.frozen 7
          have s8 : wr.cell? ⟨w.heap.size, 8, none⟩ = some (.string nilS) := BO9.out.cell' rfl
          have z8 := BO9.out.frozen 8
          go_wp2_with fail
          clear s0 z0 v0 s1 z1 v1 s2 z2 v2 s3 z3 v3 s4 z4 v4 s5 z5 v5 s6 z6 v6 s7 z7 v7 s8 z8 v8
          obtain ⟨qb, qf⟩ := box9 BO9.out (.string (baseV D.R).low) (.string (baseV D.R).high) (.bool (baseV D.R).unb) (.int .i64 (baseV D.R).right) (.slice A' D.R.ents.length c') (.bool (baseV D.R).held) (.int .i64 (baseV D.R).hp) (.int .i64 (baseV D.R).hl) (.string (baseV D.R).hk)
          have q0 := qb.cell' (i := 0) rfl
          have q1 := qb.cell' (i := 1) rfl
          have q2 := qb.cell' (i := 2) rfl
          have q3 := qb.cell' (i := 3) rfl
          have q4 := qb.cell' (i := 4) rfl
          have q5 := qb.cell' (i := 5) rfl
          have q6 := qb.cell' (i := 6) rfl
          have q7 := qb.cell' (i := 7) rfl
          have q8 := qb.cell' (i := 8) rfl
          refine bodyPost_ret (v := .tuple #[vwV (baseV D.R) (.slice A' (baseV D.R).ents.length c'), .nilIface]) ?_ rfl ⟨baseV D.R, A', c', rfl, F9.out.then_only qf (.inr (Nat.le_refl _))⟩
          simp [results, Tryz.results110, go_sem, q0, q1, q2, q3, q4, q5, q6, q7, q8]
          rfl
end Go.Proofs.YthpkbppaaagaoaaGreat

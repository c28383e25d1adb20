/- Clock.Copy: a clock of its own, just so. -/
import Derived.Test.YtmindkphdakflaaDoorCk6
namespace Go.Proofs.YtmindkphdakflaaDoor
open Go.RowKit
open Go.Maps (Keyed int_keyed keyOf_int_mk)
set_option maxRecDepth 100000
set_option linter.unusedVariables false

structure CpSt (wr : World) (M M' r n : Nat) (D D' : Ins) (left : Lit → Bool) (cnt n' : Nat) : Prop where
  rg : wr.ranges Tryd.prog 3 (plainElem (H := Unit) Tryd.prog 3) M r n D left cnt
  own : wr.ownsMap Tryd.prog 3 (plainElem (H := Unit) Tryd.prog 3) M' n' D'
  cnt : n' + cnt ≤ n
  sub : ∀ t, hasT D' t = (hasT D t && !left (kOf t))
  at_ : ∀ t x, hasT D' t = true → IsAt D t x → IsAt D' t x
  lsub : ∀ kl, left kl = true → Maps.has D kl = true
theorem CpSt.put {wr w1 w2 : World} {M M' r n : Nat} {D D' : Ins} {left : Lit → Bool} {cnt cnt1 n' : Nat} {x c : Int} (h : CpSt wr M M' r n D D' left cnt n') (hM : M ≠ M') (hr : M' ≠ r)
    (hl : left (kOf x) = true) (hat : IsAt D x c) (hrg1 : w1.ranges Tryd.prog 3 (plainElem (H := Unit) Tryd.prog 3) M r n D (fun z => left z && !z.sameKey (kOf x)) cnt1) (hlt : cnt1 < cnt)
    (hg2 : w1.grownBy w2 (some M')) (hown2 : w2.ownsMap Tryd.prog 3 (plainElem (H := Unit) Tryd.prog 3) M' (n' + 1) (D'.put (kOf x) (.lit (.int .i64 c)))) :
    CpSt w2 M M' r n D (D'.put (kOf x) (.lit (.int .i64 c))) (fun z => left z && !z.sameKey (kOf x)) cnt1 (n' + 1) := by
  have hm : Maps.IsMap D' := h.own.isMap
  have hc := h.cnt
  refine ⟨hrg1.kept hg2 (by simpa using hM) (by simpa using (Ne.symm hr)), hown2, by omega, fun t => ?_, fun t y ht hy => ?_, fun kl e => ?_⟩
  · by_cases e : t = x
    · subst e
      have h1 : hasT (D'.put (kOf t) (.lit (.int .i64 c))) t = true := Maps.has_put_same hm (by trivial) _
      have h2 : hasT D t = true := h.lsub _ hl
      rw [h1, h2, hl]
      simp [Lit.sameKey]
    · have h1 : hasT (D'.put (kOf x) (.lit (.int .i64 c))) t = hasT D' t := Maps.has_put_other (kOf_ne e) _
      have h2 : (kOf t).sameKey (kOf x) = false := Maps.sameKey_ne (kOf_ne e)
      rw [h1, h.sub t, h2]
      simp
  · by_cases e : t = x
    · subst e
      obtain rfl := hy.inj hat
      exact at_put_same D' hm t y
    · have h1 : hasT (D'.put (kOf x) (.lit (.int .i64 c))) t = hasT D' t := Maps.has_put_other (kOf_ne e) _
      rw [h1] at ht
      intro zd
      rw [Maps.atKey_put_other (kOf_ne e)]
      exact h.at_ t y ht hy zd
  · simp only [Bool.and_eq_true] at e
    exact h.lsub kl e.1
theorem CpSt.sim {wr : World} {M M' r n : Nat} {D D' : Ins} {left : Lit → Bool} {cnt n' : Nat} {now last : Int} {S : List Int} (h : CpSt wr M M' r n D D' left cnt n') (hl : ∀ kl, left kl = false) (hs : Sim6 now last S D) : Sim6 now last S D' := by
  have hh : ∀ t, hasT D' t = hasT D t := fun t => by rw [h.sub t, hl]; simp
  refine ⟨hs.h1, hs.h64, hs.n1, hs.nl, hs.l40, h.own.isMap, fun t ht => hs.key t (by rw [← hh]; exact ht), fun i x hx => ?_⟩
  obtain ⟨a, b, c, d⟩ := hs.at_ i x hx
  exact ⟨a, b, by rw [hh]; exact c, fun h0 => h.at_ i x (by rw [hh, c]; simpa using h0) (d h0)⟩

def CopyPost (C M : Nat) (now last : Int) (S : List Int) (k : Nat) (w : World) (e : Ending) (w' : World) : Prop :=
  ∃ C2 M2, e = .returned (.pointer (some ⟨C2, 0, none⟩)) ∧ Ck w' C2 M2 now last S k ∧ Fr none_ w w' ∧ w.heap.size ≤ C2 ∧ w.heap.size ≤ M2
theorem clkCopy_nil6 (w : World) : Calls Tryd.prog 22 #[.pointer none] w fun e w' => e = .returned (.pointer none) ∧ w = w' := by
  go_enter Tryd.func22, Tryd.ntmps22
  go_wp2
  go_ret
  exact ⟨rfl, rfl⟩
set_option maxHeartbeats 1000000 in
theorem clkCopy_ck {w : World} {C M k : Nat} {now last : Int} {S : List Int} (h : Ck w C M now last S k) (hk : k ≤ 1000) : Calls Tryd.prog 22 #[.pointer (some ⟨C, 0, none⟩)] w (CopyPost C M now last S k w) := by
  obtain ⟨n, D, hn, b, sim⟩ := h
  have hmm := @run_makeMap Tryd.prog
  obtain ⟨w2, hw2⟩ : ∃ w2, w2 = ((w.alloc (.cells #[.int .i64 now, .int .i64 last, .int .i64 S.length, .map (some (w.heap.size + 1))] 57)).alloc (.map #[] 0)) := ⟨_, rfl⟩
  have f2 : Fr none_ w w2 := by rw [hw2]; exact ((Fr.refl none_ w).alloc _).alloc _
  have k2 : Blk w2 w.heap.size 57 #[.int .i64 now, .int .i64 last, .int .i64 S.length, .map (some (w.heap.size + 1))] := by rw [hw2]; exact (Blk.new w _ _).alloc _
  have m2 : w2.ownsMap Tryd.prog 3 (plainElem (H := Unit) Tryd.prog 3) (w.heap.size + 1) 0 (.map []) := by
    have := World.ownsMap_made (w.alloc (.cells #[.int .i64 now, .int .i64 last, .int .i64 S.length, .map (some (w.heap.size + 1))] 57)) Tryd.prog 3 (plainElem (H := Unit) Tryd.prog 3)
    rw [World.size_alloc] at this
    rw [hw2]; exact this
  have s2 : w2.heap.size = w.heap.size + 1 + 1 := by rw [hw2]; simp
  have HW2 := hid_ hw2
  have B2 := hid_ (b.fr f2 id id)
  have F2 := hid_ f2
  have K2 := hid_ k2
  have M2 := hid_ m2
  have S2 := hid_ s2
  have Sim := hid_ sim
  have lM : Hid (M < w.heap.size) := hid_ b.hM.lt
  have c0 : w.cell? ⟨C, 0, none⟩ = some (.int .i64 now) := b.hC.cell' rfl
  have c1 : w.cell? ⟨C, 1, none⟩ = some (.int .i64 last) := b.hC.cell' rfl
  have c2 : w.cell? ⟨C, 2, none⟩ = some (.int .i64 S.length) := b.hC.cell' rfl
  have c3 : w.cell? ⟨C, 3, none⟩ = some (.map (some M)) := b.hC.cell' rfl
  have l0 := b.hC.lt
  have l1 : C < w.heap.size + 1 := by omega
  clear b f2 k2 m2 s2 sim hw2
  go_enter Tryd.func22, Tryd.ntmps22
  go_wp2_with (at_range; refine wpList_range_own _ rfl _ 55 rfl 3 3 int_law Tryd.underlying55 _ M n D rfl (HW2.out ▸ B2.out.hM) ?_; intro w0 hrg0 hg0 hs0)
  rw [← HW2.out] at hg0
  have f0 : Fr none_ w2 w0 := (Fr.refl none_ w2).grown hg0 (fun k hk => by cases hk)
  have F0 := hid_ (F2.out.then_none f0)
  have K0 := hid_ (K2.out.fr f0 id)
  have M0 := hid_ (map_fr M2.out f0 id)
  have lsz := K0.out.lt
  simp only [World.size_alloc] at hrg0 hs0
  have hsd := B2.out.hM.size_le
  have R0 := hid_ hrg0
  have hsz : w.heap.size + 1 < w0.heap.size := by omega
  have hMr := hid_ (Ne.symm hrg0.ne)
  clear hg0 f0 hrg0 hs0 c0 c1 c2 c3
  go_frame
  simp only [World.size_alloc]
  go_loopw [4] (fun x wr => ∃ (D' : Ins) (left : Lit → Bool) (cnt n' : Nat), CpSt wr M (w.heap.size + 1) (w.heap.size + 1 + 1) n D D' left cnt n' ∧ Blk wr w.heap.size 57 #[.int .i64 now, .int .i64 last, .int .i64 S.length, .map (some (w.heap.size + 1))] ∧ Fr none_ w wr) (fun _ wr => wr.rangeLeft M (w.heap.size + 1 + 1))
  case atStart => exact ⟨.map [], _, _, 0, ⟨R0.out, M0.out, by omega, (fun t => by simp; rfl), (fun t x ht _ => by cases ht), fun _ e => e⟩, K0.out, F0.out⟩
  case round =>
    obtain ⟨D', left, cnt, n', hcp, hbk, hF⟩ := hrel
    have CP := hid_ hcp
    have BK := hid_ hbk
    have F := hid_ hF
    clear hcp hbk hF
    go_wp2_with (at_next; refine wpList_next_ranges_ii _ rfl _ rfl 3 3 .i64 .i64 int_law Tryd.underlying3 Tryd.underlying3 M (w.heap.size + 1 + 1) n _ _ _ rfl CP.out.rg ?_ ?_)
    · intro hc0 hl0
      have SIM := hid_ (CP.out.sim hl0 Sim.out)
      clear hc0 hl0
      go_wp2
      go_ret
      exact ⟨w.heap.size, w.heap.size + 1, rfl, ⟨n', D', by have := CP.out.cnt; omega, ⟨BK.out, CP.out.own⟩, SIM.out⟩, F.out, Nat.le_refl _, by omega⟩
    · intro x c w1 cnt1 hwx hwc hlx hat hrg1 hlt hg1 hs1 hen
      have hkey := keyOf_int_mk (P := Tryd.prog) Tryd.underlying3 hwx
      have f1 : Fr (only (w.heap.size + 1 + 1)) wr w1 := (Fr.refl (only (w.heap.size + 1 + 1)) wr).grown hg1 (fun k hk => .inl (show k = w.heap.size + 1 + 1 by cases hk; rfl))
      have BK1 := hid_ (BK.out.fr f1 (only_ne (by omega)))
      have OW1 := hid_ (map_fr CP.out.own f1 (only_ne (by omega)))
      have F1 := hid_ (F.out.then_only f1 (.inr (by omega)))
      have HAT := hid_ hat
      have HLX := hid_ hlx
      have HRG := hid_ hrg1
      have HLT := hid_ hlt
      have hn' : n' < maxLen := by have := CP.out.cnt; simp only [maxLen]; omega
      have e3 : w1.cell? ⟨w.heap.size, 3, none⟩ = some (.map (some (w.heap.size + 1))) := BK1.out.cell' rfl
      clear hat hlx hrg1 hlt hg1 f1
      go_wp2_with (at_mapUpdate; refine wpList_mapUpdate_own _ rfl _ _ _ 55 rfl 3 3 int_law Tryd.underlying55 _ (w.heap.size + 1) n' _ rfl OW1.out hn' _ _ _ rfl rfl hkey _ [] (plainElem_int Tryd.underlying3 hwc) ?_; intro w2' hown2 hgrow2)
      have CP2 := hid_ (CP.out.put (by have := lM.out; omega) (by omega) HLX.out HAT.out HRG.out HLT.out hgrow2 hown2)
      have f2 : Fr (only (w.heap.size + 1)) w1 w2' := (Fr.refl (only (w.heap.size + 1)) w1).grown hgrow2 (fun k hk => .inl (show k = w.heap.size + 1 by cases hk; rfl))
      have BK2 := hid_ (BK1.out.fr f2 (only_ne (by omega)))
      have F2 := hid_ (F1.out.then_only f2 (.inr (by omega)))
      clear hown2 hgrow2 f2
      go_roundw
      case rel => exact ⟨_, _, _, _, _, _, _, _, _, _, _, ⟨_, _, cnt1, n' + 1, CP2.out, BK2.out, F2.out⟩, rfl⟩
      case measure => rw [CP2.out.rg.left_eq, CP.out.rg.left_eq]; exact HLT.out
end Go.Proofs.YtmindkphdakflaaDoor

/- Texts of one proof, merged: Mch9. -/
import Derived.BigRegion
import Derived.Test.YtfihfjbakfadkaaDoorMcV
import Derived.Test.YtfihfjbakfadkaaDoorMcW
import Derived.Test.YtfihfjbakfadkaaDoorMcY
import Derived.Test.YtfihfjbakfadkaaDoorMcYB
namespace Go.Proofs.YtfihfjbakfadkaaDoor
open Go.RowKit Go.BigFrame
set_option maxRecDepth 100000
set_option linter.unusedVariables false

abbrev rec9 (ns ng : Int) : Rc := ⟨2, nilS, nilS, false, 0, [], [], nilS, nilS, 0, 0, 0, nilS, ns, ng⟩
theorem reads_rec9 (ns ng : Int) (w : World) : RecReads w (rec9 ns ng) none none := ⟨⟨rfl, fun h => absurd h (Nat.lt_irrefl 0)⟩, ⟨rfl, fun h => absurd h (Nat.lt_irrefl 0)⟩⟩
/-- The slots behind the second record. -/
structure Ss9 (n : Nat) (R2 : Rc) (ss : List Sl) : Prop where
  ex : ∃ vr ve vr2 ve2 : Value, ss = (⟨1, true, leafR, vr, ve⟩ : Sl) :: ⟨1, true, R2, vr2, ve2⟩ :: List.replicate (n - 2) Sl.zero
theorem Ss9.sim {l : Lm} {R2 : Rc} {ss : List Sl} (h : Ss9 l.s R2 ss) (hs : 4 ≤ l.s) : Sim9 (l.s : Int) (lp9 R2) ss := by
  obtain ⟨vr, ve, vr2, ve2, rfl⟩ := h.ex
  refine sim9 (by simp; omega) (by omega) rfl rfl fun j y hy => ?_
  have hy' : (List.replicate (l.s - 2) Sl.zero)[j]? = some y := hy
  rw [List.getElem?_replicate] at hy'
  split at hy'
  · obtain rfl := Option.some.inj hy'; rfl
  · cases hy'
theorem alloc9 {l : Lm} {R2 : Rc} {vr ve : Value} {sl gn kk : Int} {ss' : List Sl} (hs : 4 ≤ l.s) (hn : 8 ≤ l.n) (h : AllocR l.n ((⟨1, true, leafR, vr, ve⟩ : Sl) :: List.replicate (l.s - 1) Sl.zero) R2 sl gn kk ss') : sl = 2 ∧ gn = 1 ∧ kk = 0 ∧ Ss9 l.s R2 ss' := by
  obtain ⟨n, hn2⟩ : ∃ n, l.s - 1 = n + 1 := ⟨l.s - 2, by omega⟩
  have e2 : l.s - 2 = n := by omega
  rw [hn2, List.replicate_succ] at h
  rcases h with ⟨i, s, v1, v2, h1, h2, h3, h4, h5, h6, h7⟩ | ⟨h1, _⟩
  · match i, h1 with
    | 0, h1 =>
      obtain rfl := Option.some.inj h1
      exact absurd h2.1 (fun h => by cases h)
    | 1, h1 =>
      obtain rfl := Option.some.inj h1
      refine ⟨by omega, by rw [h5]; rfl, h6, ⟨vr, ve, v1, v2, ?_⟩⟩
      rw [h7, e2]
      rfl
    | i + 2, h1 =>
      rcases h3 1 Sl.zero (by omega) rfl with h | h
      · exact absurd h (by decide)
      · have h' : (0 : Int) = l.n := h
        omega
  · rcases h1 1 Sl.zero rfl with h | h
    · exact absurd h (by decide)
    · have h' : (0 : Int) = l.n := h
      omega
theorem swap9 {n : Nat} {ok : Bool} {kk : Int} {ps' : List Pg} (hn : 3 ≤ n) (h : SwapR ((true, 1, 1) :: List.replicate (n - 1) (false, 0, 0)) 0 1 1 2 1 ok kk ps') : ok = true ∧ kk = 0 ∧ ps' = ps9 n := by
  rcases h with ⟨i, s, g, h1, h2, h3, h4, h5⟩ | ⟨h1, _⟩
  · obtain rfl : i = 0 := by omega
    have e : (true, (1 : Int), (1 : Int)) = (true, s, g) := Option.some.inj h2
    simp only [Prod.mk.injEq, true_and] at e
    obtain ⟨rfl, rfl⟩ := e
    exact ⟨h3, h4, h5⟩
  · refine absurd ?_ h1
    unfold pgC
    rw [if_neg (by simp)]
    rfl
theorem dalloc9 {l : Lm} {ns ng : Int} (hs : 4 ≤ l.s) (hn : 8 ≤ l.n) {A : Option Addr} {c : Nat} {w w' : World} {e : Ending} (h : RAllocPost (l.s : Int) l.n [⟨1, 1, leafR, none, 0, none, 0, true⟩] (rec9 ns ng) A c none 0 none 0 w e w') :
    ∃ (A2 : Option Addr) (c2 : Nat), e = .returned (.tuple #[raV (l.s : Int) l.n (lp9 (rec9 ns ng)) A2 c2, .agg #[.int .i64 2, .int .i64 1], .int .i64 0]) ∧ RaIn w' (lp9 (rec9 ns ng)) A2 c2 ∧ (∀ ad, A2 = some ad → w.heap.size ≤ ad.block) ∧ Fr none_ w w' := by
  rcases h with ⟨i, A2, c2, h1, h2, h3, h4, h5, h6, h7, h8⟩ | ⟨h1, _⟩
  · match i, h2, h3, h5, h6 with
    | 0, h2, h3, h5, h6 => exact absurd h3 (by decide)
    | 1, h2, h3, h5, h6 => exact ⟨A2, c2, h5, h6, h7, h8⟩
    | i + 2, h2, h3, h5, h6 =>
      rcases h2 2 (by omega) (by omega) with h | h
      · exact absurd h (by decide)
      · have h' : l.n ≤ 0 := h
        omega
  · rcases h1 2 (by omega) (by omega) with h | h
    · exact absurd h (by decide)
    · have h' : l.n ≤ 0 := h
      omega
theorem hgen9 (n : Nat) : 0 ≤ (slotP [(⟨1, 1, leafR, none, 0, none, 0, true⟩ : RaP)] (n : Int)).1 := by
  show 0 ≤ (slotTo _ (n : Int) 1).1
  by_cases h : (1 : Int) = (n : Int)
  · rw [slot_hit (k := 0) rfl h]
    show (0 : Int) ≤ 1
    decide
  · rw [slot_miss (k := 0) rfl h]
    exact Int.le_refl 0
theorem ra_far9 {R2 : Rc} {w w' : World} {A : Option Addr} {c X : Nat} (hR : ∀ w, RecReads w R2 none none) (h : RaIn w (lp9 R2) A c) (hn : ∀ ad, A = some ad → ad.block ≠ X) (hf : Fr (only X) w w') : RaIn w' (lp9 R2) A c :=
  ⟨h.rd.fr hf (fun ad e e2 => hn ad e e2), h.cap, h.capm, h.len, fun p hp => by
    have hp' : p = ⟨1, 1, leafR, none, 0, none, 0, true⟩ ∨ p = ⟨2, 1, R2, none, 0, none, 0, true⟩ := by simpa using hp
    rcases hp' with rfl | rfl
    · exact reads_leaf w'
    · exact hR w', h.sz⟩
theorem dm_put9 {w : World} {g : Nat} {t : TypeId} {l : Lm} {sn sl tn cn cl k : Int} {sv tv cv : Value} (h : Blk w g t (dmA l sn sl sv tn tv cn cl cv k)) (sv' tv' : Value) :
    Blk (((((w.setCell ⟨g, 6, none⟩ (.int .i64 sn)).setCell ⟨g, 7, none⟩ (.int .i64 sl)).setCell ⟨g, 8, none⟩ sv').setCell ⟨g, 9, none⟩ (.int .i64 tn)).setCell ⟨g, 10, none⟩ tv').drew g t (dmA l sn sl sv' tn tv' cn cl cv k) ∧ Fr (only g) w (((((w.setCell ⟨g, 6, none⟩ (.int .i64 sn)).setCell ⟨g, 7, none⟩ (.int .i64 sl)).setCell ⟨g, 8, none⟩ sv').setCell ⟨g, 9, none⟩ (.int .i64 tn)).setCell ⟨g, 10, none⟩ tv').drew :=
  ⟨(((((h.set_ 6 (.int .i64 sn)).set_ 7 (.int .i64 sl)).set_ 8 sv').set_ 9 (.int .i64 tn)).set_ 10 tv').drew, (((((Fr.refl (only g) w).setCell (p := ⟨g, 6, none⟩) (.inl (Eq.refl _)) _).setCell (p := ⟨g, 7, none⟩) (.inl (Eq.refl _)) _).setCell (p := ⟨g, 8, none⟩) (.inl (Eq.refl _)) _).setCell (p := ⟨g, 9, none⟩) (.inl (Eq.refl _)) _).setCell (p := ⟨g, 10, none⟩) (.inl (Eq.refl _)) _ |>.drew⟩
abbrev lms9 (s p t r c q : Int) : Array Value := #[.int .i64 s, .int .i64 p, .int .i64 t, .int .i64 r, .int .i64 c, .int .i64 q]
theorem dm_one9 (l : Lm) (sn sl tn cn cl k : Int) (a b c : Option Addr) (x y z x' y' z' : Nat) : (dmA l sn sl (.slice a x x') tn (.slice b y y') cn cl (.slice c z z') k).all (·.oneCell') = true := by simp [Value.oneCell']
set_option maxHeartbeats 16000000 in
theorem mch9_law (s p t r c q ns ng pg : Int) (w : World) (hL : Laid w) :
    Calls Tryd.prog 3 #[.agg (lms9 s p t r c q), .agg #[.int .i64 ns, .int .i64 ng], .int .i64 pg] w fun e w' => e = .returned (.bool true) ∧ Fr none_ w w' := by
  have HL := hid_ hL
  clear hL
  obtain ⟨w0, hw0⟩ : ∃ z, z = (w.alloc (.cells (lms9 s p t r c q) 23)).alloc (.cells #[.int .i64 ns, .int .i64 ng] 25) := ⟨_, rfl⟩
  have F : Hid (Fr none_ w w0) := hid_ (by rw [hw0]; exact ((Fr.refl none_ w).alloc _).alloc _)
  have BL : Hid (Blk w0 w.heap.size 23 (lms9 s p t r c q)) := hid_ (by rw [hw0]; exact (Blk.new w _ _).alloc _)
  have BN : Hid (Blk w0 (w.heap.size + 1) 25 #[.int .i64 ns, .int .i64 ng]) := hid_ (by rw [hw0]; exact Blk.new_at4 _ _ (by simp))
  go_enter Tryd.func3, Tryd.ntmps3
  go_upto_region 1 with fail
  change Code.wp _ _ _ _ ((w.alloc (.cells (lms9 s p t r c q) 23)).alloc (.cells #[.int .i64 ns, .int .i64 ng] 25))
  rw [← hw0]
  clear hw0
  obtain ⟨gl, hgl⟩ : ∃ g, g = w.heap.size := ⟨_, rfl⟩
  have HGL := hid_ hgl
  rw [← hgl] at BL BN
  rw [← hgl]
  clear hgl
  have v0 : w0.cell? ⟨gl, 0, none⟩ = some (.int .i64 s) := BL.out.cell' rfl
  have v1 : w0.cell? ⟨gl, 1, none⟩ = some (.int .i64 p) := BL.out.cell' rfl
  have v2 : w0.cell? ⟨gl, 2, none⟩ = some (.int .i64 t) := BL.out.cell' rfl
  have v3 : w0.cell? ⟨gl, 3, none⟩ = some (.int .i64 r) := BL.out.cell' rfl
  have v4 : w0.cell? ⟨gl, 4, none⟩ = some (.int .i64 c) := BL.out.cell' rfl
  have v5 : w0.cell? ⟨gl, 5, none⟩ = some (.int .i64 q) := BL.out.cell' rfl
  go_wp2_with fail
  refine (few9_ok _ _ _ _ _ _ _ rfl none 0 0 [] w0 ⟨rfl, fun h => absurd h (Nat.lt_irrefl 0)⟩ (by decide)).mono ?_
  rintro e w1 ⟨⟨b, rfl, -⟩, hf1⟩
  replace F := hid_ (F.out.then_none hf1)
  replace BL := hid_ (BL.out.fr hf1 id)
  replace BN := hid_ (BN.out.fr hf1 id)
  clear hf1 v0 v1 v2 v3 v4 v5
  have v0 : w1.cell? ⟨gl, 0, none⟩ = some (.int .i64 s) := BL.out.cell' rfl
  have v1 : w1.cell? ⟨gl, 1, none⟩ = some (.int .i64 p) := BL.out.cell' rfl
  have v2 : w1.cell? ⟨gl, 2, none⟩ = some (.int .i64 t) := BL.out.cell' rfl
  have v3 : w1.cell? ⟨gl, 3, none⟩ = some (.int .i64 r) := BL.out.cell' rfl
  have v4 : w1.cell? ⟨gl, 4, none⟩ = some (.int .i64 c) := BL.out.cell' rfl
  have v5 : w1.cell? ⟨gl, 5, none⟩ = some (.int .i64 q) := BL.out.cell' rfl
  cases b with
  | false =>
    go_wp2_with fail
    refine (awake9 _).mono ?_
    rintro e w9 ⟨rfl, hf9⟩
    have F9 := hid_ hf9
    clear hf9
    go_wp2_with fail
    go_ret
    exact ⟨rfl, F.out.then_none F9.out⟩
  | true =>
  go_wp2_with fail
  refine (rright_any s p t r c q _).mono ?_
  rintro e w2 ⟨rfl, hf2⟩
  replace F := hid_ (F.out.then_none hf2)
  replace BL := hid_ (BL.out.fr hf2 id)
  replace BN := hid_ (BN.out.fr hf2 id)
  clear hf2 v0 v1 v2 v3 v4 v5
  by_cases hr : 4 ≤ s ∧ s ≤ 4096 ∧ 3 ≤ p ∧ p ≤ 256 ∧ 1 ≤ t ∧ t ≤ 64 ∧ 2 ≤ r ∧ r ≤ 64 ∧ 2 ≤ c ∧ c ≤ 64 ∧ 8 ≤ q ∧ q ≤ 1099511627776
  rotate_left
  · rw [decide_eq_false hr]
    clear hr
    go_wp2_with fail
    refine (awake9 _).mono ?_
    rintro e w9 ⟨rfl, hf9⟩
    have F9 := hid_ hf9
    clear hf9
    go_wp2_with fail
    go_ret
    exact ⟨rfl, F.out.then_none F9.out⟩
  rw [decide_eq_true hr]
  obtain ⟨a1, a2, a3, a4, a5, a6, a7, a8, a9, a10, a11, a12⟩ := hr
  obtain ⟨l, hl⟩ : ∃ l : Lm, l = ⟨s.toNat, p.toNat, t, r, c, q⟩ := ⟨_, rfl⟩
  have es : s = (l.s : Int) := by rw [hl]; show s = (s.toNat : Int); omega
  have ep : p = (l.p : Int) := by rw [hl]; show p = (p.toNat : Int); omega
  have et : t = l.t := by rw [hl]
  have er : r = l.r := by rw [hl]
  have ec : c = l.c := by rw [hl]
  have eq : q = l.n := by rw [hl]
  have RT : Hid (Lm.Right l) := hid_ ⟨by omega, by omega, by omega, by omega, by omega, by omega⟩
  have HB : Hid (4 ≤ l.s ∧ l.s ≤ 4096 ∧ 3 ≤ l.p ∧ 8 ≤ l.n ∧ l.n ≤ 1099511627776) := hid_ ⟨by omega, by omega, by omega, by omega, by omega⟩
  clear hl
  subst es ep et er ec eq
  clear a1 a2 a3 a4 a5 a6 a7 a8 a9 a10 a11 a12
  have v0 : w2.cell? ⟨gl, 0, none⟩ = some (.int .i64 (l.s : Int)) := BL.out.cell' rfl
  have v1 : w2.cell? ⟨gl, 1, none⟩ = some (.int .i64 (l.p : Int)) := BL.out.cell' rfl
  have v2 : w2.cell? ⟨gl, 2, none⟩ = some (.int .i64 l.t) := BL.out.cell' rfl
  have v3 : w2.cell? ⟨gl, 3, none⟩ = some (.int .i64 l.r) := BL.out.cell' rfl
  have v4 : w2.cell? ⟨gl, 4, none⟩ = some (.int .i64 l.c) := BL.out.cell' rfl
  have v5 : w2.cell? ⟨gl, 5, none⟩ = some (.int .i64 l.n) := BL.out.cell' rfl
  go_wp2_with fail
  refine (memNew_ok l _ RT.out).mono ?_
  rintro e w3 ⟨m, a, G, vr, ve, T0, H0, C0, M0, rfl, hM, hf3, hm3, hC3, hM3, hG3, hH3⟩
  obtain ⟨x, hx⟩ : ∃ x : St, x = ⟨a, G, (⟨1, true, leafR, vr, ve⟩ : Sl) :: List.replicate (l.s - 1) Sl.zero, T0, H0, (true, 1, 1) :: List.replicate (l.p - 1) (false, 0, 0), C0, M0, 1, 0, .map []⟩ := ⟨_, rfl⟩
  have HX := hid_ hx
  have M3 : Hid (Mm w3 m 0 l x) := hid_ (by rw [hx]; exact hM)
  have HN : Hid (∀ i, mall m x i → w2.heap.size ≤ i) := hid_ (by
    subst hx
    rintro i (e | e | e | e | e) <;> subst e <;> assumption)
  have G2 : Hid (gl < w2.heap.size ∧ gl + 1 < w2.heap.size) := hid_ ⟨BL.out.lt, BN.out.lt⟩
  replace BL := hid_ (BL.out.fr hf3 id)
  replace BN := hid_ (BN.out.fr hf3 id)
  have F23 := hid_ hf3
  clear hM hf3 hx hm3 hC3 hM3 hG3 hH3 v0 v1 v2 v3 v4 v5
  have n0 : w3.cell? ⟨gl + 1, 0, none⟩ = some (.int .i64 ns) := BN.out.cell' rfl
  have n1 : w3.cell? ⟨gl + 1, 1, none⟩ = some (.int .i64 ng) := BN.out.cell' rfl
  go_wp2_with fail
  refine (memAlloc_any _ _ _ _ _ M3.out (by omega) (by omega) (rec9 ns ng) none 0 none 0 (fun w' _ => reads_rec9 ns ng w') ⟨Nat.zero_le _, Nat.zero_le _⟩).mono ?_
  rintro e w4 ⟨sl, gn, kk, ss2, v, rfl, har, hev, hM4, hf4⟩
  have hA : sl = 2 ∧ gn = 1 ∧ kk = 0 ∧ Ss9 l.s (rec9 ns ng) ss2 := alloc9 HB.out.1 HB.out.2.2.2.1 (by rw [HX.out] at har; exact har)
  obtain ⟨rfl, rfl, rfl, hss⟩ := hA
  have SS := hid_ hss
  obtain rfl : v = .nilIface := by
    rcases hev with ⟨_, h⟩ | ⟨h, _⟩
    · exact h
    · exact absurd rfl h
  have M4 := hid_ hM4
  have F24 : Hid (Fr none_ w2 w4) := hid_ (F23.out.trans hf4 (fun _ _ => id) (fun i hi e => by have := HN.out i e; omega))
  have NM : Hid (¬ mall m x gl ∧ ¬ mall m x (gl + 1)) := hid_ ⟨fun e => by have := HN.out _ e; have := G2.out.1; omega, fun e => by have := HN.out _ e; have := G2.out.2; omega⟩
  replace BL := hid_ (BL.out.fr hf4 NM.out.1)
  replace BN := hid_ (BN.out.fr hf4 NM.out.2)
  clear har hev hM4 hf4 hss n0 n1 M3 F23
  go_upto_region 7 with fail
  obtain ⟨w5, hw5⟩ : ∃ z, z = w4.alloc (.cells #[.int .i64 2, .int .i64 1] 25) := ⟨_, rfl⟩
  have K5 : Hid (Blk w5 w4.heap.size 25 #[.int .i64 2, .int .i64 1] ∧ Fr none_ w4 w5) := hid_ (by rw [hw5]; exact ⟨Blk.new w4 _ _, (Fr.refl none_ w4).alloc _⟩)
  change Code.wp _ _ _ _ (w4.alloc (.cells #[.int .i64 2, .int .i64 1] 25))
  rw [← hw5]
  clear hw5
  have M5 := hid_ (M4.out.keep K5.out.2)
  have z0 : w5.cell? ⟨w4.heap.size, 0, none⟩ = some (.int .i64 2) := K5.out.1.cell' rfl
  have z1 : w5.cell? ⟨w4.heap.size, 1, none⟩ = some (.int .i64 1) := K5.out.1.cell' rfl
  replace BL := hid_ (BL.out.fr K5.out.2 id)
  replace BN := hid_ (BN.out.fr K5.out.2 id)
  replace F24 := hid_ (F24.out.then_none K5.out.2)
  clear M4 K5
  go_wp2_with fail
  refine (memSwap_any _ _ _ _ _ M5.out (by omega) (by omega) 0 1 1 2 1).mono ?_
  rintro e w6 ⟨ok, kk, ps2, v, rfl, hsr, hev, hM6, hf6⟩
  have hS : ok = true ∧ kk = 0 ∧ ps2 = ps9 l.p := swap9 HB.out.2.2.1 (by
    have h := hsr
    rw [HX.out] at h
    exact h)
  obtain ⟨rfl, rfl, rfl⟩ := hS
  obtain rfl : v = .nilIface := by
    rcases hev with ⟨_, h⟩ | ⟨h, _⟩
    · exact h
    · exact absurd rfl h
  have hmall : ∀ i, mall m { x with ss := ss2 } i → w2.heap.size ≤ i := fun i hi => HN.out i hi
  obtain ⟨y, hy⟩ : ∃ y : St, y = { x with ss := ss2, ps := ps9 l.p } := ⟨_, rfl⟩
  have M6 : Hid (Mm w6 m (0 + 1 + 1) l y ∧ y.ss = ss2 ∧ y.ps = ps9 l.p) := hid_ (by rw [hy]; exact ⟨hM6, rfl, rfl⟩)
  have F26 : Hid (Fr none_ w2 w6) := hid_ (F24.out.trans hf6 (fun _ _ => id) (fun i hi e => by have := hmall i e; omega))
  replace BL := hid_ (BL.out.fr hf6 (fun e => by have := hmall _ e; have := G2.out.1; omega))
  replace BN := hid_ (BN.out.fr hf6 (fun e => by have := hmall _ e; have := G2.out.2; omega))
  replace F := hid_ (F.out.trans F26.out (fun _ _ => id) (fun _ _ e => e))
  clear hsr hev hM6 hf6 hmall hy z0 z1 M5 F24 F26 NM HN HX G2
  have v0 : w6.cell? ⟨gl, 0, none⟩ = some (.int .i64 (l.s : Int)) := BL.out.cell' rfl
  have v1 : w6.cell? ⟨gl, 1, none⟩ = some (.int .i64 (l.p : Int)) := BL.out.cell' rfl
  have v2 : w6.cell? ⟨gl, 2, none⟩ = some (.int .i64 l.t) := BL.out.cell' rfl
  have v3 : w6.cell? ⟨gl, 3, none⟩ = some (.int .i64 l.r) := BL.out.cell' rfl
  have v4 : w6.cell? ⟨gl, 4, none⟩ = some (.int .i64 l.c) := BL.out.cell' rfl
  have v5 : w6.cell? ⟨gl, 5, none⟩ = some (.int .i64 l.n) := BL.out.cell' rfl
  go_wp2_with fail
  refine (rnew9_ok l RT.out w6).mono ?_
  rintro e w7 ⟨PA, pc, T, tc, C, cn, cc, rfl, hra, hrt, hTb, hf7⟩
  have RA := hid_ hra
  have TB := hid_ hrt
  have F67 := hid_ hf7
  replace BN := hid_ (BN.out.fr hf7 id)
  clear hra hrt hTb hf7 v0 v1 v2 v3 v4 v5 BL
  obtain ⟨D1, hD1⟩ : ∃ z, z = dmA l l.s l.n (.slice PA 1 pc) l.p (.slice T 1 tc) 1 l.n (.slice C cn cc) 0 := ⟨_, rfl⟩
  have HD1 := hid_ hD1
  have hD1o : D1.all (·.oneCell') = true := by rw [hD1]; exact dm_one9 _ _ _ _ _ _ _ _ _ _ _ _ _ _ _ _
  have hD1s : D1.size = 15 := by rw [hD1]; rfl
  rw [← hD1]
  clear hD1
  go_upto_region 11 with (refine wpList_store_mid rfl 54 (.tmp 13) (.tmp 73) rfl w7.heap.size 0 D1 rfl rfl (by rw [hD1s]; exact new_there w7 _ dmZ) (by rw [hD1s]; exact dm_size) hD1o ?_; obtain ⟨w8, hw8⟩ : ∃ z, z = (w7.alloc (.cells dmZ 54)).setCells w7.heap.size 0 D1.toList := ⟨_, rfl⟩; change wpList _ _ _ _ _ ((w7.alloc (.cells dmZ 54)).setCells w7.heap.size 0 D1.toList); rw [← hw8]; have Q8 : Hid (Blk w8 w7.heap.size 54 D1 ∧ Fr none_ w7 w8) := hid_ (by rw [hw8]; have h9 := new_copy w7 54 dmZ D1.toList (by rw [Array.length_toList, hD1s]; rfl); simpa using h9); clear hw8)
  obtain ⟨gr, hgr⟩ : ∃ g, g = w7.heap.size := ⟨_, rfl⟩
  have BR := hid_ Q8.out.1
  rw [← hgr] at BR
  rw [← hgr]
  have HGR : Hid (w6.heap.size ≤ gr) := hid_ (by rw [hgr]; exact F67.out.size)
  replace RA := hid_ (RA.out.keep Q8.out.2)
  replace TB := hid_ (own_none TB.out Q8.out.2)
  replace BN := hid_ (BN.out.fr Q8.out.2 id)
  have F68 := hid_ (F67.out.then_none Q8.out.2)
  clear hgr Q8 F67 hD1o hD1s
  have c6 : w8.cell? ⟨gr, 6, none⟩ = some (.int .i64 (l.s : Int)) := by have h := BR.out; rw [HD1.out] at h; exact h.cell' rfl
  have c7 : w8.cell? ⟨gr, 7, none⟩ = some (.int .i64 l.n) := by have h := BR.out; rw [HD1.out] at h; exact h.cell' rfl
  have c8 : w8.cell? ⟨gr, 8, none⟩ = some (.slice PA 1 pc) := by have h := BR.out; rw [HD1.out] at h; exact h.cell' rfl
  have n0 : w8.cell? ⟨gl + 1, 0, none⟩ = some (.int .i64 ns) := BN.out.cell' rfl
  have n1 : w8.cell? ⟨gl + 1, 1, none⟩ = some (.int .i64 ng) := BN.out.cell' rfl
  go_wp2_with fail
  refine (ralloc_ok (l.s : Int) l.n [⟨1, 1, leafR, none, 0, none, 0, true⟩] PA pc (rec9 ns ng) none 0 none 0 w8 (by have := HB.out.1; omega) (by have := HB.out.2.1; omega) HB.out.2.2.2.2 hgen9 (by simp) RA.out (reads_rec9 ns ng w8) ⟨Nat.zero_le _, Nat.zero_le _⟩).mono ?_
  intro e w9 hra
  obtain ⟨A2, c2, rfl, hra2, hAb, hf9⟩ := dalloc9 HB.out.1 HB.out.2.2.2.1 hra
  replace RA := hid_ hra2
  have RB : Hid (∀ ad, A2 = some ad → ad.block ≠ gr) := hid_ (fun ad e => by have := hAb ad e; have := BR.out.lt; omega)
  replace TB := hid_ (own_none TB.out hf9)
  replace BR := hid_ (BR.out.fr hf9 id)
  replace F68 := hid_ (F68.out.then_none hf9)
  clear hra hra2 hAb hf9 c6 c7 c8 n0 n1 BN
  go_upto_region 12 with fail
  obtain ⟨w10, hw10⟩ : ∃ z, z = (w9.alloc (.cells #[.int .i64 (l.s : Int), .int .i64 l.n, .slice A2 2 c2] 46)).alloc (.cells #[.int .i64 2, .int .i64 1] 25) := ⟨_, rfl⟩
  have K10 : Hid (Blk w10 w9.heap.size 46 #[.int .i64 (l.s : Int), .int .i64 l.n, .slice A2 2 c2] ∧ Blk w10 (w9.heap.size + 1) 25 #[.int .i64 2, .int .i64 1] ∧ Fr none_ w9 w10) := hid_ (by rw [hw10]; exact ⟨(Blk.new w9 _ _).alloc _, Blk.new_at4 _ _ (by simp), ((Fr.refl none_ w9).alloc _).alloc _⟩)
  change Code.wp _ _ _ _ ((w9.alloc (.cells #[.int .i64 (l.s : Int), .int .i64 l.n, .slice A2 2 c2] 46)).alloc (.cells #[.int .i64 2, .int .i64 1] 25))
  rw [← hw10]
  clear hw10
  obtain ⟨ga, hga⟩ : ∃ g, g = w9.heap.size := ⟨_, rfl⟩
  rw [← hga] at K10
  rw [← hga]
  clear hga
  replace RA := hid_ (RA.out.keep K10.out.2.2)
  replace TB := hid_ (own_none TB.out K10.out.2.2)
  replace BR := hid_ (BR.out.fr K10.out.2.2 id)
  replace F68 := hid_ (F68.out.then_none K10.out.2.2)
  have c9 : w10.cell? ⟨gr, 9, none⟩ = some (.int .i64 (l.p : Int)) := by have h := BR.out; rw [HD1.out] at h; exact h.cell' rfl
  have c10 : w10.cell? ⟨gr, 10, none⟩ = some (.slice T 1 tc) := by have h := BR.out; rw [HD1.out] at h; exact h.cell' rfl
  have z0 : w10.cell? ⟨ga + 1, 0, none⟩ = some (.int .i64 2) := K10.out.2.1.cell' rfl
  have z1 : w10.cell? ⟨ga + 1, 1, none⟩ = some (.int .i64 1) := K10.out.2.1.cell' rfl
  go_wp2_with fail
  refine (rswap_yes (l.p : Int) 0 T tc [(0, 1, 1)] 1 1 2 1 w10 TB.out (by simp) (by omega) (by have := HB.out.2.2.1; omega) 0 0 rfl rfl).mono ?_
  rintro e w11 ⟨T2, tc2, rfl, hrt, hf11, -⟩
  replace TB := hid_ hrt
  replace RA := hid_ (RA.out.keep hf11)
  replace BR := hid_ (BR.out.fr hf11 id)
  replace F68 := hid_ (F68.out.then_none hf11)
  have BA := hid_ (K10.out.1.fr hf11 id)
  clear hrt hf11 c9 c10 z0 z1 K10
  go_upto_region 13 with fail
  obtain ⟨w12, hw12⟩ : ∃ z, z = w11.alloc (.cells #[.int .i64 (l.p : Int), .slice T2 1 tc2] 49) := ⟨_, rfl⟩
  have K12 : Hid (Blk w12 w11.heap.size 49 #[.int .i64 (l.p : Int), .slice T2 1 tc2] ∧ Fr none_ w11 w12) := hid_ (by rw [hw12]; exact ⟨Blk.new w11 _ _, (Fr.refl none_ w11).alloc _⟩)
  change Code.wp _ _ _ _ (w11.alloc (.cells #[.int .i64 (l.p : Int), .slice T2 1 tc2] 49))
  rw [← hw12]
  clear hw12
  obtain ⟨gt, hgt⟩ : ∃ g, g = w11.heap.size := ⟨_, rfl⟩
  rw [← hgt] at K12
  rw [← hgt]
  clear hgt
  replace RA := hid_ (RA.out.keep K12.out.2)
  replace TB := hid_ (own_none TB.out K12.out.2)
  replace BR := hid_ (BR.out.fr K12.out.2 id)
  replace F68 := hid_ (F68.out.then_none K12.out.2)
  replace BA := hid_ (BA.out.fr K12.out.2 id)
  have BT := hid_ K12.out.1
  clear K12
  have ba0 : w12.cell? ⟨ga, 0, none⟩ = some (.int .i64 (l.s : Int)) := BA.out.cell' rfl
  have ba1 : w12.cell? ⟨ga, 1, none⟩ = some (.int .i64 l.n) := BA.out.cell' rfl
  have ba2 : w12.cell? ⟨ga, 2, none⟩ = some (.slice A2 2 c2) := BA.out.cell' rfl
  have bt0 : w12.cell? ⟨gt, 0, none⟩ = some (.int .i64 (l.p : Int)) := BT.out.cell' rfl
  have bt1 : w12.cell? ⟨gt, 1, none⟩ = some (.slice T2 1 tc2) := BT.out.cell' rfl
  have NA : ga ≠ gr := Blk.ne_ BA.out BR.out (by decide)
  have NT : gt ≠ gr := Blk.ne_ BT.out BR.out (by decide)
  have c6 : w12.cell? ⟨gr, 6, none⟩ = some (.int .i64 (l.s : Int)) := by have h := BR.out; rw [HD1.out] at h; exact h.cell' rfl
  have c7 : w12.cell? ⟨gr, 7, none⟩ = some (.int .i64 l.n) := by have h := BR.out; rw [HD1.out] at h; exact h.cell' rfl
  have c8 : w12.cell? ⟨gr, 8, none⟩ = some (.slice PA 1 pc) := by have h := BR.out; rw [HD1.out] at h; exact h.cell' rfl
  have c9 : w12.cell? ⟨gr, 9, none⟩ = some (.int .i64 (l.p : Int)) := by have h := BR.out; rw [HD1.out] at h; exact h.cell' rfl
  have c10 : w12.cell? ⟨gr, 10, none⟩ = some (.slice T 1 tc) := by have h := BR.out; rw [HD1.out] at h; exact h.cell' rfl
  have f6 := BR.out.frozen 6
  have f7 := BR.out.frozen 7
  have f8 := BR.out.frozen 8
  have f9 := BR.out.frozen 9
  have f10 := BR.out.frozen 10
  go_region
  obtain ⟨w13, hw13⟩ : ∃ z, z = (((((w12.setCell ⟨gr, 6, none⟩ (.int .i64 (l.s : Int))).setCell ⟨gr, 7, none⟩ (.int .i64 l.n)).setCell ⟨gr, 8, none⟩ (.slice A2 2 c2)).setCell ⟨gr, 9, none⟩ (.int .i64 (l.p : Int))).setCell ⟨gr, 10, none⟩ (.slice T2 1 tc2)).drew := ⟨_, rfl⟩
  obtain ⟨D2, hD2⟩ : ∃ z, z = dmA l l.s l.n (.slice A2 2 c2) l.p (.slice T2 1 tc2) 1 l.n (.slice C cn cc) 0 := ⟨_, rfl⟩
  have HD2 := hid_ hD2
  have K13 : Hid (Blk w13 gr 54 D2 ∧ Fr (only gr) w12 w13) := hid_ (by
    have h := BR.out
    rw [HD1.out] at h
    rw [hw13, hD2]
    exact dm_put9 h _ _)
  rw [← hw13]
  clear hw13 hD2 c6 c7 c8 c9 c10 f6 f7 f8 f9 f10 ba0 ba1 ba2 bt0 bt1 NA NT
  replace RA := hid_ (ra_far9 (reads_rec9 ns ng) RA.out RB.out K13.out.2)
  have TB2 : Hid (ROwn w13 (.slice T2 1 tc2) [(0, 2, 1)]) := hid_ (own_far9 TB.out BR.out (by decide) K13.out.2)
  have F613 : Hid (Fr none_ w6 w13) := hid_ (F68.out.then_only K13.out.2 (.inr HGR.out))
  replace BR := hid_ K13.out.1
  have M13 : Hid (Mm w13 m (0 + 1 + 1) l y) := hid_ (M6.out.1.keep F613.out)
  replace F := hid_ (F.out.then_none F613.out)
  have SIM : Hid (Sim9 (l.s : Int) (lp9 (rec9 ns ng)) y.ss) := hid_ (by rw [M6.out.2.1]; exact SS.out.sim HB.out.1)
  have PSY : Hid (y.ps = ps9 l.p) := hid_ M6.out.2.2
  clear K13 F68 BA BT TB HD1 HGR RB SS M6 F613
  go_wp2_with fail
  obtain ⟨w14, hw14⟩ : ∃ z, z = w13.alloc (.cells #[.int .i64 0, .int .i64 pg] 3) := ⟨_, rfl⟩
  have K14 : Hid (Blk w14 w13.heap.size 3 #[.int .i64 0, .int .i64 pg] ∧ Fr none_ w13 w14) := hid_ (by rw [hw14]; exact ⟨Blk.new w13 _ _, (Fr.refl none_ w13).alloc _⟩)
  change Code.wp _ _ _ _ (w13.alloc (.cells #[.int .i64 0, .int .i64 pg] 3))
  rw [← hw14]
  clear hw14
  obtain ⟨gb, hgb⟩ : ∃ g, g = w13.heap.size := ⟨_, rfl⟩
  rw [← hgb] at K14
  rw [← hgb]
  clear hgb
  replace RA := hid_ (RA.out.keep K14.out.2)
  replace TB2 := hid_ (own_none TB2.out K14.out.2)
  replace BR := hid_ (BR.out.fr K14.out.2 id)
  replace M13 := hid_ (M13.out.keep K14.out.2)
  replace F := hid_ (F.out.then_none K14.out.2)
  have BB := hid_ K14.out.1
  clear K14
  go_loopw [99] (fun i wr => ∃ k : Nat, k ≤ 2 ∧ i = .int .i64 k ∧ Fr none_ w14 wr) (fun i _ => 2 - (intOf i).toNat)
  case atStart => exact ⟨0, by omega, rfl, Fr.refl _ _⟩
  case round =>
    obtain ⟨k, hk, rfl, hfr⟩ := hrel
    have FR := hid_ hfr
    have hi0 : (0 : Int) ≤ (k : Int) := Int.natCast_nonneg _
    clear hfr
    by_cases hlt : k < 2
    · obtain ⟨pp, hpp⟩ : ∃ pp : Int, w14.cell? ⟨gb, k, none⟩ = some (.int .i64 pp) := by
        match k, hlt with
        | 0, _ => exact ⟨0, BB.out.cell' rfl⟩
        | 1, _ => exact ⟨pg, BB.out.cell' rfl⟩
      have e0 : wr.cell? ⟨gb, k, none⟩ = some (.int .i64 pp) := cellFr hpp FR.out
      have hi1 : (k : Int) < 2 := by omega
      have HK := hid_ hlt
      clear hpp hlt
      go_wp2_with fail
      refine (mpage9 wr (M13.out.keep FR.out) SIM.out PSY.out HB.out.2.2.1 HB.out.2.1 pp).mono ?_
      rintro e w15 ⟨out, K, A, c, D, d, v, hpr, rfl, hrd, her, hf15⟩
      have PR := hid_ hpr
      have RD := hid_ hrd
      have ER := hid_ her
      have F15 := hid_ (FR.out.then_none hf15)
      clear hpr hrd her hf15 e0
      have HDC : Hid (Calls Tryd.prog 15 #[.agg D2.toList.toArray, .int .i64 pp] w15 (DCh l (rec9 ns ng) pp w15)) := hid_ (by
        have e : D2.toList.toArray = D2 := by simp
        rw [e, HD2.out]
        exact dpage9 w15 (RA.out.keep F15.out) (own_none TB2.out F15.out) HB.out.2.2.1 HB.out.2.1 pp)
      go_wp2_with (refine wpList_load_mid rfl 54 (.tmp 13) rfl gr 0 rfl D2.toList _ (Blk.range0d (BR.out.fr F15.out id)) Tryd.underlying54 rfl (by rw [HD2.out]; exact dm_size) ?_)
      refine HDC.out.mono ?_
      rintro e w16 ⟨out', K', A', c', D', d', hpr, rfl, hrd, hf16⟩
      obtain ⟨rfl, rfl⟩ := pres_det PR.out hpr
      have RD2 := hid_ hrd
      replace RD := hid_ (RD.out.none_fr hf16)
      replace ER := hid_ (ER.out.keep hf16)
      replace F15 := hid_ (F15.out.then_none hf16)
      have HLE := hid_ (PR.out.le HB.out.2.1)
      clear hpr hrd hf16 HDC PR
      have hn1 : ((out.length : Int) != (out.length : Int)) = false := by simp
      have hk1 : (K != K) = false := by simp
      rcases ER.out with ⟨rfl, rfl⟩ | ⟨hK, E, hE, hEK⟩
      · clear hk1
        go_wp2_with fail
        refine (sameRefs10_ok out D D' d d' _ HLE.out RD.out RD2.out).mono ?_
        rintro e w17 ⟨rfl, hf17⟩
        replace F15 := hid_ (F15.out.then_none hf17)
        clear hf17
        go_wp2_with fail
        refine (code_nil _).mono ?_
        rintro e w18 ⟨rfl, hf18⟩
        replace F15 := hid_ (F15.out.then_none hf18)
        clear hf18
        go_wp2_with fail
        go_roundw
        case rel => exact ⟨k + 1, by have := HK.out; omega, by go_num, F15.out⟩
        case measure => simp [intOf]; have := HK.out; omega
      · obtain ⟨et, ex, rfl⟩ := hE.iface
        have hk0 : (K == 0) = false := by simpa using hK
        have ER2 := hid_ hE
        have HEK := hid_ hEK
        clear hE hEK hK
        go_wp2_with fail
        refine (sameRefs10_ok out D D' d d' _ HLE.out RD.out RD2.out).mono ?_
        rintro e w17 ⟨rfl, hf17⟩
        replace F15 := hid_ (F15.out.then_none hf17)
        replace ER2 := hid_ (ER2.out.keep hf17)
        clear hf17
        go_wp2_with fail
        refine (codeE E _ w17 ER2.out (HL.out.fr (F.out.then_none F15.out) id)).mono ?_
        rintro e w18 ⟨rfl, hf18⟩
        rw [HEK.out]
        replace F15 := hid_ (F15.out.then_none hf18)
        clear hf18
        go_wp2_with fail
        go_roundw
        case rel => exact ⟨k + 1, by have := HK.out; omega, by go_num, F15.out⟩
        case measure => simp [intOf]; have := HK.out; omega
    · obtain rfl : k = 2 := by omega
      clear hk hlt hi0
      go_wp2_with fail
      refine (awake9 _).mono ?_
      rintro e w9 ⟨rfl, hf9⟩
      have F9 := hid_ hf9
      clear hf9
      go_wp2_with fail
      go_ret
      exact ⟨rfl, (F.out.then_none FR.out).then_none F9.out⟩
end Go.Proofs.YtfihfjbakfadkaaDoor

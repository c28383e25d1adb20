/- Texts of one proof, merged: Dch9. -/
import Derived.Deep.DeepCutAuto
import Derived.Test.YtfihfjbakfadkaaDoorMcO
import Derived.Test.YtfihfjbakfadkaaDoorMcP
namespace Go.Proofs.YtfihfjbakfadkaaDoor
open Go.RowKit Go.BigFrame
set_option maxRecDepth 100000
set_option linter.unusedVariables false

theorem own_side9 {w w' : World} {b1 s1 n1 b2 s2 n2 : Nat} {e1 e2 : TypeId} {v1 v2 : Value} {xs1 xs2 : List Value} (h : w.ownsRow b1 e1 s1 v1 n1 xs1) (h2 : w.ownsRow b2 e2 s2 v2 n2 xs2) (ne : e1 ≠ e2) (hg : w.grownBy w' v2.ownBlock) : w'.ownsRow b1 e1 s1 v1 n1 xs1 :=
  own_fr h (Fr.grown (S := fun b => v2.ownBlock = some b) (Fr.refl _ _) hg (fun k hk => .inl hk)) (fun i hi e => own_own_ne h h2 ne i hi e)
theorem own_far9 {w w' : World} {b1 s1 n1 X : Nat} {e1 t : TypeId} {v1 : Value} {xs1 : List Value} {cs : Array Value} (h : w.ownsRow b1 e1 s1 v1 n1 xs1) (hX : Blk w X t cs) (ne : e1 ≠ t) (hf : Fr (only X) w w') : w'.ownsRow b1 e1 s1 v1 n1 xs1 :=
  own_fr h hf (fun k hk e => own_blk_ne h hX ne (by rw [hk, show k = X from e]))
theorem Blk.range0d {w : World} {g : Nat} {t : TypeId} {cs : Array Value} (h : Blk w g t cs) : w.rangeAt g 0 cs.toList := fun j v hv => by
  rw [Nat.zero_add]
  exact h.cell' (by simpa using hv)
/-- The path from a ref, by the records that are there. -/
inductive DPth (slots : Int) (LP : List RaP) (s0 g0 : Int) : List (Int × Int) → Int → Int → Prop where
  | nil : DPth slots LP s0 g0 [] s0 g0
  | snoc {pre : List (Int × Int)} {s g : Int} {R : Rc} {A B : Option Addr} {c d : Nat} (h : DPth slots LP s0 g0 pre s g) (hz : ¬ (s = 0 ∧ g = 0)) (hl : RLoadIs slots LP s g R A B c d 0) : DPth slots LP s0 g0 (pre ++ [(s, g)]) R.nslot R.ngen
def DChain (slots : Int) (cap : Nat) (LP : List RaP) (s0 g0 : Int) (w : World) (e : Ending) (w' : World) : Prop :=
  (∃ (rs : List (Int × Int)) (A : Option Addr) (c : Nat) (D : Option Addr) (d : Nat), DPth slots LP s0 g0 rs 0 0 ∧ rs.length ≤ cap ∧ e = .returned (.tuple #[.slice A rs.length c, .slice D rs.length d, .int .i64 0]) ∧ Reads w' 2 D rs.length (rpFlat rs) ∧ Fr none_ w w') ∨
  (∃ (rs : List (Int × Int)) (s g : Int), DPth slots LP s0 g0 rs s g ∧ rs.length = cap ∧ ¬ (s = 0 ∧ g = 0) ∧ e = .returned (.tuple #[.slice none 0 0, .slice none 0 0, .int .i64 10]) ∧ Fr none_ w w') ∨
  (∃ (rs : List (Int × Int)) (s g : Int) (R : Rc) (A B : Option Addr) (c d : Nat) (k : Int), DPth slots LP s0 g0 rs s g ∧ rs.length < cap ∧ ¬ (s = 0 ∧ g = 0) ∧ RLoadIs slots LP s g R A B c d k ∧ k ≠ 0 ∧ e = .returned (.tuple #[.slice none 0 0, .slice none 0 0, .int .i64 k]) ∧ Fr none_ w w')
/-- What the walk keeps. -/
structure DcW (w : World) (b1 gM gx : Nat) (DM : Array Value) (wr : World) (vl : Value) (nl : Nat) (xl : List Value) (vr : Value) (nr : Nat) (xr : List Value) (s g : Int) : Prop where
  lo : wr.ownsRow b1 41 15 vl nl xl
  ro : wr.ownsRow b1 25 2 vr nr xr
  bm : Blk wr gM 54 DM
  bx : Blk wr gx 25 #[.int .i64 s, .int .i64 g]
  lt : gx < b1 ∧ w.heap.size ≤ gx ∧ w.heap.size ≤ b1 ∧ b1 ≤ wr.heap.size
  fr : Fr none_ w wr
section
variable {w : World} {b1 gM gx : Nat} {DM : Array Value} {wr w' : World} {vl : Value} {nl : Nat} {xl : List Value} {vr : Value} {nr : Nat} {xr : List Value} {s g : Int}
theorem DcW.keep (h : DcW w b1 gM gx DM wr vl nl xl vr nr xr s g) (hf : Fr none_ wr w') : DcW w b1 gM gx DM w' vl nl xl vr nr xr s g :=
  ⟨own_none h.lo hf, own_none h.ro hf, h.bm.fr hf id, h.bx.fr hf id, ⟨h.lt.1, h.lt.2.1, h.lt.2.2.1, Nat.le_trans h.lt.2.2.2 hf.size⟩, h.fr.then_none hf⟩
theorem DcW.growL (h : DcW w b1 gM gx DM wr vl nl xl vr nr xr s g) {v2 : Value} {n2 : Nat} {x2 : List Value} (ho : w'.ownsRow b1 41 15 v2 n2 x2) (hg : wr.grownBy w' vl.ownBlock) : DcW w b1 gM gx DM w' v2 n2 x2 vr nr xr s g := by
  have hf : Fr (fun b => vl.ownBlock = some b) wr w' := Fr.grown (Fr.refl _ _) hg (fun k hk => .inl hk)
  exact ⟨ho, own_side9 h.ro h.lo (by decide) hg, h.bm.fr hf (own_blk_ne h.lo h.bm (by decide)), h.bx.fr hf (own_blk_ne h.lo h.bx (by decide)), ⟨h.lt.1, h.lt.2.1, h.lt.2.2.1, Nat.le_trans h.lt.2.2.2 hf.size⟩, h.fr.grown hg (fun b hb => .inr (by have := (h.lo.lt b hb).1; have := h.lt.2.2.1; omega))⟩
theorem DcW.growR (h : DcW w b1 gM gx DM wr vl nl xl vr nr xr s g) {v2 : Value} {n2 : Nat} {x2 : List Value} (ho : w'.ownsRow b1 25 2 v2 n2 x2) (hg : wr.grownBy w' vr.ownBlock) : DcW w b1 gM gx DM w' vl nl xl v2 n2 x2 s g := by
  have hf : Fr (fun b => vr.ownBlock = some b) wr w' := Fr.grown (Fr.refl _ _) hg (fun k hk => .inl hk)
  exact ⟨own_side9 h.lo h.ro (by decide) hg, ho, h.bm.fr hf (own_blk_ne h.ro h.bm (by decide)), h.bx.fr hf (fun e => by have := (h.ro.lt gx e).1; have := h.lt.1; omega), ⟨h.lt.1, h.lt.2.1, h.lt.2.2.1, Nat.le_trans h.lt.2.2.2 hf.size⟩, h.fr.grown hg (fun b hb => .inr (by have := (h.ro.lt b hb).1; have := h.lt.2.2.1; omega))⟩
theorem DcW.setx (h : DcW w b1 gM gx DM wr vl nl xl vr nr xr s g) {s' g' : Int} (hw : w' = (wr.setCell ⟨gx, 0, none⟩ (.int .i64 s')).setCell ⟨gx, 1, none⟩ (.int .i64 g')) : DcW w b1 gM gx DM w' vl nl xl vr nr xr s' g' := by
  obtain ⟨hb, hf⟩ := box2 h.bx (.int .i64 s') (.int .i64 g')
  rw [← hw] at hb hf
  exact ⟨own_far9 h.lo h.bx (by decide) hf, own_fr h.ro hf (fun k hk e => by have e' : k = gx := e; have := (h.ro.lt k hk).1; have := h.lt.1; omega), h.bm.fr hf (only_ne (Blk.ne_ h.bm h.bx (by decide))), hb, ⟨h.lt.1, h.lt.2.1, h.lt.2.2.1, Nat.le_trans h.lt.2.2.2 hf.size⟩, h.fr.then_only hf (.inr h.lt.2.1)⟩
end
theorem rpFlat_snocd (L : List (Int × Int)) (p : Int × Int) : rpFlat (L ++ [p]) = rpFlat L ++ [.int .i64 p.1, .int .i64 p.2] := by simp [rpFlat]
def slLend : Value → Nat
  | .slice _ n _ => n
  | _ => 0
/-- A page that is none, or is not used. -/
theorem dchain_err {l : Lm} {sn sl : Int} {sv : Value} {tn : Int} {T : Option Addr} {tc : Nat} {L : List Rp} {cn cl : Int} {cv : Value} {kk n : Int} (w : World) (ht : ROwn w (.slice T L.length tc) L) (hl : L.length ≤ 1000) (k : Int) (hk : whyL tn L n = k) (hk0 : k ≠ 0) :
    Calls Tryd.prog 15 #[.agg (dmA l sn sl sv tn (.slice T L.length tc) cn cl cv kk), .int .i64 n] w fun e w' => e = .returned (.tuple #[.slice none 0 0, .slice none 0 0, .int .i64 k]) ∧ Fr none_ w w' := by
  obtain ⟨DM, hDM⟩ : ∃ z, z = (dmA l sn sl sv tn (.slice T L.length tc) cn cl cv kk) := ⟨_, rfl⟩
  rw [← hDM]
  obtain ⟨w0, hw0⟩ : ∃ z, z = (w.alloc (.cells DM 54)) := ⟨_, rfl⟩
  have f0 : Fr none_ w w0 := by rw [hw0]; exact (Fr.refl none_ w).alloc _
  have BM : Hid (Blk w0 w.heap.size 54 DM) := hid_ (by rw [hw0]; exact Blk.new w _ _)
  have F0 := hid_ f0
  have TB := hid_ ht
  have HL := hid_ hl
  have HK := hid_ (And.intro hk hk0)
  have HDM := hid_ hDM
  have hkn : (k != 0) = true := by simpa using hk0
  clear f0 ht hl hk hk0 hDM
  go_enter Tryd.func15, Tryd.ntmps15
  go_upto_region 1 with fail
  change Code.wp _ _ _ _ (w.alloc (.cells DM 54))
  rw [← hw0]
  clear hw0
  have c9 : w0.cell? ⟨w.heap.size, 9, none⟩ = some (.int .i64 tn) := by have h := BM.out; rw [HDM.out] at h; exact h.cell' rfl
  have c10 : w0.cell? ⟨w.heap.size, 10, none⟩ = some (.slice T L.length tc) := by have h := BM.out; rw [HDM.out] at h; exact h.cell' rfl
  go_wp2_with fail
  refine (rhead_err tn n T tc L w0 (own_none TB.out F0.out) HL.out k HK.out.1 HK.out.2).mono ?_
  rintro e w1 ⟨rfl, hf1⟩
  replace F0 := hid_ (F0.out.then_none hf1)
  clear hf1 c9 c10 BM
  go_wp2_with fail
  go_ret3
  exact ⟨rfl, F0.out.then_none ((Fr.refl none_ _).alloc _)⟩
set_option maxHeartbeats 16000000 in
theorem dchain_ok {l : Lm} {last : Int} {LP : List RaP} {PA : Option Addr} {pc : Nat} {tn : Int} {T : Option Addr} {tc : Nat} {L : List Rp} {cn cl : Int} {cv : Value} {kk n : Int} (w : World) (hra : RaIn w LP PA pc) (ht : ROwn w (.slice T L.length tc) L) (hl : L.length ≤ 1000) (h0 : 0 ≤ n) (h1 : n < tn) (i : Nat) (m s0 g0 : Int) (hf : findL L n = i) (hi : L[i]? = some (m, s0, g0)) (hls : l.s ≤ 4096) :
    Calls Tryd.prog 15 #[.agg (dmA l (l.s : Int) last (.slice PA LP.length pc) tn (.slice T L.length tc) cn cl cv kk), .int .i64 n] w (DChain (l.s : Int) l.s LP s0 g0 w) := by
  obtain ⟨DM, hDM⟩ : ∃ z, z = (dmA l (l.s : Int) last (.slice PA LP.length pc) tn (.slice T L.length tc) cn cl cv kk) := ⟨_, rfl⟩
  rw [← hDM]
  obtain ⟨w0, hw0⟩ : ∃ z, z = (w.alloc (.cells DM 54)) := ⟨_, rfl⟩
  have f0 : Fr none_ w w0 := by rw [hw0]; exact (Fr.refl none_ w).alloc _
  have BM : Hid (Blk w0 w.heap.size 54 DM) := hid_ (by rw [hw0]; exact Blk.new w _ _)
  have F0 := hid_ f0
  have TB := hid_ ht
  have RA := hid_ hra
  have HL := hid_ hl
  have H9 := hid_ (And.intro h0 (And.intro h1 (And.intro hf hi)))
  have HLS := hid_ hls
  have HDM := hid_ hDM
  obtain ⟨i0, hi0, hy0, hs0, hb0⟩ := info_parts rec_info9
  have Hi := hid_ (And.intro hi0 (And.intro hy0 (And.intro hs0 hb0)))
  obtain ⟨j0, hj0, hyj, hsj, hbj⟩ := info_parts ref_info9
  have Hj := hid_ (And.intro hj0 (And.intro hyj (And.intro hsj hbj)))
  clear hi0 hy0 hs0 hb0 hj0 hyj hsj hbj f0 hra ht hl h0 h1 hf hi hls hDM
  go_enter Tryd.func15, Tryd.ntmps15
  go_upto_region 1 with fail
  change Code.wp _ _ _ _ (w.alloc (.cells DM 54))
  rw [← hw0]
  clear hw0
  obtain ⟨gM, hgM⟩ : ∃ g, g = w.heap.size := ⟨_, rfl⟩
  rw [← hgM] at BM
  rw [← hgM]
  clear hgM
  have c9 : w0.cell? ⟨gM, 9, none⟩ = some (.int .i64 tn) := by have h := BM.out; rw [HDM.out] at h; exact h.cell' rfl
  have c10 : w0.cell? ⟨gM, 10, none⟩ = some (.slice T L.length tc) := by have h := BM.out; rw [HDM.out] at h; exact h.cell' rfl
  go_wp2_with fail
  refine (rhead_ok tn n T tc L w0 (own_none TB.out F0.out) HL.out H9.out.1 H9.out.2.1 i m s0 g0 H9.out.2.2.1 H9.out.2.2.2).mono ?_
  rintro e w1 ⟨rfl, hf1⟩
  replace BM := hid_ (BM.out.fr hf1 id)
  replace F0 := hid_ (F0.out.then_none hf1)
  clear hf1 c9 c10
  go_upto_region 2 with fail
  obtain ⟨w2, hw2⟩ : ∃ z, z = w1.alloc (.cells #[.int .i64 s0, .int .i64 g0] 25) := ⟨_, rfl⟩
  have K2 : Hid (Blk w2 w1.heap.size 25 #[.int .i64 s0, .int .i64 g0] ∧ Fr none_ w1 w2) := hid_ (by rw [hw2]; exact ⟨Blk.new w1 _ _, (Fr.refl none_ w1).alloc _⟩)
  change Code.wp _ _ _ _ (w1.alloc (.cells #[.int .i64 s0, .int .i64 g0] 25))
  rw [← hw2]
  clear hw2
  obtain ⟨gx, hgx⟩ : ∃ g, g = w1.heap.size := ⟨_, rfl⟩
  obtain ⟨b1, hb1⟩ : ∃ b, b = w2.heap.size := ⟨_, rfl⟩
  have NW : Hid (DcW w b1 gM gx DM w2 (.slice none 0 0) 0 [] (.slice none 0 0) 0 [] s0 g0) := hid_ (by
    have h3 := K2.out.1.lt
    have h4 := (F0.out).size
    have h5 := (F0.out.then_none K2.out.2).size
    exact ⟨World.ownsRow_nil _ _ _ _, World.ownsRow_nil _ _ _ _, BM.out.fr K2.out.2 id, by rw [hgx]; exact K2.out.1, by omega, F0.out.then_none K2.out.2⟩)
  rw [← hgx]
  clear hgx hb1 K2 BM F0
  go_wp2_with fail
  go_loopw [9, 10] (fun v r wr => ∃ (rs : List (Int × Int)) (Ls : List Ch) (A : Option Addr) (c : Nat) (D : Option Addr) (d : Nat) (s g : Int), rs.length ≤ l.s ∧ v = .slice A rs.length c ∧ r = .slice D rs.length d ∧ DPth (l.s : Int) LP s0 g0 rs s g ∧ DcW w b1 gM gx DM wr (.slice A rs.length c) rs.length (recFlat Ls) (.slice D rs.length d) rs.length (rpFlat rs) s g) (fun v _ _ => l.s - slLend v)
  case atStart => exact ⟨[], [], none, 0, none, 0, s0, g0, Nat.zero_le _, rfl, rfl, .nil, NW.out⟩
  case round =>
    obtain ⟨rs, Ls, A, c, D, d, s, g, hk, rfl, rfl, hpt, hnw⟩ := hrel
    have N := hid_ hnw
    have P := hid_ hpt
    have HK := hid_ hk
    clear hnw hpt NW
    have RAr := hid_ (RA.out.keep N.out.fr)
    have x0 : wr.cell? ⟨gx, 0, none⟩ = some (.int .i64 s) := N.out.bx.cell' rfl
    have x1 : wr.cell? ⟨gx, 1, none⟩ = some (.int .i64 g) := N.out.bx.cell' rfl
    have c0 : wr.cell? ⟨gM, 0, none⟩ = some (.int .i64 (l.s : Int)) := by have h := N.out.bm; rw [HDM.out] at h; exact h.cell' rfl
    have c6 : wr.cell? ⟨gM, 6, none⟩ = some (.int .i64 (l.s : Int)) := by have h := N.out.bm; rw [HDM.out] at h; exact h.cell' rfl
    have c7 : wr.cell? ⟨gM, 7, none⟩ = some (.int .i64 last) := by have h := N.out.bm; rw [HDM.out] at h; exact h.cell' rfl
    have c8 : wr.cell? ⟨gM, 8, none⟩ = some (.slice PA LP.length pc) := by have h := N.out.bm; rw [HDM.out] at h; exact h.cell' rfl
    by_cases hz : s = 0 ∧ g = 0
    · obtain ⟨hs0, hg0⟩ := hz
      rw [hs0] at x0
      rw [hg0] at x1
      have HSG := hid_ (And.intro hs0 hg0)
      clear hs0 hg0 c0 c6 c7 c8
      go_wp2_with fail
      go_ret3
      exact .inl ⟨rs, A, c, D, d, by have h := P.out; rw [HSG.out.1, HSG.out.2] at h; exact h, HK.out, rfl, Reads.of_own N.out.ro, N.out.fr⟩
    · have HZ := hid_ hz
      by_cases hfull : rs.length = l.s
      · have hfl : ((rs.length : Int) == (l.s : Int)) = true := by simp [hfull]
        have HFL := hid_ hfull
        clear hfull c6 c7 c8
        by_cases hs0 : s = 0
        · have hgn : (g != 0) = true := by simpa using (fun e => hz ⟨hs0, e⟩ : ¬ g = 0)
          rw [hs0] at x0
          clear hs0 hz
          go_wp2_with fail
          go_ret3
          exact .inr (.inl ⟨rs, s, g, P.out, HFL.out, HZ.out, rfl, N.out.fr⟩)
        · have hsn : (s != 0) = true := by simpa using hs0
          clear hs0 hz
          go_wp2_with fail
          go_ret3
          exact .inr (.inl ⟨rs, s, g, P.out, HFL.out, HZ.out, rfl, N.out.fr⟩)
      · by_cases hs0 : s = 0
        · have hgn : (g != 0) = true := by simpa using (fun e => hz ⟨hs0, e⟩ : ¬ g = 0)
          have HS0 := hid_ hs0
          rw [hs0] at x0
          clear hs0 hz
          have hfl : ((rs.length : Int) == (l.s : Int)) = false := by simpa using (fun e => hfull (Int.ofNat.inj e) : ¬ ((rs.length : Int) = (l.s : Int)))
          have HFL := hid_ hfull
          clear hfull
          go_wp2_with fail
          have HLC : Hid (Calls Tryd.prog 47 #[raV (l.s : Int) last LP PA pc, .agg #[.int .i64 0, .int .i64 g]] wr (RLoadPost (l.s : Int) LP s g wr)) := hid_ (by have h := rload_ok (l.s : Int) last LP PA pc s g wr RAr.out; rw [HS0.out] at h ⊢; exact h)
          refine HLC.out.mono ?_
          rintro e w4 ⟨R, LA, LB, lc, ld, kk2, hld, rfl, -, -, hf4⟩
          replace N := hid_ (N.out.keep hf4)
          clear hf4 hfl c0 c6 c7 c8 x0 x1
          have hk1 : kk2 = 1 := by
            have e := HS0.out
            rcases hld with ⟨_, _, _, _, _, _, h⟩ | ⟨h, _⟩ | ⟨h, _⟩
            · exact h
            · omega
            · omega
          obtain rfl := hk1
          have HLD := hid_ hld
          clear hld
          have HNO := hid_ True.intro
          go_upto_region 10 with (refine wpList_store_mid rfl 41 (.tmp 11) (.tmp 42) rfl w4.heap.size 0 (recL ⟨R, LA, lc, LB, ld⟩).toArray rfl rfl (new_there w4 _ recZ8) rec_size8 (rec_one ⟨R, LA, lc, LB, ld⟩) ?_; obtain ⟨w5, hw5⟩ : ∃ z, z = (w4.alloc (.cells recZ8 41)).setCells w4.heap.size 0 (recL ⟨R, LA, lc, LB, ld⟩) := ⟨_, rfl⟩; change wpList _ _ _ _ _ ((w4.alloc (.cells recZ8 41)).setCells w4.heap.size 0 (recL ⟨R, LA, lc, LB, ld⟩)); rw [← hw5]; have Q5 : Hid (Blk w5 w4.heap.size 41 (recL ⟨R, LA, lc, LB, ld⟩).toArray ∧ Fr none_ w4 w5) := hid_ (by rw [hw5]; exact new_copy w4 _ recZ8 _ rfl); clear hw5)
          go_wp2_with fail
          go_ret3
          exact .inr (.inr ⟨rs, s, g, R, LA, LB, lc, ld, 1, P.out, by have := HK.out; have := HFL.out; omega, HZ.out, HLD.out, by decide, rfl, N.out.fr.then_none Q5.out.2⟩)
        · have hsn : (s != 0) = true := by simpa using hs0
          clear hs0 hz
          have hfl : ((rs.length : Int) == (l.s : Int)) = false := by simpa using (fun e => hfull (Int.ofNat.inj e) : ¬ ((rs.length : Int) = (l.s : Int)))
          have HFL := hid_ hfull
          clear hfull
          go_wp2_with fail
          refine (rload_ok (l.s : Int) last LP PA pc s g wr RAr.out).mono ?_
          rintro e w4 ⟨R, LA, LB, lc, ld, kk2, hld, rfl, -, -, hf4⟩
          replace N := hid_ (N.out.keep hf4)
          clear hf4 hfl c0 c6 c7 c8 x0 x1
          have hk : kk2 = 1 ∨ kk2 = 4 ∨ kk2 = 0 := by
            rcases hld with ⟨_, _, _, _, _, _, h⟩ | ⟨_, _, _, _, _, _, _, h⟩ | ⟨_, _, _, _, _, _, _, _, _, _, _, _, _, h⟩
            · exact .inl h
            · exact .inr (.inl h)
            · exact .inr (.inr h)
          have HLD := hid_ hld
          clear hld
          rcases hk with rfl | rfl | rfl
          · have HNO := hid_ True.intro
            clear HNO
            go_upto_region 10 with (refine wpList_store_mid rfl 41 (.tmp 11) (.tmp 42) rfl w4.heap.size 0 (recL ⟨R, LA, lc, LB, ld⟩).toArray rfl rfl (new_there w4 _ recZ8) rec_size8 (rec_one ⟨R, LA, lc, LB, ld⟩) ?_; obtain ⟨w5, hw5⟩ : ∃ z, z = (w4.alloc (.cells recZ8 41)).setCells w4.heap.size 0 (recL ⟨R, LA, lc, LB, ld⟩) := ⟨_, rfl⟩; change wpList _ _ _ _ _ ((w4.alloc (.cells recZ8 41)).setCells w4.heap.size 0 (recL ⟨R, LA, lc, LB, ld⟩)); rw [← hw5]; have Q5 : Hid (Blk w5 w4.heap.size 41 (recL ⟨R, LA, lc, LB, ld⟩).toArray ∧ Fr none_ w4 w5) := hid_ (by rw [hw5]; exact new_copy w4 _ recZ8 _ rfl); clear hw5)
            go_wp2_with fail
            go_ret3
            exact .inr (.inr ⟨rs, s, g, R, LA, LB, lc, ld, 1, P.out, by have := HK.out; have := HFL.out; omega, HZ.out, HLD.out, by decide, rfl, N.out.fr.then_none Q5.out.2⟩)
          · have HNO := hid_ True.intro
            clear HNO
            go_upto_region 10 with (refine wpList_store_mid rfl 41 (.tmp 11) (.tmp 42) rfl w4.heap.size 0 (recL ⟨R, LA, lc, LB, ld⟩).toArray rfl rfl (new_there w4 _ recZ8) rec_size8 (rec_one ⟨R, LA, lc, LB, ld⟩) ?_; obtain ⟨w5, hw5⟩ : ∃ z, z = (w4.alloc (.cells recZ8 41)).setCells w4.heap.size 0 (recL ⟨R, LA, lc, LB, ld⟩) := ⟨_, rfl⟩; change wpList _ _ _ _ _ ((w4.alloc (.cells recZ8 41)).setCells w4.heap.size 0 (recL ⟨R, LA, lc, LB, ld⟩)); rw [← hw5]; have Q5 : Hid (Blk w5 w4.heap.size 41 (recL ⟨R, LA, lc, LB, ld⟩).toArray ∧ Fr none_ w4 w5) := hid_ (by rw [hw5]; exact new_copy w4 _ recZ8 _ rfl); clear hw5)
            go_wp2_with fail
            go_ret3
            exact .inr (.inr ⟨rs, s, g, R, LA, LB, lc, ld, 4, P.out, by have := HK.out; have := HFL.out; omega, HZ.out, HLD.out, by decide, rfl, N.out.fr.then_none Q5.out.2⟩)
          · have HNO := hid_ True.intro
            clear HNO
            go_upto_region 10 with (refine wpList_store_mid rfl 41 (.tmp 11) (.tmp 42) rfl w4.heap.size 0 (recL ⟨R, LA, lc, LB, ld⟩).toArray rfl rfl (new_there w4 _ recZ8) rec_size8 (rec_one ⟨R, LA, lc, LB, ld⟩) ?_; obtain ⟨w5, hw5⟩ : ∃ z, z = (w4.alloc (.cells recZ8 41)).setCells w4.heap.size 0 (recL ⟨R, LA, lc, LB, ld⟩) := ⟨_, rfl⟩; change wpList _ _ _ _ _ ((w4.alloc (.cells recZ8 41)).setCells w4.heap.size 0 (recL ⟨R, LA, lc, LB, ld⟩)); rw [← hw5]; have Q5 : Hid (Blk w5 w4.heap.size 41 (recL ⟨R, LA, lc, LB, ld⟩).toArray ∧ Fr none_ w4 w5) := hid_ (by rw [hw5]; exact new_copy w4 _ recZ8 _ rfl); clear hw5)
            obtain ⟨gc, hgc⟩ : ∃ g, g = w4.heap.size := ⟨_, rfl⟩
            have BC := hid_ Q5.out.1
            rw [← hgc] at BC
            rw [← hgc]
            have HGC : Hid (b1 ≤ gc) := hid_ (by rw [hgc]; exact N.out.lt.2.2.2)
            have NGC : Hid (∀ i, (Value.slice A rs.length c).ownBlock = some i → i ≠ gc) := hid_ (fun i hi => by have := (N.out.lo.lt i hi).2; omega)
            have hrl : rs.length ≤ 4096 := by have := HK.out; have := HLS.out; omega
            have HRL := hid_ hrl
            clear hrl
            replace N := hid_ (N.out.keep Q5.out.2)
            clear hgc Q5
            go_upto_region 13 with (first | (refine wpList_load_mid rfl 41 (.tmp 11) rfl gc 0 rfl (recL ⟨R, LA, lc, LB, ld⟩) _ (Blk.range0d BC.out) Tryd.underlying41 rfl rec_size8 ?_) | (at_builtin; refine wpList_append_any _ rfl (.tmp 47) (.tmp 49) 61 rfl b1 41 i0 _ 15 192 Tryd.underlying61 Hi.out.1 Hi.out.2.1 Hi.out.2.2.1 Hi.out.2.2.2 rfl (by omega) (.slice A rs.length c) rs.length (recFlat Ls) rfl (N.out.lo.alloc _) (some ⟨w5.heap.size, 0, none⟩) 1 1 (recL ⟨R, LA, lc, LB, ld⟩) rfl (reads_new w5 _ (recL ⟨R, LA, lc, LB, ld⟩) _ rfl) (by simp [Value.oneCell']) (by simp only [maxLen]; have := HRL.out; omega) (by have := HRL.out; omega) (by have h9 := N.out.lt.2.2.2; simp; omega) ?_; intro A3 c3 w6 hown6 hgr6))
            have N6 : Hid (DcW w b1 gM gx DM w6 (.slice A3 (rs.length + 1) c3) (rs.length + 1) (recFlat (Ls ++ [⟨R, LA, lc, LB, ld⟩])) (.slice D rs.length d) rs.length (rpFlat rs) s g) := hid_ ((N.out.keep ((Fr.refl none_ w5).alloc _)).growL (by
              rw [recFlat_app]
              have e : recFlat [(⟨R, LA, lc, LB, ld⟩ : Ch)] = recL ⟨R, LA, lc, LB, ld⟩ := by simp [recFlat]
              rw [e]
              exact hown6) hgr6)
            replace BC := hid_ ((BC.out.alloc (.cells (recL ⟨R, LA, lc, LB, ld⟩).toArray 41)).fr (Fr.grown (S := fun b => (Value.slice A rs.length c).ownBlock = some b) (Fr.refl _ _) hgr6 (fun k hk => .inl hk)) (fun e => NGC.out gc e rfl))
            clear hown6 hgr6 N NGC
            have x0 : w6.cell? ⟨gx, 0, none⟩ = some (.int .i64 s) := N6.out.bx.cell' rfl
            have x1 : w6.cell? ⟨gx, 1, none⟩ = some (.int .i64 g) := N6.out.bx.cell' rfl
            go_upto_region 14 with (at_builtin; refine wpList_append_any _ rfl (.tmp 51) (.tmp 53) 62 rfl b1 25 j0 _ 2 16 Tryd.underlying62 Hj.out.1 Hj.out.2.1 Hj.out.2.2.1 Hj.out.2.2.2 rfl (by omega) (.slice D rs.length d) rs.length (rpFlat rs) rfl (N6.out.ro.alloc _) (some ⟨w6.heap.size, 0, none⟩) 1 1 [.int .i64 s, .int .i64 g] rfl (reads_new w6 _ [.int .i64 s, .int .i64 g] _ rfl) (by simp [Value.oneCell']) (by simp only [maxLen]; have := HRL.out; omega) (by have := HRL.out; omega) (by have h9 := N6.out.lt.2.2.2; simp; omega) ?_; intro A4 c4 w7 hown7 hgr7)
            have N7 : Hid (DcW w b1 gM gx DM w7 (.slice A3 (rs.length + 1) c3) (rs.length + 1) (recFlat (Ls ++ [⟨R, LA, lc, LB, ld⟩])) (.slice A4 (rs.length + 1) c4) (rs.length + 1) (rpFlat (rs ++ [(s, g)])) s g) := hid_ ((N6.out.keep ((Fr.refl none_ w6).alloc _)).growR (by
              rw [rpFlat_snocd]
              exact hown7) hgr7)
            replace BC := hid_ ((BC.out.alloc (.cells #[.int .i64 s, .int .i64 g] 25)).fr (Fr.grown (S := fun b => (Value.slice D rs.length d).ownBlock = some b) (Fr.refl _ _) hgr7 (fun k hk => .inl hk)) (fun e => own_blk_ne (N6.out.ro.alloc (.cells #[.int .i64 s, .int .i64 g] 25)) (BC.out.alloc (.cells #[.int .i64 s, .int .i64 g] 25)) (by decide) e))
            clear hown7 hgr7 N6 x0 x1
            have y0 := N7.out.bx.frozen 0
            have y1 := N7.out.bx.frozen 1
            have x0 : w7.cell? ⟨gx, 0, none⟩ = some (.int .i64 s) := N7.out.bx.cell' rfl
            have x1 : w7.cell? ⟨gx, 1, none⟩ = some (.int .i64 g) := N7.out.bx.cell' rfl
            have r13 : w7.cell? ⟨gc, 13, none⟩ = some (.int .i64 R.nslot) := BC.out.cell' rfl
            have r14 : w7.cell? ⟨gc, 14, none⟩ = some (.int .i64 R.ngen) := BC.out.cell' rfl
            have HEQ : ∃ w8, w8 = (w7.setCell ⟨gx, 0, none⟩ (.int .i64 R.nslot)).setCell ⟨gx, 1, none⟩ (.int .i64 R.ngen) := ⟨_, rfl⟩
            obtain ⟨w8, hw8⟩ := HEQ
            have HW8 := hid_ hw8
            clear hw8
            go_wp2_with fail
            go_roundw
            case rel => exact ⟨rs ++ [(s, g)], Ls ++ [⟨R, LA, lc, LB, ld⟩], A3, c3, A4, c4, R.nslot, R.ngen, by rw [List.length_append]; have := HK.out; have := HFL.out; simp; omega, by rw [List.length_append]; rfl, by rw [List.length_append]; rfl, DPth.snoc P.out HZ.out HLD.out, by rw [List.length_append]; exact N7.out.setx rfl⟩
            case measure => simp [slLend]; have := HK.out; have := HFL.out; omega
end Go.Proofs.YtfihfjbakfadkaaDoor

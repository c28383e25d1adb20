/- Texts of one proof, merged: Rof10, Types11, Known11, Made11, Law11, Back11, Rback11, Uy, Backs11, Cwb11. -/
import Derived.Test.YtpjbncbmdfmlpaaMbA
import Derived.Test.YtpjbncbmdfmlpaaMbE
import Derived.Test.YtpjbncbmdfmlpaaMbF
import Derived.Test.YtpjbncbmdfmlpaaMbG
import Derived.Test.YtpjbncbmdfmlpaaMbH
import Derived.Test.YtpjbncbmdfmlpaaMbI
namespace Go.Proofs.Ytpjbncbmdfmlpaa
open Go.RowKit Go.BigFrame
set_option maxRecDepth 100000
set_option linter.unusedVariables false

theorem rpage_size : (Try.prog.info? 68).map (·.size) = some 21 := by kernel_rfl
theorem LwRd.zero (b0 : Nat) (w : World) : LwRd b0 w Lw.zero none 0 := ⟨Reads.nil_, Nat.le_refl _, by simp, ⟨SzOk.nil, SzOk.nil, by show (0:Nat) ≤ 300000; omega, fun p hp => by simp [Lw.zero] at hp⟩, .inl fun h => by simp [Lw.zero] at h⟩
/-- Why a chain is no page. -/
def CodeOf (l : List Rc) (k : Int) : Prop := ofM l = none ∧ ((leafB l = true ∧ ((k = 9 ∧ ∃ R ∈ l, ¬ KindL R) ∨ (k = 10 ∧ ∀ R ∈ l, KindL R))) ∨ (leafB l = false ∧ ((k = 9 ∧ ∃ R ∈ l, ¬ KindOk R) ∨ (k = 10 ∧ ∀ R ∈ l, KindOk R))))
theorem VwIn.farR {w w' : World} {V : Vw} {A : Option Addr} {c X : Nat} {n hs hg : Int} {vc vr sl si : Value} {leaf : Bool} {lv : Lw} {iv : Vw} (h : VwIn w V A c) (hX : Blk w X 68 (pgA n hs hg vc vr leaf lv sl iv si)) (hsl : ∃ A n c, sl = .slice A n c) (hsi : ∃ A n c, si = .slice A n c) (hvr : ∃ A n c, vr = .slice A n c) (hf : Fr (only X) w w') : VwIn w' V A c := by
  refine ⟨?_, h.cap, h.capm, h.ok⟩
  rcases Nat.eq_zero_or_pos V.ents.length with h0 | h0
  · exact ⟨h.rd.1, fun hn => absurd hn (by omega)⟩
  · obtain ⟨p, hp⟩ : ∃ p, V.ents[0]? = some p := ⟨_, List.getElem?_eq_getElem h0⟩
    obtain ⟨b, off, rfl, hb, c0, c1⟩ := et_at h.rd hp
    refine h.rd.fr hf (fun ad e => ?_)
    cases e
    intro e
    have e' : b = X := e
    subst e'
    rw [hX.cell] at c0 c1
    simp only [Nat.zero_mul, Nat.add_zero] at c0 c1
    obtain ⟨_, _, _, rfl⟩ := hsl
    obtain ⟨_, _, _, rfl⟩ := hsi
    obtain ⟨_, _, _, rfl⟩ := hvr
    match off, c0, c1 with
    | 0, c0, c1 => simp at c0
    | 1, c0, c1 => simp at c0
    | 2, c0, c1 => simp at c0
    | 3, c0, c1 => simp at c1
    | 4, c0, c1 => simp at c0
    | 5, c0, c1 => simp at c0
    | 6, c0, c1 => simp at c1
    | 7, c0, c1 => simp at c1
    | 8, c0, c1 => simp at c0
    | 9, c0, c1 => simp at c0
    | 10, c0, c1 => simp at c0
    | 11, c0, c1 => simp at c0
    | 12, c0, c1 => simp at c1
    | 13, c0, c1 => simp at c1
    | 14, c0, c1 => simp at c0
    | 15, c0, c1 => simp at c0
    | 16, c0, c1 => simp at c0
    | 17, c0, c1 => simp at c0
    | 18, c0, c1 => simp at c0
    | 19, c0, c1 => simp at c0
    | 20, c0, c1 => simp at c1
    | k + 21, c0, c1 => simp at c0
theorem VwIn.farZR {w w' : World} {V : Vw} {A : Option Addr} {c X : Nat} (h : VwIn w V A c) (hX : Blk w X 68 pgZ) (hf : Fr (only X) w w') : VwIn w' V A c :=
  h.farR (n := 0) (hs := 0) (hg := 0) (vc := .slice none 0 0) (vr := .slice none 0 0) (leaf := false) (lv := Lw.zero) (sl := .slice none 0 0) (iv := Vw.zero) (si := .slice none 0 0) hX ⟨_, _, _, rfl⟩ ⟨_, _, _, rfl⟩ ⟨_, _, _, rfl⟩ hf
def ROfPost (n hs hg : Int) (vc vr : Value) (l : List Rc) (w : World) (e : Ending) (w' : World) : Prop :=
  (∃ leaf lv iv A c B d, ofM l = some (leaf, lv, iv) ∧ e = .returned (.tuple #[.agg (pgA n hs hg vc vr leaf lv (.slice A lv.rows.length c) iv (.slice B iv.ents.length d)), .int .i64 0]) ∧ lv.Ok ∧ VwIn w' iv B d ∧ Fr none_ w w') ∨
  (∃ k : Int, CodeOf l k ∧ e = .returned (.tuple #[.agg pgZ, .int .i64 k]) ∧ Fr none_ w w')
theorem codeL {l : List Rc} {k : Int} (hb : leafB l = true) (h : (k = 9 ∧ ∃ R ∈ l, ¬ KindL R) ∨ (k = 10 ∧ (∀ R ∈ l, KindL R) ∧ foldL l = none)) : CodeOf l k := by
  have hn : foldL l = none := by rcases h with h | h; exact foldL_bad h.2; exact h.2.2
  exact ⟨by unfold ofM; rw [if_pos hb, hn]; rfl, .inl ⟨hb, h.imp id fun h => ⟨h.1, h.2.1⟩⟩⟩
theorem codeU {l : List Rc} {k : Int} (hb : leafB l = false) (h : (k = 9 ∧ ∃ R ∈ l, ¬ KindOk R) ∨ (k = 10 ∧ (∀ R ∈ l, KindOk R) ∧ foldU l = none)) : CodeOf l k := by
  have hn : foldU l = none := by
    rcases h with ⟨_, R, hR, hk⟩ | h
    · exact foldU_no fun ha => absurd (ha R hR) hk
    · exact h.2.2
  exact ⟨by unfold ofM; rw [if_neg (by rw [hb]; decide), hn]; rfl, .inr ⟨hb, h.imp id fun h => ⟨h.1, h.2.1⟩⟩⟩
set_option maxHeartbeats 8000000 in
theorem rof_ok (n hs hg : Int) (A : Option Addr) (m cap : Nat) (L : List Ch) (RA : Option Addr) (rn rc : Nat) (w : World) (h : ChReads w A m L) (hn : m ≤ 400) (hs7 : RwOkL L) (hcp : RwCap L) (he : ∀ C ∈ L, C.R.ents.length ≤ 500) :
    Calls Try.prog 25 #[.int .i64 n, .agg #[.int .i64 hs, .int .i64 hg], .slice A m cap, .slice RA rn rc] w (ROfPost n hs hg (.slice A m cap) (.slice RA rn rc) (L.map (·.R)) w) := by
  have hln := h.1
  obtain ⟨w0, hw0⟩ : ∃ z, z = (w.alloc (.cells #[.int .i64 hs, .int .i64 hg] 33)).alloc (.cells pgZ 68) := ⟨_, rfl⟩
  have f0 : Fr none_ w w0 := by rw [hw0]; exact ((Fr.refl none_ w).alloc _).alloc _
  have BR : Hid (Blk w0 w.heap.size 33 #[.int .i64 hs, .int .i64 hg]) := hid_ (by rw [hw0]; exact (Blk.new w _ _).alloc _)
  have BO : Hid (Blk w0 (w.heap.size + 1) 68 pgZ) := hid_ (by rw [hw0]; exact Blk.new7 _ _ (by simp))
  have F0 := hid_ f0
  have H := hid_ h
  have HS := hid_ (And.intro hs7 (And.intro hcp he))
  have hsz0 : w.heap.size + 1 < w0.heap.size := BO.out.lt
  clear h f0 hs7 hcp he
  go_enter Try.func25, Try.ntmps25
  go_upto_region 1 with fail
  change Code.wp _ _ _ _ ((w.alloc (.cells #[.int .i64 hs, .int .i64 hg] 33)).alloc (.cells pgZ 68))
  rw [← hw0]
  clear hw0
  have c0 : w0.cell? ⟨w.heap.size, 0, none⟩ = some (.int .i64 hs) := BR.out.cell' rfl
  have c1 : w0.cell? ⟨w.heap.size, 1, none⟩ = some (.int .i64 hg) := BR.out.cell' rfl
  go_upto_region 2 with (refine wpList_store_mid rfl 68 (.tmp 10) (.tmp 19) rfl w0.heap.size 0 (pgA n hs hg (.slice A m cap) (.slice RA rn rc) false Lw.zero (.slice none 0 0) Vw.zero (.slice none 0 0)) rfl rfl (new_there w0 _ pgZ) rpage_size (by simp [Value.oneCell']) ?_; obtain ⟨w1, hw1⟩ : ∃ w1, w1 = (w0.alloc (.cells pgZ 68)).setCells w0.heap.size 0 (pgA n hs hg (.slice A m cap) (.slice RA rn rc) false Lw.zero (.slice none 0 0) Vw.zero (.slice none 0 0)).toList := ⟨_, rfl⟩; change wpList _ _ _ _ _ ((w0.alloc (.cells pgZ 68)).setCells w0.heap.size 0 (pgA n hs hg (.slice A m cap) (.slice RA rn rc) false Lw.zero (.slice none 0 0) Vw.zero (.slice none 0 0)).toList); rw [← hw1]; have P1 : Hid (Blk w1 w0.heap.size 68 (pgA n hs hg (.slice A m cap) (.slice RA rn rc) false Lw.zero (.slice none 0 0) Vw.zero (.slice none 0 0)) ∧ Fr none_ w0 w1) := hid_ (by rw [hw1]; exact new_copy w0 _ pgZ _ rfl); clear hw1)
  clear c0 c1
  have BO1 := hid_ (BO.out.fr P1.out.2 id)
  have F1 := hid_ (F0.out.then_none P1.out.2)
  have BX := hid_ P1.out.1
  have hsz1 := P1.out.2.size
  obtain ⟨X, hX⟩ : ∃ X, X = w0.heap.size := ⟨_, rfl⟩
  rw [← hX] at BX
  rw [← hX]
  have hXw : w.heap.size + 1 < X := by omega
  clear hX P1 BO F0 BR
  (try go_frame)
  go_cut [32] (fun v wq => v = .bool (leafB (L.map (·.R))) ∧ wq = w1)
  case first =>
    rcases Nat.eq_zero_or_pos m with h0 | h0
    · subst h0
      obtain rfl : L = [] := List.eq_nil_of_length_eq_zero hln
      go_wp2_with fail
      go_meet
      case rel => exact ⟨rfl, rfl⟩
    · obtain ⟨q, rfl⟩ : ∃ q, m = q + 1 := ⟨m - 1, by omega⟩
      obtain ⟨D, hD⟩ : ∃ D, L[q]? = some D := ⟨_, List.getElem?_eq_getElem (by omega)⟩
      obtain ⟨b, off, rfl, hb, hR, hO⟩ := (H.out.keep F1.out).at_ hD
      have k0 : w1.cell? ⟨b, off + q * 15, none⟩ = some (.int .i64 D.R.kind) := hR 0 _ rfl
      have hlf : leafB (L.map (·.R)) = (D.R.kind == 1) := by
        unfold leafB
        rw [show (L.map (·.R))[(L.map (·.R)).length - 1]? = some D.R by rw [List.length_map, hln, show q + 1 - 1 = q from rfl]; exact ch_at hD]
        by_cases h : D.R.kind = 1 <;> simp [h]
      have HLF := hid_ hlf
      have hi0 : (0 : Int) ≤ (q : Int) := Int.natCast_nonneg _
      have hi2 : (q : Int) < (q : Int) + 1 := by omega
      have hw1 : IntKind.i64.wrap ((q : Int) + 1 - 1) = (q : Int) := by rw [show (q : Int) + 1 - 1 = (q : Int) by omega]; exact IntWalk.i64_in _ (by omega)
      have hg0 : decide ((0 : Int) < (q : Int) + 1) = true := decide_eq_true (by omega)
      clear hlf hD hR hO
      go_wp2_with fail
      go_meet
      case rel => exact ⟨by rw [HLF.out], rfl⟩
  case rest =>
  obtain ⟨rfl, rfl⟩ := hcut
  obtain ⟨w1, rfl⟩ : ∃ z : World, z = wc := ⟨_, rfl⟩
  cases hB : leafB (L.map (·.R)) with
  | true =>
    have HB := hid_ hB
    clear hB
    go_wp2_with fail
    refine (rfoldL_ok A m cap L w1 (H.out.keep F1.out) hn HS.out.1 HS.out.2.1).mono ?_
    rintro e w2 (⟨V, A', c', hkd, hfo, rfl, hvin, hf2⟩ | ⟨q, hq, rfl, hf2⟩)
    · have VI := hid_ hvin
      have HOF : Hid (ofM (L.map (·.R)) = some (true, V, Vw.zero)) := hid_ (by unfold ofM; rw [if_pos HB.out, hfo]; rfl)
      clear hvin hfo hkd
      have F2 := hid_ (F1.out.then_none hf2)
      have BX2 := hid_ (BX.out.fr hf2 id)
      have BO2 := hid_ (BO1.out.fr hf2 id)
      have hsz2 := hf2.size
      have hbx2 := BX.out.lt
      go_upto_region 4 with (refine wpList_store_mid rfl 65 (.tmp 11) (.tmp 36) rfl w2.heap.size 0 (lwA V (.slice A' V.rows.length c')) rfl rfl (new_there w2 _ lwZ) rview_size7 (by simp [Value.oneCell']) ?_; obtain ⟨w3, hw3⟩ : ∃ z, z = (w2.alloc (.cells lwZ 65)).setCells w2.heap.size 0 (lwA V (.slice A' V.rows.length c')).toList := ⟨_, rfl⟩; change wpList _ _ _ _ _ ((w2.alloc (.cells lwZ 65)).setCells w2.heap.size 0 (lwA V (.slice A' V.rows.length c')).toList); rw [← hw3]; have P3 : Hid (Blk w3 w2.heap.size 65 (lwA V (.slice A' V.rows.length c')) ∧ Fr none_ w2 w3) := hid_ (by rw [hw3]; exact new_copy w2 _ lwZ _ rfl); clear hw3)
      have F3 := hid_ (F2.out.then_none P3.out.2)
      have BX3 := hid_ (BX2.out.fr P3.out.2 id)
      have BO3 := hid_ (BO2.out.fr P3.out.2 id)
      clear BX2 BO2 F2
      have x5 : w3.cell? ⟨X, 5, none⟩ = some (.bool false) := BX3.out.cell' rfl
      have y5 := BX3.out.frozen 5
      go_upto_region 7 with fail
      obtain ⟨w4, hw4⟩ : ∃ z, z = w3.setCell ⟨X, 5, none⟩ (.bool true) := ⟨_, rfl⟩
      have f4 : Fr (only X) w3 w4 := by rw [hw4]; exact Fr.only1 w3 ⟨X, 5, none⟩ _
      have BX4 : Hid (Blk w4 X 68 (pgA n hs hg (.slice A m cap) (.slice RA rn rc) true Lw.zero (.slice none 0 0) Vw.zero (.slice none 0 0))) := hid_ (by rw [hw4]; exact BX3.out.set_ 5 _)
      change Code.wp _ _ _ _ (w3.setCell ⟨X, 5, none⟩ (.bool true))
      rw [← hw4]
      clear hw4 x5 y5
      have PV := hid_ (P3.out.1.fr f4 (only_ne (by omega)))
      have a0 : w4.cell? ⟨w2.heap.size, 0, none⟩ = some (.string V.low) := PV.out.cell' rfl
      have a1 : w4.cell? ⟨w2.heap.size, 1, none⟩ = some (.string V.high) := PV.out.cell' rfl
      have a2 : w4.cell? ⟨w2.heap.size, 2, none⟩ = some (.bool V.unb) := PV.out.cell' rfl
      have a3 : w4.cell? ⟨w2.heap.size, 3, none⟩ = some (.int .i64 V.right) := PV.out.cell' rfl
      have a4 : w4.cell? ⟨w2.heap.size, 4, none⟩ = some (.slice A' V.rows.length c') := PV.out.cell' rfl
      have a5 : w4.cell? ⟨w2.heap.size, 5, none⟩ = some (.bool V.gone) := PV.out.cell' rfl
      have x6 : w4.cell? ⟨X, 6, none⟩ = some (.string nilS) := BX4.out.cell' rfl
      have zx6 := BX4.out.frozen 6
      have x7 : w4.cell? ⟨X, 7, none⟩ = some (.string nilS) := BX4.out.cell' rfl
      have zx7 := BX4.out.frozen 7
      have x8 : w4.cell? ⟨X, 8, none⟩ = some (.bool false) := BX4.out.cell' rfl
      have zx8 := BX4.out.frozen 8
      have x9 : w4.cell? ⟨X, 9, none⟩ = some (.int .i64 0) := BX4.out.cell' rfl
      have zx9 := BX4.out.frozen 9
      have x10 : w4.cell? ⟨X, 10, none⟩ = some (.slice none 0 0) := BX4.out.cell' rfl
      have zx10 := BX4.out.frozen 10
      have x11 : w4.cell? ⟨X, 11, none⟩ = some (.bool false) := BX4.out.cell' rfl
      have zx11 := BX4.out.frozen 11
      go_upto_region 8 with fail
      obtain ⟨w5, hw5⟩ : ∃ z, z = ((((((w4.setCell ⟨X, 6, none⟩ (.string V.low)).setCell ⟨X, 7, none⟩ (.string V.high)).setCell ⟨X, 8, none⟩ (.bool V.unb)).setCell ⟨X, 9, none⟩ (.int .i64 V.right)).setCell ⟨X, 10, none⟩ (.slice A' V.rows.length c')).setCell ⟨X, 11, none⟩ (.bool V.gone)) := ⟨_, rfl⟩
      have f5 : Fr (only X) w4 w5 := by rw [hw5]; exact frOnly7 (frOnly7 (frOnly7 (frOnly7 (frOnly7 (frOnly7 (Fr.refl (only X) w4) _) _) _) _) _) _
      have BX5 : Hid (Blk w5 X 68 (pgA n hs hg (.slice A m cap) (.slice RA rn rc) true V (.slice A' V.rows.length c') Vw.zero (.slice none 0 0))) := hid_ (by
        rw [hw5]
        have e := ((((((BX4.out.set_ 6 (.string V.low)).set_ 7 (.string V.high)).set_ 8 (.bool V.unb)).set_ 9 (.int .i64 V.right)).set_ 10 (.slice A' V.rows.length c')).set_ 11 (.bool V.gone))
        simp only [List.setIfInBounds_toArray, List.set_cons_zero, List.set_cons_succ] at e
        exact e)
      change Code.wp _ _ _ _ (((((((w4.setCell ⟨X, 6, none⟩ (.string V.low)).setCell ⟨X, 7, none⟩ (.string V.high)).setCell ⟨X, 8, none⟩ (.bool V.unb)).setCell ⟨X, 9, none⟩ (.int .i64 V.right)).setCell ⟨X, 10, none⟩ (.slice A' V.rows.length c')).setCell ⟨X, 11, none⟩ (.bool V.gone)))
      rw [← hw5]
      clear hw5 a0 a1 a2 a3 a4 a5 x6 zx6 x7 zx7 x8 zx8 x9 zx9 x10 zx10 x11 zx11
      have hf35 : Fr (only X) w3 w5 := f4.then_only f5 (.inl rfl)
      have BO5 := hid_ (BO3.out.fr hf35 (only_ne (by omega)))
      have F5 := hid_ (F3.out.then_only hf35 (.inr (by omega)))
      clear f4 f5 hf35
      go_wp2_with (first | (refine wpList_load_mid rfl 68 (.tmp 10) rfl X 0 rfl (pgA n hs hg (.slice A m cap) (.slice RA rn rc) true V (.slice A' V.rows.length c') Vw.zero (.slice none 0 0)).toList _ (Blk.range7 (l := (pgA n hs hg (.slice A m cap) (.slice RA rn rc) true V (.slice A' V.rows.length c') Vw.zero (.slice none 0 0)).toList) BX5.out) Try.underlying68 rfl rpage_size ?_) | (refine wpList_store_mid rfl 68 (.tmp 8) (.tmp 45) rfl (w.heap.size + 1) 0 (pgA n hs hg (.slice A m cap) (.slice RA rn rc) true V (.slice A' V.rows.length c') Vw.zero (.slice none 0 0)) rfl rfl (BO5.out.there7 rfl) rpage_size (by simp [Value.oneCell']) ?_; have ov := BO5.out.over7 (pgA n hs hg (.slice A m cap) (.slice RA rn rc) true V (.slice A' V.rows.length c') Vw.zero (.slice none 0 0)).toList rfl; obtain ⟨w9, hw9⟩ : ∃ z, z = w5.setCells (w.heap.size + 1) 0 (pgA n hs hg (.slice A m cap) (.slice RA rn rc) true V (.slice A' V.rows.length c') Vw.zero (.slice none 0 0)).toList := ⟨_, rfl⟩; rw [← hw9] at ov; change wpList _ _ _ _ _ (w5.setCells (w.heap.size + 1) 0 (pgA n hs hg (.slice A m cap) (.slice RA rn rc) true V (.slice A' V.rows.length c') Vw.zero (.slice none 0 0)).toList); rw [← hw9]; have OV := hid_ ov; clear hw9 ov))
      refine bodyPost_ret (results_cell_tmp7 _ _ rfl (w.heap.size + 1) 0 (pgA n hs hg (.slice A m cap) (.slice RA rn rc) true V (.slice A' V.rows.length c') Vw.zero (.slice none 0 0)).toList _ rfl (Blk.range7 (l := (pgA n hs hg (.slice A m cap) (.slice RA rn rc) true V (.slice A' V.rows.length c') Vw.zero (.slice none 0 0)).toList) OV.out.1) Try.underlying68 rfl rpage_size) rfl (.inl ⟨true, V, Vw.zero, A', c', none, 0, HOF.out, rfl, VI.out.ok, VwIn.zero _, F5.out.then_only OV.out.2 (.inr (by omega))⟩)
    · have HCO := hid_ (codeL HB.out hq)
      have hq0 : q = 9 ∨ q = 10 := hq.imp (fun h => h.1) (fun h => h.1)
      clear hq
      have F2 := hid_ (F1.out.then_none hf2)
      have BX2 := hid_ (BX.out.fr hf2 id)
      have BO2 := hid_ (BO1.out.fr hf2 id)
      have hsz2 := hf2.size
      have hbx2 := BX.out.lt
      go_upto_region 4 with (refine wpList_store_mid rfl 65 (.tmp 11) (.tmp 36) rfl w2.heap.size 0 (lwA Lw.zero (.slice none 0 0)) rfl rfl (new_there w2 _ lwZ) rview_size7 (by simp [Value.oneCell']) ?_; obtain ⟨w3, hw3⟩ : ∃ z, z = (w2.alloc (.cells lwZ 65)).setCells w2.heap.size 0 (lwA Lw.zero (.slice none 0 0)).toList := ⟨_, rfl⟩; change wpList _ _ _ _ _ ((w2.alloc (.cells lwZ 65)).setCells w2.heap.size 0 (lwA Lw.zero (.slice none 0 0)).toList); rw [← hw3]; have P3 : Hid (Blk w3 w2.heap.size 65 (lwA Lw.zero (.slice none 0 0)) ∧ Fr none_ w2 w3) := hid_ (by rw [hw3]; exact new_copy w2 _ lwZ _ rfl); clear hw3)
      have F3 := hid_ (F2.out.then_none P3.out.2)
      have BX3 := hid_ (BX2.out.fr P3.out.2 id)
      have BO3 := hid_ (BO2.out.fr P3.out.2 id)
      clear BX2 BO2 F2
      rcases hq0 with rfl | rfl
      · skip
        go_wp2_with (refine wpList_store_mid rfl 68 (.tmp 8) (.tmp 40) rfl (w.heap.size + 1) 0 pgZ rfl rfl (BO3.out.there7 rfl) rpage_size (by simp [Value.oneCell']) ?_; have ov := BO3.out.over7 (pgZ).toList rfl; obtain ⟨w9, hw9⟩ : ∃ z, z = w3.setCells (w.heap.size + 1) 0 (pgZ).toList := ⟨_, rfl⟩; rw [← hw9] at ov; change wpList _ _ _ _ _ (w3.setCells (w.heap.size + 1) 0 (pgZ).toList); rw [← hw9]; have OV := hid_ ov; clear hw9 ov)
        refine bodyPost_ret (results_cell_tmp7 _ _ rfl (w.heap.size + 1) 0 (pgZ).toList _ rfl (Blk.range7 (l := (pgZ).toList) OV.out.1) Try.underlying68 rfl rpage_size) rfl (.inr ⟨_, HCO.out, rfl, F3.out.then_only OV.out.2 (.inr (by omega))⟩)
      · skip
        go_wp2_with (refine wpList_store_mid rfl 68 (.tmp 8) (.tmp 40) rfl (w.heap.size + 1) 0 pgZ rfl rfl (BO3.out.there7 rfl) rpage_size (by simp [Value.oneCell']) ?_; have ov := BO3.out.over7 (pgZ).toList rfl; obtain ⟨w9, hw9⟩ : ∃ z, z = w3.setCells (w.heap.size + 1) 0 (pgZ).toList := ⟨_, rfl⟩; rw [← hw9] at ov; change wpList _ _ _ _ _ (w3.setCells (w.heap.size + 1) 0 (pgZ).toList); rw [← hw9]; have OV := hid_ ov; clear hw9 ov)
        refine bodyPost_ret (results_cell_tmp7 _ _ rfl (w.heap.size + 1) 0 (pgZ).toList _ rfl (Blk.range7 (l := (pgZ).toList) OV.out.1) Try.underlying68 rfl rpage_size) rfl (.inr ⟨_, HCO.out, rfl, F3.out.then_only OV.out.2 (.inr (by omega))⟩)
  | false =>
    have HB := hid_ hB
    clear hB
    go_wp2_with fail
    refine (rfoldU_ok A m cap L w1 (H.out.keep F1.out) hn HS.out.2.2).mono ?_
    rintro e w2 (⟨V, A', c', hkd, hfo, rfl, hvin, hf2⟩ | ⟨q, hq, rfl, hf2⟩)
    · have VI := hid_ hvin
      have HOF : Hid (ofM (L.map (·.R)) = some (false, Lw.zero, V)) := hid_ (by unfold ofM; rw [if_neg (by rw [HB.out]; decide), hfo]; rfl)
      clear hvin hfo hkd
      have F2 := hid_ (F1.out.then_none hf2)
      have BX2 := hid_ (BX.out.fr hf2 id)
      have BO2 := hid_ (BO1.out.fr hf2 id)
      have hsz2 := hf2.size
      have hbx2 := BX.out.lt
      go_upto_region 10 with (refine wpList_store_mid rfl 66 (.tmp 13) (.tmp 49) rfl w2.heap.size 0 (vwA V (.slice A' V.ents.length c')) rfl rfl (new_there w2 _ vwZ8) rvw_size8 (by simp [Value.oneCell']) ?_; obtain ⟨w3, hw3⟩ : ∃ z, z = (w2.alloc (.cells vwZ8 66)).setCells w2.heap.size 0 (vwA V (.slice A' V.ents.length c')).toList := ⟨_, rfl⟩; change wpList _ _ _ _ _ ((w2.alloc (.cells vwZ8 66)).setCells w2.heap.size 0 (vwA V (.slice A' V.ents.length c')).toList); rw [← hw3]; have P3 : Hid (Blk w3 w2.heap.size 66 (vwA V (.slice A' V.ents.length c')) ∧ Fr none_ w2 w3) := hid_ (by rw [hw3]; exact new_copy w2 _ vwZ8 _ rfl); clear hw3)
      have F3 := hid_ (F2.out.then_none P3.out.2)
      have BX3 := hid_ (BX2.out.fr P3.out.2 id)
      have BO3 := hid_ (BO2.out.fr P3.out.2 id)
      clear BX2 BO2 F2
      have x12 : w3.cell? ⟨X, 12, none⟩ = some (.string nilS) := BX3.out.cell' rfl
      have zx12 := BX3.out.frozen 12
      have x13 : w3.cell? ⟨X, 13, none⟩ = some (.string nilS) := BX3.out.cell' rfl
      have zx13 := BX3.out.frozen 13
      have x14 : w3.cell? ⟨X, 14, none⟩ = some (.bool false) := BX3.out.cell' rfl
      have zx14 := BX3.out.frozen 14
      have x15 : w3.cell? ⟨X, 15, none⟩ = some (.int .i64 0) := BX3.out.cell' rfl
      have zx15 := BX3.out.frozen 15
      have x16 : w3.cell? ⟨X, 16, none⟩ = some (.slice none 0 0) := BX3.out.cell' rfl
      have zx16 := BX3.out.frozen 16
      have x17 : w3.cell? ⟨X, 17, none⟩ = some (.bool false) := BX3.out.cell' rfl
      have zx17 := BX3.out.frozen 17
      have x18 : w3.cell? ⟨X, 18, none⟩ = some (.int .i64 0) := BX3.out.cell' rfl
      have zx18 := BX3.out.frozen 18
      have x19 : w3.cell? ⟨X, 19, none⟩ = some (.int .i64 0) := BX3.out.cell' rfl
      have zx19 := BX3.out.frozen 19
      have x20 : w3.cell? ⟨X, 20, none⟩ = some (.string nilS) := BX3.out.cell' rfl
      have zx20 := BX3.out.frozen 20
      go_upto_region 13 with (refine wpList_load_mid rfl 66 (.tmp 13) rfl w2.heap.size 0 rfl (vwA V (.slice A' V.ents.length c')).toList _ (Blk.range7 (l := (vwA V (.slice A' V.ents.length c')).toList) P3.out.1) Try.underlying66 rfl rvw_size8 ?_)
      obtain ⟨w5, hw5⟩ : ∃ z, z = (((((((((w3.setCell ⟨X, 12, none⟩ (.string V.low)).setCell ⟨X, 13, none⟩ (.string V.high)).setCell ⟨X, 14, none⟩ (.bool V.unb)).setCell ⟨X, 15, none⟩ (.int .i64 V.right)).setCell ⟨X, 16, none⟩ (.slice A' V.ents.length c')).setCell ⟨X, 17, none⟩ (.bool V.held)).setCell ⟨X, 18, none⟩ (.int .i64 V.hp)).setCell ⟨X, 19, none⟩ (.int .i64 V.hl)).setCell ⟨X, 20, none⟩ (.string V.hk)) := ⟨_, rfl⟩
      have f5 : Fr (only X) w3 w5 := by rw [hw5]; exact frOnly7 (frOnly7 (frOnly7 (frOnly7 (frOnly7 (frOnly7 (frOnly7 (frOnly7 (frOnly7 (Fr.refl (only X) w3) _) _) _) _) _) _) _) _) _
      have BX5 : Hid (Blk w5 X 68 (pgA n hs hg (.slice A m cap) (.slice RA rn rc) false Lw.zero (.slice none 0 0) V (.slice A' V.ents.length c'))) := hid_ (by
        rw [hw5]
        have e := (((((((((BX3.out.set_ 12 (.string V.low)).set_ 13 (.string V.high)).set_ 14 (.bool V.unb)).set_ 15 (.int .i64 V.right)).set_ 16 (.slice A' V.ents.length c')).set_ 17 (.bool V.held)).set_ 18 (.int .i64 V.hp)).set_ 19 (.int .i64 V.hl)).set_ 20 (.string V.hk))
        simp only [List.setIfInBounds_toArray, List.set_cons_zero, List.set_cons_succ] at e
        exact e)
      change Code.wp _ _ _ _ ((((((((((w3.setCell ⟨X, 12, none⟩ (.string V.low)).setCell ⟨X, 13, none⟩ (.string V.high)).setCell ⟨X, 14, none⟩ (.bool V.unb)).setCell ⟨X, 15, none⟩ (.int .i64 V.right)).setCell ⟨X, 16, none⟩ (.slice A' V.ents.length c')).setCell ⟨X, 17, none⟩ (.bool V.held)).setCell ⟨X, 18, none⟩ (.int .i64 V.hp)).setCell ⟨X, 19, none⟩ (.int .i64 V.hl)).setCell ⟨X, 20, none⟩ (.string V.hk)))
      rw [← hw5]
      clear hw5 x12 zx12 x13 zx13 x14 zx14 x15 zx15 x16 zx16 x17 zx17 x18 zx18 x19 zx19 x20 zx20
      have BO5 := hid_ (BO3.out.fr f5 (only_ne (by omega)))
      have VI5 : Hid (VwIn w5 V A' c') := hid_ ((VI.out.keep P3.out.2).farR BX3.out ⟨_, _, _, rfl⟩ ⟨_, _, _, rfl⟩ ⟨_, _, _, rfl⟩ f5)
      have F5 := hid_ (F3.out.then_only f5 (.inr (by omega)))
      clear f5
      go_wp2_with (first | (refine wpList_load_mid rfl 68 (.tmp 10) rfl X 0 rfl (pgA n hs hg (.slice A m cap) (.slice RA rn rc) false Lw.zero (.slice none 0 0) V (.slice A' V.ents.length c')).toList _ (Blk.range7 (l := (pgA n hs hg (.slice A m cap) (.slice RA rn rc) false Lw.zero (.slice none 0 0) V (.slice A' V.ents.length c')).toList) BX5.out) Try.underlying68 rfl rpage_size ?_) | (refine wpList_store_mid rfl 68 (.tmp 8) (.tmp 57) rfl (w.heap.size + 1) 0 (pgA n hs hg (.slice A m cap) (.slice RA rn rc) false Lw.zero (.slice none 0 0) V (.slice A' V.ents.length c')) rfl rfl (BO5.out.there7 rfl) rpage_size (by simp [Value.oneCell']) ?_; have ov := BO5.out.over7 (pgA n hs hg (.slice A m cap) (.slice RA rn rc) false Lw.zero (.slice none 0 0) V (.slice A' V.ents.length c')).toList rfl; obtain ⟨w9, hw9⟩ : ∃ z, z = w5.setCells (w.heap.size + 1) 0 (pgA n hs hg (.slice A m cap) (.slice RA rn rc) false Lw.zero (.slice none 0 0) V (.slice A' V.ents.length c')).toList := ⟨_, rfl⟩; rw [← hw9] at ov; change wpList _ _ _ _ _ (w5.setCells (w.heap.size + 1) 0 (pgA n hs hg (.slice A m cap) (.slice RA rn rc) false Lw.zero (.slice none 0 0) V (.slice A' V.ents.length c')).toList); rw [← hw9]; have OV := hid_ ov; clear hw9 ov))
      refine bodyPost_ret (results_cell_tmp7 _ _ rfl (w.heap.size + 1) 0 (pgA n hs hg (.slice A m cap) (.slice RA rn rc) false Lw.zero (.slice none 0 0) V (.slice A' V.ents.length c')).toList _ rfl (Blk.range7 (l := (pgA n hs hg (.slice A m cap) (.slice RA rn rc) false Lw.zero (.slice none 0 0) V (.slice A' V.ents.length c')).toList) OV.out.1) Try.underlying68 rfl rpage_size) rfl (.inl ⟨false, Lw.zero, V, none, 0, A', c', HOF.out, rfl, (LwRd.zero 0 w).ok, VI5.out.farZR BO5.out OV.out.2, F5.out.then_only OV.out.2 (.inr (by omega))⟩)
    · have HCO := hid_ (codeU HB.out hq)
      have hq0 : q = 9 ∨ q = 10 := hq.imp (fun h => h.1) (fun h => h.1)
      clear hq
      have F2 := hid_ (F1.out.then_none hf2)
      have BX2 := hid_ (BX.out.fr hf2 id)
      have BO2 := hid_ (BO1.out.fr hf2 id)
      have hsz2 := hf2.size
      have hbx2 := BX.out.lt
      go_upto_region 10 with (refine wpList_store_mid rfl 66 (.tmp 13) (.tmp 49) rfl w2.heap.size 0 (vwA Vw.zero (.slice none 0 0)) rfl rfl (new_there w2 _ vwZ8) rvw_size8 (by simp [Value.oneCell']) ?_; obtain ⟨w3, hw3⟩ : ∃ z, z = (w2.alloc (.cells vwZ8 66)).setCells w2.heap.size 0 (vwA Vw.zero (.slice none 0 0)).toList := ⟨_, rfl⟩; change wpList _ _ _ _ _ ((w2.alloc (.cells vwZ8 66)).setCells w2.heap.size 0 (vwA Vw.zero (.slice none 0 0)).toList); rw [← hw3]; have P3 : Hid (Blk w3 w2.heap.size 66 (vwA Vw.zero (.slice none 0 0)) ∧ Fr none_ w2 w3) := hid_ (by rw [hw3]; exact new_copy w2 _ vwZ8 _ rfl); clear hw3)
      have F3 := hid_ (F2.out.then_none P3.out.2)
      have BX3 := hid_ (BX2.out.fr P3.out.2 id)
      have BO3 := hid_ (BO2.out.fr P3.out.2 id)
      clear BX2 BO2 F2
      rcases hq0 with rfl | rfl
      · skip
        go_wp2_with (refine wpList_store_mid rfl 68 (.tmp 8) (.tmp 53) rfl (w.heap.size + 1) 0 pgZ rfl rfl (BO3.out.there7 rfl) rpage_size (by simp [Value.oneCell']) ?_; have ov := BO3.out.over7 (pgZ).toList rfl; obtain ⟨w9, hw9⟩ : ∃ z, z = w3.setCells (w.heap.size + 1) 0 (pgZ).toList := ⟨_, rfl⟩; rw [← hw9] at ov; change wpList _ _ _ _ _ (w3.setCells (w.heap.size + 1) 0 (pgZ).toList); rw [← hw9]; have OV := hid_ ov; clear hw9 ov)
        refine bodyPost_ret (results_cell_tmp7 _ _ rfl (w.heap.size + 1) 0 (pgZ).toList _ rfl (Blk.range7 (l := (pgZ).toList) OV.out.1) Try.underlying68 rfl rpage_size) rfl (.inr ⟨_, HCO.out, rfl, F3.out.then_only OV.out.2 (.inr (by omega))⟩)
      · skip
        go_wp2_with (refine wpList_store_mid rfl 68 (.tmp 8) (.tmp 53) rfl (w.heap.size + 1) 0 pgZ rfl rfl (BO3.out.there7 rfl) rpage_size (by simp [Value.oneCell']) ?_; have ov := BO3.out.over7 (pgZ).toList rfl; obtain ⟨w9, hw9⟩ : ∃ z, z = w3.setCells (w.heap.size + 1) 0 (pgZ).toList := ⟨_, rfl⟩; rw [← hw9] at ov; change wpList _ _ _ _ _ (w3.setCells (w.heap.size + 1) 0 (pgZ).toList); rw [← hw9]; have OV := hid_ ov; clear hw9 ov)
        refine bodyPost_ret (results_cell_tmp7 _ _ rfl (w.heap.size + 1) 0 (pgZ).toList _ rfl (Blk.range7 (l := (pgZ).toList) OV.out.1) Try.underlying68 rfl rpage_size) rfl (.inr ⟨_, HCO.out, rfl, F3.out.then_only OV.out.2 (.inr (by omega))⟩)
end Go.Proofs.Ytpjbncbmdfmlpaa
namespace Go.Proofs.Ytpjbncbmdfmlpaa
open Go.ChangeShapes Go.WideShapes Go.RowKit
set_option maxRecDepth 100000
set_option linter.unusedVariables false
set_option linter.unusedSimpArgs false

theorem cells_Case11 : Try.prog.cellsOf 75 = 12 := by kernel_rfl
theorem leaves_Case11 : leaves Try.prog 6 75 = [(0, .int .i64), (1, .slice 34), (2, .slice 34), (3, .bool), (4, .string), (5, .int .i64), (6, .int .i64), (7, .int .i64), (8, .int .i64), (9, .int .i64), (10, .int .i64), (11, .bool)] := by kernel_rfl
theorem open_Case11 {H : Type} {enc : TypeId × Value → H} {w : World} {r : Reach} {b0 : Nat} {v : Value} {d : DataW H} {ps : List MemPlace} (hv : Value.okWide Try.prog w r b0 75 v) (h : DataW.Trod enc Try.prog w 0 (fun _ => true) true 75 v d ps)
    (hlt : ∀ p ∈ ps, p.block < w.heap.size) (hwt : ∀ y ∈ d.weights Try.prog 75, y ≤ reachBytes) : ∃ (x0 : Int) (x1 : Value) (x2 : Value) (x3 : Bool) (x4 : ByteArray) (x5 : Int) (x6 : Int) (x7 : Int) (x8 : Int) (x9 : Int) (x10 : Int) (x11 : Bool), v = .agg #[.int .i64 x0, x1, x2, .bool x3, .string x4, .int .i64 x5, .int .i64 x6, .int .i64 x7, .int .i64 x8, .int .i64 x9, .int .i64 x10, .bool x11] ∧ (Lit.int .i64 x0).wf = true ∧ Conf enc Try.prog w (.slice 34) x1 ∧ Conf enc Try.prog w (.slice 34) x2 ∧ x4.size ≤ reachBytes ∧ (Lit.int .i64 x5).wf = true ∧ (Lit.int .i64 x6).wf = true ∧ (Lit.int .i64 x7).wf = true ∧ (Lit.int .i64 x8).wf = true ∧ (Lit.int .i64 x9).wf = true ∧ (Lit.int .i64 x10).wf = true := by
  obtain ⟨cs, rfl, hl, hc⟩ := open_agg 6 Try.underlying75 hv h hlt hwt
  rw [cells_Case11] at hl
  rw [leaves_Case11] at hc
  obtain ⟨_, h0, x0, rfl, w0⟩ := hc 0 (.int .i64) (by simp)
  obtain ⟨x1, h1, w1⟩ := hc 1 (.slice 34) (by simp)
  obtain ⟨x2, h2, w2⟩ := hc 2 (.slice 34) (by simp)
  obtain ⟨_, h3, x3, rfl⟩ := hc 3 .bool (by simp)
  obtain ⟨_, h4, x4, rfl, w4⟩ := hc 4 .string (by simp)
  obtain ⟨_, h5, x5, rfl, w5⟩ := hc 5 (.int .i64) (by simp)
  obtain ⟨_, h6, x6, rfl, w6⟩ := hc 6 (.int .i64) (by simp)
  obtain ⟨_, h7, x7, rfl, w7⟩ := hc 7 (.int .i64) (by simp)
  obtain ⟨_, h8, x8, rfl, w8⟩ := hc 8 (.int .i64) (by simp)
  obtain ⟨_, h9, x9, rfl, w9⟩ := hc 9 (.int .i64) (by simp)
  obtain ⟨_, h10, x10, rfl, w10⟩ := hc 10 (.int .i64) (by simp)
  obtain ⟨_, h11, x11, rfl⟩ := hc 11 .bool (by simp)
  match cs, hl with
  | [c0, c1, c2, c3, c4, c5, c6, c7, c8, c9, c10, c11], _ =>
    obtain rfl : c0 = _ := by simpa using h0
    obtain rfl : c1 = _ := by simpa using h1
    obtain rfl : c2 = _ := by simpa using h2
    obtain rfl : c3 = _ := by simpa using h3
    obtain rfl : c4 = _ := by simpa using h4
    obtain rfl : c5 = _ := by simpa using h5
    obtain rfl : c6 = _ := by simpa using h6
    obtain rfl : c7 = _ := by simpa using h7
    obtain rfl : c8 = _ := by simpa using h8
    obtain rfl : c9 = _ := by simpa using h9
    obtain rfl : c10 = _ := by simpa using h10
    obtain rfl : c11 = _ := by simpa using h11
    exact ⟨x0, c1, c2, x3, x4, x5, x6, x7, x8, x9, x10, x11, rfl, w0, w1, w2, w4, w5, w6, w7, w8, w9, w10⟩

end Go.Proofs.Ytpjbncbmdfmlpaa
namespace Go.Proofs.Ytpjbncbmdfmlpaa
open Go.RowKit Go.BigFrame
set_option maxRecDepth 100000
set_option linter.unusedVariables false

theorem rabove_size : (Try.prog.info? 91).map (·.size) = some 13 := by kernel_rfl
theorem range11 {w : World} {b : Nat} {t : TypeId} {cs : Array Value} (h : Blk w b t cs) : w.rangeAt b 0 cs.toList := fun j v hv => by
  rw [Nat.zero_add]
  exact h.cell' (by simpa using hv)
theorem chain_few {L : List Ch} {A : Option Addr} {n : Nat} {w : World} (h : InReads w A n L) (h8 : FewOk8 L) : ChReads w A n L := h.few fun C hC => by
  obtain ⟨k, hk⟩ := List.mem_iff_getElem?.1 hC
  exact h8.2 k C hk
theorem VwIn.farA11 {w w' : World} {V : Vw} {A : Option Addr} {c X : Nat} (h : VwIn w V A c) (hX : Blk w X 91 azZ) (hf : Fr (only X) w w') : VwIn w' V A c := by
  refine ⟨?_, h.cap, h.capm, h.ok⟩
  rcases Nat.eq_zero_or_pos V.ents.length with h0 | h0
  · exact ⟨h.rd.1, fun hn => absurd hn (by omega)⟩
  · obtain ⟨p, hp⟩ : ∃ p, V.ents[0]? = some p := ⟨_, List.getElem?_eq_getElem h0⟩
    obtain ⟨b, off, rfl, hb, c0, c1⟩ := et_at h.rd hp
    refine h.rd.fr hf (fun ad e => ?_)
    cases e
    intro e
    have e' : b = X := e
    subst e'
    rw [hX.cell] at c0 c1
    simp only [Nat.zero_mul, Nat.add_zero] at c0 c1
    match off, c0, c1 with
    | 0, c0, c1 => simp at c0
    | 1, c0, c1 => simp at c0
    | 2, c0, c1 => simp at c0
    | 3, c0, c1 => simp at c0
    | 4, c0, c1 => simp at c1
    | 5, c0, c1 => simp at c1
    | 6, c0, c1 => simp at c0
    | 7, c0, c1 => simp at c0
    | 8, c0, c1 => simp at c0
    | 9, c0, c1 => simp at c0
    | 10, c0, c1 => simp at c0
    | 11, c0, c1 => simp at c0
    | 12, c0, c1 => simp at c1
    | k + 13, c0, c1 => simp at c0
/-- What known tells. -/
def KnownPost (c : Cz) (L1 L2 : List Ch) (w : World) (e : Ending) (w' : World) : Prop :=
  ∃ (P : Pz) (a : Az), e = .returned (.tuple #[.agg (pzA P), .agg (azA a)]) ∧ PzOk w' P ∧ P.vr.oneCell' = true ∧ P.n = c.n ∧ P.nc = c.n1 ∧ ofM (L1.map (·.R)) = some (P.leaf, P.lv, P.iv) ∧ VwIn w' a.V a.B a.d ∧
    a.some_ = (c.some_ && (foldU (L2.map (·.R))).isSome) ∧ (∀ V, foldU (L2.map (·.R)) = some V → a.V = V) ∧ Fr none_ w w'
set_option maxHeartbeats 8000000 in
theorem known_ok (c : Cz) (L1 L2 : List Ch) (w : World) (h : CzIn w c L1 L2) (hf : CzFew c L1 L2) (hcp : RwCap L1) (hof : ofM (L1.map (·.R)) ≠ none) :
    Calls Try.prog 38 #[.agg (czA c)] w (KnownPost c L1 L2 w) := by
  obtain ⟨w0, hw0⟩ : ∃ z, z = ((w.alloc (.cells (czA c) 75)).alloc (.cells pgZ 68)).alloc (.cells azZ 91) := ⟨_, rfl⟩
  have f0 : Fr none_ w w0 := by rw [hw0]; exact (((Fr.refl none_ w).alloc _).alloc _).alloc _
  have BC : Hid (Blk w0 w.heap.size 75 (czA c)) := hid_ (by rw [hw0]; exact ((Blk.new w _ _).alloc _).alloc _)
  have B1 : Hid (Blk w0 (w.heap.size + 1) 68 pgZ) := hid_ (by rw [hw0]; exact (Blk.new7 _ _ (by simp)).alloc _)
  have B2 : Hid (Blk w0 (w.heap.size + 1 + 1) 91 azZ) := hid_ (by rw [hw0]; exact Blk.new7 _ _ (by simp))
  have F0 := hid_ f0
  have H := hid_ (h.keep f0)
  have HF := hid_ hf
  have HOF := hid_ hof
  have HCP := hid_ hcp
  have hn1 : c.n1 ≤ 40 := by have := hf.a.1; have := h.i1.1; omega
  have hn2 : c.n2 ≤ 40 := by have := hf.c.1; have := h.i2.1; omega
  have hsz0 := B2.out.lt
  clear f0 h hf hof hcp
  go_enter Try.func38, Try.ntmps38
  go_upto_region 1 with fail
  change Code.wp _ _ _ _ (((w.alloc (.cells (czA c) 75)).alloc (.cells pgZ 68)).alloc (.cells azZ 91))
  rw [← hw0]
  clear hw0
  have v0 : w0.cell? ⟨w.heap.size, 0, none⟩ = some (.int .i64 c.n) := BC.out.cell' rfl
  have v1 : w0.cell? ⟨w.heap.size, 1, none⟩ = some (.slice c.A1 c.n1 c.c1) := BC.out.cell' rfl
  go_wp2_with fail
  refine (rof_ok c.n 1 1 c.A1 c.n1 c.c1 L1 none 0 0 w0 (chain_few H.out.i1 HF.out.b) (by omega) (few_rows HF.out.a H.out.r1) HCP.out (fun C hC => by have := few_ents HF.out.b C hC; omega)).mono ?_
  rintro e w1 (⟨leaf, lv, iv, A, cc, B, d, ho, rfl, hlv, hiv, hf1⟩ | ⟨k, hk, _⟩)
  rotate_left
  · exact absurd hk.1 HOF.out
  clear v0 v1
  have HO := hid_ ho
  have HLV := hid_ hlv
  have HIV := hid_ hiv
  replace BC := hid_ (BC.out.fr hf1 id)
  replace B1 := hid_ (B1.out.fr hf1 id)
  replace B2 := hid_ (B2.out.fr hf1 id)
  replace F0 := hid_ (F0.out.then_none hf1)
  replace H := hid_ (H.out.keep hf1)
  have hsz1 := hf1.size
  clear ho hlv hiv hf1
  obtain ⟨pv, hpv⟩ : ∃ pv, pv = pgA c.n 1 1 (.slice c.A1 c.n1 c.c1) (.slice none 0 0) leaf lv (.slice A lv.rows.length cc) iv (.slice B iv.ents.length d) := ⟨_, rfl⟩
  have hpo : pv.all (·.oneCell') = true := by rw [hpv]; simp [Value.oneCell']
  have hps : pv.size = 21 := by rw [hpv]; rfl
  rw [← hpv]
  have HPV := hid_ hpv
  clear hpv
  go_upto_region 2 with (refine wpList_store_mid rfl 68 (.tmp 4) (.tmp 15) rfl w1.heap.size 0 pv rfl rfl (by rw [hps]; exact new_there w1 _ pgZ) (by rw [hps]; exact rpage_size) hpo ?_; obtain ⟨w2, hw2⟩ : ∃ z, z = (w1.alloc (.cells pgZ 68)).setCells w1.heap.size 0 pv.toList := ⟨_, rfl⟩; change wpList _ _ _ _ _ ((w1.alloc (.cells pgZ 68)).setCells w1.heap.size 0 pv.toList); rw [← hw2]; have P2 : Hid (Blk w2 w1.heap.size 68 pv ∧ Fr none_ w1 w2) := hid_ (by rw [hw2]; exact new_copy w1 _ pgZ _ (by simp [hps])); clear hw2)
  replace BC := hid_ (BC.out.fr P2.out.2 id)
  replace B1 := hid_ (B1.out.fr P2.out.2 id)
  replace B2 := hid_ (B2.out.fr P2.out.2 id)
  replace F0 := hid_ (F0.out.then_none P2.out.2)
  replace H := hid_ (H.out.keep P2.out.2)
  replace HIV := hid_ (HIV.out.keep P2.out.2)
  have BP := hid_ P2.out.1
  obtain ⟨g4, hg4⟩ : ∃ g, g = w1.heap.size := ⟨_, rfl⟩
  rw [← hg4] at BP
  rw [← hg4]
  have hg4w : w.heap.size + 1 + 1 < g4 := by omega
  clear hg4 P2
  have v2 : w2.cell? ⟨w.heap.size, 2, none⟩ = some (.slice c.A2 c.n2 c.c2) := BC.out.cell' rfl
  go_wp2_with fail
  refine (rfoldU_ok c.A2 c.n2 c.c2 L2 w2 (chain_few H.out.i2 HF.out.d) (by omega) (fun C hC => by have := few_ents HF.out.d C hC; omega)).mono ?_
  intro e w3 hpost
  clear v2
  have hpost2 : ∃ (V : Vw) (B' : Option Addr) (d' : Nat) (kk : Int), e = .returned (.tuple #[vwV V (.slice B' V.ents.length d'), .int .i64 kk]) ∧ (kk = 0 ∨ kk = 9 ∨ kk = 10) ∧ ((kk == 0) = (foldU (L2.map (·.R))).isSome) ∧ (∀ V0, foldU (L2.map (·.R)) = some V0 → V = V0) ∧ VwIn w3 V B' d' ∧ Fr none_ w2 w3 := by
    rcases hpost with ⟨V, B', d', _, hfo, rfl, hv, hf⟩ | ⟨k, hk, rfl, hf⟩
    · exact ⟨V, B', d', 0, rfl, .inl rfl, by rw [hfo]; rfl, fun V0 h => by rw [hfo] at h; cases h; rfl, hv, hf⟩
    · have hn : foldU (L2.map (·.R)) = none := by
        rcases hk with ⟨_, R, hR, hb⟩ | h
        · exact foldU_no fun ha => absurd (ha R hR) hb
        · exact h.2.2
      refine ⟨Vw.zero, none, 0, k, rfl, .inr (hk.imp (fun h => h.1) (fun h => h.1)), ?_, fun V0 h => (by rw [hn] at h; cases h), VwIn.zero _, hf⟩
      rw [hn]
      rcases hk with h | h <;> rw [h.1] <;> rfl
  clear hpost
  obtain ⟨V, B', d', kk, rfl, hkk, hks, hkv, hv3, hf3⟩ := hpost2
  have HKS := hid_ hks
  have HKV := hid_ hkv
  have HV3 := hid_ hv3
  replace BC := hid_ (BC.out.fr hf3 id)
  replace B1 := hid_ (B1.out.fr hf3 id)
  replace B2 := hid_ (B2.out.fr hf3 id)
  replace BP := hid_ (BP.out.fr hf3 id)
  replace F0 := hid_ (F0.out.then_none hf3)
  replace HIV := hid_ (HIV.out.keep hf3)
  have hsz3 := hf3.size
  have hg4l := BP.out.lt
  clear hks hkv hv3 hf3 H
  go_upto_region 3 with (refine wpList_store_mid rfl 66 (.tmp 6) (.tmp 21) rfl w3.heap.size 0 (vwA V (.slice B' V.ents.length d')) rfl rfl (new_there w3 _ vwZ8) rvw_size8 (by simp [Value.oneCell']) ?_; obtain ⟨w4, hw4⟩ : ∃ z, z = (w3.alloc (.cells vwZ8 66)).setCells w3.heap.size 0 (vwA V (.slice B' V.ents.length d')).toList := ⟨_, rfl⟩; change wpList _ _ _ _ _ ((w3.alloc (.cells vwZ8 66)).setCells w3.heap.size 0 (vwA V (.slice B' V.ents.length d')).toList); rw [← hw4]; have P4 : Hid (Blk w4 w3.heap.size 66 (vwA V (.slice B' V.ents.length d')) ∧ Fr none_ w3 w4) := hid_ (by rw [hw4]; exact new_copy w3 _ vwZ8 _ rfl); clear hw4)
  replace BC := hid_ (BC.out.fr P4.out.2 id)
  replace B1 := hid_ (B1.out.fr P4.out.2 id)
  replace B2 := hid_ (B2.out.fr P4.out.2 id)
  replace BP := hid_ (BP.out.fr P4.out.2 id)
  replace F0 := hid_ (F0.out.then_none P4.out.2)
  replace HIV := hid_ (HIV.out.keep P4.out.2)
  replace HV3 := hid_ (HV3.out.keep P4.out.2)
  have BV := hid_ P4.out.1
  obtain ⟨g6, hg6⟩ : ∃ g, g = w3.heap.size := ⟨_, rfl⟩
  rw [← hg6] at BV
  rw [← hg6]
  have hg6w : g4 < g6 := by omega
  clear hg6 P4
  (try go_frame)
  obtain ⟨cs, hcs⟩ : ∃ z, z = c.some_ := ⟨_, rfl⟩
  obtain ⟨kb, hkb⟩ : ∃ z, z = (kk == 0) := ⟨_, rfl⟩
  obtain ⟨aa, haa⟩ : ∃ aa : Array Value, aa = azA ⟨cs && kb, 1, 0, 0, V, B', d'⟩ := ⟨_, rfl⟩
  have hao : aa.all (·.oneCell') = true := by rw [haa]; simp [Value.oneCell']
  have has : aa.size = 13 := by rw [haa]; rfl
  have hv3 : w4.cell? ⟨w.heap.size, 3, none⟩ = some (.bool cs) := by rw [hcs]; exact BC.out.cell' rfl
  have HCS := hid_ hcs
  have HAA := hid_ haa
  have HKB := hid_ hkb
  have HSTEP : Hid (∀ w5, w5 = w4.drew.setCells (w.heap.size + 1) 0 pv.toList → ∀ w6, w6 = w5.setCells (w.heap.size + 1 + 1) 0 aa.toList → KnownPost c L1 L2 w (.returned (.tuple #[.agg pv, .agg aa])) w6) := hid_ (by
    intro w5 hw5 w6 hw6
    have hb5 := B1.out.drew.over7 pv.toList (by simp [hps])
    rw [← hw5] at hb5
    have hB2 := B2.out.drew.fr hb5.2 (only_ne (by omega))
    have hb6 := hB2.over7 aa.toList (by simp [has])
    rw [← hw6] at hb6
    have hd : Fr none_ w4 w4.drew := (Fr.refl none_ w4).drew
    have hiv := ((HIV.out.keep hd).farZR B1.out.drew hb5.2).farA11 hB2 hb6.2
    have hvv := ((HV3.out.keep hd).farZR B1.out.drew hb5.2).farA11 hB2 hb6.2
    exact ⟨⟨c.n, 1, 1, c.A1, c.n1, c.c1, .slice none 0 0, leaf, lv, A, cc, iv, B, d⟩, ⟨cs && kb, 1, 0, 0, V, B', d'⟩, by rw [HPV.out, HAA.out], ⟨HLV.out.low, HLV.out.high, HLV.out.rows.1, hiv, by show c.n1 ≤ 4000; omega⟩, rfl, rfl, rfl, HO.out, hvv,
      by show (cs && kb) = _; rw [HCS.out, HKB.out, HKS.out], HKV.out, ((F0.out.then_none hd).then_only hb5.2 (.inr (by omega))).then_only hb6.2 (.inr (by omega))⟩)
  rcases hkk with rfl | rfl | rfl
  · cases cs with
    | false =>
      have hS : (fun w' : World => Blk w' g4 68 pv ∧ Blk w' g6 66 (vwA V (.slice B' V.ents.length d')) ∧ Blk w' w.heap.size 75 (czA c)) w4.drew := ⟨BP.out.drew, BV.out.drew, BC.out.drew⟩
      refine wp_region_u 11 (fun w' : World => Blk w' g4 68 pv ∧ Blk w' g6 66 (vwA V (.slice B' V.ents.length d')) ∧ Blk w' w.heap.size 75 (czA c)) (by kernel_rfl) ?_
      refine u_take 0 (some 23) (.agg pv) rfl rfl (by kernel_rfl) (by kernel_rfl) (by kernel_rfl) (by kernel_rfl) (fun _ _ _ h => h) (yieldsIf_load_mid (by kernel_rfl) 68 (.tmp 4) rfl g4 0 (by kernel_rfl) pv.toList _ (fun w' hS => range11 hS.1) Try.underlying68 rfl (by rw [Array.length_toList, hps]; exact rpage_size)) hS ?_
      go_frame
      refine u_take 1 (some 24) (.pointer (some ⟨w.heap.size, 3, none⟩)) rfl rfl (by kernel_rfl) (by kernel_rfl) (by kernel_rfl) (by kernel_rfl) (fun _ _ _ h => h) (y_val (by kernel_rfl) (fun w' hS => by kernel_rfl)) hS ?_
      go_frame
      refine u_take 2 (some 25) (.bool false) rfl rfl (by kernel_rfl) (by kernel_rfl) (by kernel_rfl) (by kernel_rfl) (fun _ _ _ h => h) (y_cell 4 (.tmp 24) ⟨w.heap.size, 3, none⟩ _ (by kernel_rfl) rfl (by kernel_rfl) (fun w' hS => by have := hS.2.2.cell' (i := 3) (v := .bool c.some_) rfl; rw [← HCS.out] at this; exact this) Try.underlying4 rfl) hS ?_
      go_frame
      refine u_take 3 (some 26) (.bool false) rfl rfl (by kernel_rfl) (by kernel_rfl) (by kernel_rfl) (by kernel_rfl) (fun _ _ _ h => h) (y_val (by kernel_rfl) (fun w' hS => by kernel_rfl)) hS ?_
      go_frame
      refine u_take 4 (some 27) (undef) rfl rfl (by kernel_rfl) (by kernel_rfl) (by kernel_rfl) (by kernel_rfl) (fun _ _ _ h => h) (y_skip (by kernel_rfl)) hS ?_
      go_frame
      refine u_take 5 (some 28) (undef) rfl rfl (by kernel_rfl) (by kernel_rfl) (by kernel_rfl) (by kernel_rfl) (fun _ _ _ h => h) (y_skip (by kernel_rfl)) hS ?_
      go_frame
      refine u_take 6 (some 29) (.bool false) rfl rfl (by kernel_rfl) (by kernel_rfl) (by kernel_rfl) (by kernel_rfl) (fun _ _ _ h => h) (y_val (by kernel_rfl) (fun w' hS => by kernel_rfl)) hS ?_
      go_frame
      refine u_take 7 (some 30) (.agg (vwA V (.slice B' V.ents.length d'))) rfl rfl (by kernel_rfl) (by kernel_rfl) (by kernel_rfl) (by kernel_rfl) (fun _ _ _ h => h) (yieldsIf_load_mid (by kernel_rfl) 66 (.tmp 6) rfl g6 0 (by kernel_rfl) (vwA V (.slice B' V.ents.length d')).toList _ (fun w' hS => range11 hS.2.1) Try.underlying66 rfl (by kernel_rfl)) hS ?_
      go_frame
      refine u_take 8 (some 31) (.agg aa) rfl rfl (by kernel_rfl) (by kernel_rfl) (by kernel_rfl) (by kernel_rfl) (fun _ _ _ h => h) (by rw [HAA.out, HKB.out]; exact y_val (by kernel_rfl) (fun w' hS => by kernel_rfl)) hS ?_
      go_frame
      refine u_store 9 68 (.tmp 2) (.tmp 23) (w.heap.size + 1) 0 pv rfl rfl (by kernel_rfl) (by kernel_rfl) rfl (by kernel_rfl) (by kernel_rfl) (by rw [hps]; exact B1.out.drew.there7 rfl) (by rw [hps]; exact rpage_size) hpo ?_
      intro w5 hw5
      have hb5 := B1.out.drew.over7 pv.toList (by simp [hps])
      rw [← hw5] at hb5
      refine ⟨⟨BP.out.drew.fr hb5.2 (only_ne (by omega)), BV.out.drew.fr hb5.2 (only_ne (by omega)), BC.out.drew.fr hb5.2 (only_ne (by omega))⟩, ?_⟩
      refine u_store 10 91 (.tmp 3) (.tmp 31) (w.heap.size + 1 + 1) 0 aa rfl rfl (by kernel_rfl) (by kernel_rfl) rfl (by kernel_rfl) (by kernel_rfl) (by rw [has]; exact (B2.out.drew.fr hb5.2 (only_ne (by omega))).there7 rfl) (by rw [has]; exact rabove_size) hao ?_
      intro w6 hw6
      have hb6 := (B2.out.drew.fr hb5.2 (only_ne (by omega))).over7 aa.toList (by simp [has])
      rw [← hw6] at hb6
      refine ⟨⟨BP.out.drew.fr hb5.2 (only_ne (by omega)) |>.fr hb6.2 (only_ne (by omega)), BV.out.drew.fr hb5.2 (only_ne (by omega)) |>.fr hb6.2 (only_ne (by omega)), BC.out.drew.fr hb5.2 (only_ne (by omega)) |>.fr hb6.2 (only_ne (by omega))⟩, ?_⟩
      have Q5 := hid_ (hb5.1.fr hb6.2 (only_ne (by omega)))
      have Q6 := hid_ hb6.1
      have HPO := hid_ (HSTEP.out w5 hw5 w6 hw6)
      clear hb5 hb6 hw5 hw6 hS
      refine u_done (by kernel_rfl) ?_
      go_wp2_with fail
      refine bodyPost_ret (results_cell_cell7 _ _ rfl (w.heap.size + 1) 0 pv.toList _ rfl (range11 (by simpa using Q5.out)) Try.underlying68 rfl (by rw [Array.length_toList, hps]; exact rpage_size) (w.heap.size + 1 + 1) 0 aa.toList _ rfl (range11 (by simpa using Q6.out)) Try.underlying91 rfl (by rw [Array.length_toList, has]; exact rabove_size)) rfl ?_
      exact HPO.out
    | true =>
      have hS : (fun w' : World => Blk w' g4 68 pv ∧ Blk w' g6 66 (vwA V (.slice B' V.ents.length d')) ∧ Blk w' w.heap.size 75 (czA c)) w4.drew := ⟨BP.out.drew, BV.out.drew, BC.out.drew⟩
      refine wp_region_u 11 (fun w' : World => Blk w' g4 68 pv ∧ Blk w' g6 66 (vwA V (.slice B' V.ents.length d')) ∧ Blk w' w.heap.size 75 (czA c)) (by kernel_rfl) ?_
      refine u_take 0 (some 23) (.agg pv) rfl rfl (by kernel_rfl) (by kernel_rfl) (by kernel_rfl) (by kernel_rfl) (fun _ _ _ h => h) (yieldsIf_load_mid (by kernel_rfl) 68 (.tmp 4) rfl g4 0 (by kernel_rfl) pv.toList _ (fun w' hS => range11 hS.1) Try.underlying68 rfl (by rw [Array.length_toList, hps]; exact rpage_size)) hS ?_
      go_frame
      refine u_take 1 (some 24) (.pointer (some ⟨w.heap.size, 3, none⟩)) rfl rfl (by kernel_rfl) (by kernel_rfl) (by kernel_rfl) (by kernel_rfl) (fun _ _ _ h => h) (y_val (by kernel_rfl) (fun w' hS => by kernel_rfl)) hS ?_
      go_frame
      refine u_take 2 (some 25) (.bool true) rfl rfl (by kernel_rfl) (by kernel_rfl) (by kernel_rfl) (by kernel_rfl) (fun _ _ _ h => h) (y_cell 4 (.tmp 24) ⟨w.heap.size, 3, none⟩ _ (by kernel_rfl) rfl (by kernel_rfl) (fun w' hS => by have := hS.2.2.cell' (i := 3) (v := .bool c.some_) rfl; rw [← HCS.out] at this; exact this) Try.underlying4 rfl) hS ?_
      go_frame
      refine u_take 3 (some 26) (.bool true) rfl rfl (by kernel_rfl) (by kernel_rfl) (by kernel_rfl) (by kernel_rfl) (fun _ _ _ h => h) (y_val (by kernel_rfl) (fun w' hS => by kernel_rfl)) hS ?_
      go_frame
      refine u_take 4 (some 27) (.int .i64 0) rfl rfl (by kernel_rfl) (by kernel_rfl) (by kernel_rfl) (by kernel_rfl) (fun _ _ _ h => h) (y_val (by kernel_rfl) (fun w' hS => by kernel_rfl)) hS ?_
      go_frame
      refine u_take 5 (some 28) (.bool true) rfl rfl (by kernel_rfl) (by kernel_rfl) (by kernel_rfl) (by kernel_rfl) (fun _ _ _ h => h) (y_val (by kernel_rfl) (fun w' hS => by kernel_rfl)) hS ?_
      go_frame
      refine u_take 6 (some 29) (.bool true) rfl rfl (by kernel_rfl) (by kernel_rfl) (by kernel_rfl) (by kernel_rfl) (fun _ _ _ h => h) (y_val (by kernel_rfl) (fun w' hS => by kernel_rfl)) hS ?_
      go_frame
      refine u_take 7 (some 30) (.agg (vwA V (.slice B' V.ents.length d'))) rfl rfl (by kernel_rfl) (by kernel_rfl) (by kernel_rfl) (by kernel_rfl) (fun _ _ _ h => h) (yieldsIf_load_mid (by kernel_rfl) 66 (.tmp 6) rfl g6 0 (by kernel_rfl) (vwA V (.slice B' V.ents.length d')).toList _ (fun w' hS => range11 hS.2.1) Try.underlying66 rfl (by kernel_rfl)) hS ?_
      go_frame
      refine u_take 8 (some 31) (.agg aa) rfl rfl (by kernel_rfl) (by kernel_rfl) (by kernel_rfl) (by kernel_rfl) (fun _ _ _ h => h) (by rw [HAA.out, HKB.out]; exact y_val (by kernel_rfl) (fun w' hS => by kernel_rfl)) hS ?_
      go_frame
      refine u_store 9 68 (.tmp 2) (.tmp 23) (w.heap.size + 1) 0 pv rfl rfl (by kernel_rfl) (by kernel_rfl) rfl (by kernel_rfl) (by kernel_rfl) (by rw [hps]; exact B1.out.drew.there7 rfl) (by rw [hps]; exact rpage_size) hpo ?_
      intro w5 hw5
      have hb5 := B1.out.drew.over7 pv.toList (by simp [hps])
      rw [← hw5] at hb5
      refine ⟨⟨BP.out.drew.fr hb5.2 (only_ne (by omega)), BV.out.drew.fr hb5.2 (only_ne (by omega)), BC.out.drew.fr hb5.2 (only_ne (by omega))⟩, ?_⟩
      refine u_store 10 91 (.tmp 3) (.tmp 31) (w.heap.size + 1 + 1) 0 aa rfl rfl (by kernel_rfl) (by kernel_rfl) rfl (by kernel_rfl) (by kernel_rfl) (by rw [has]; exact (B2.out.drew.fr hb5.2 (only_ne (by omega))).there7 rfl) (by rw [has]; exact rabove_size) hao ?_
      intro w6 hw6
      have hb6 := (B2.out.drew.fr hb5.2 (only_ne (by omega))).over7 aa.toList (by simp [has])
      rw [← hw6] at hb6
      refine ⟨⟨BP.out.drew.fr hb5.2 (only_ne (by omega)) |>.fr hb6.2 (only_ne (by omega)), BV.out.drew.fr hb5.2 (only_ne (by omega)) |>.fr hb6.2 (only_ne (by omega)), BC.out.drew.fr hb5.2 (only_ne (by omega)) |>.fr hb6.2 (only_ne (by omega))⟩, ?_⟩
      have Q5 := hid_ (hb5.1.fr hb6.2 (only_ne (by omega)))
      have Q6 := hid_ hb6.1
      have HPO := hid_ (HSTEP.out w5 hw5 w6 hw6)
      clear hb5 hb6 hw5 hw6 hS
      refine u_done (by kernel_rfl) ?_
      go_wp2_with fail
      refine bodyPost_ret (results_cell_cell7 _ _ rfl (w.heap.size + 1) 0 pv.toList _ rfl (range11 (by simpa using Q5.out)) Try.underlying68 rfl (by rw [Array.length_toList, hps]; exact rpage_size) (w.heap.size + 1 + 1) 0 aa.toList _ rfl (range11 (by simpa using Q6.out)) Try.underlying91 rfl (by rw [Array.length_toList, has]; exact rabove_size)) rfl ?_
      exact HPO.out
  · cases cs with
    | false =>
      have hS : (fun w' : World => Blk w' g4 68 pv ∧ Blk w' g6 66 (vwA V (.slice B' V.ents.length d')) ∧ Blk w' w.heap.size 75 (czA c)) w4.drew := ⟨BP.out.drew, BV.out.drew, BC.out.drew⟩
      refine wp_region_u 11 (fun w' : World => Blk w' g4 68 pv ∧ Blk w' g6 66 (vwA V (.slice B' V.ents.length d')) ∧ Blk w' w.heap.size 75 (czA c)) (by kernel_rfl) ?_
      refine u_take 0 (some 23) (.agg pv) rfl rfl (by kernel_rfl) (by kernel_rfl) (by kernel_rfl) (by kernel_rfl) (fun _ _ _ h => h) (yieldsIf_load_mid (by kernel_rfl) 68 (.tmp 4) rfl g4 0 (by kernel_rfl) pv.toList _ (fun w' hS => range11 hS.1) Try.underlying68 rfl (by rw [Array.length_toList, hps]; exact rpage_size)) hS ?_
      go_frame
      refine u_take 1 (some 24) (.pointer (some ⟨w.heap.size, 3, none⟩)) rfl rfl (by kernel_rfl) (by kernel_rfl) (by kernel_rfl) (by kernel_rfl) (fun _ _ _ h => h) (y_val (by kernel_rfl) (fun w' hS => by kernel_rfl)) hS ?_
      go_frame
      refine u_take 2 (some 25) (.bool false) rfl rfl (by kernel_rfl) (by kernel_rfl) (by kernel_rfl) (by kernel_rfl) (fun _ _ _ h => h) (y_cell 4 (.tmp 24) ⟨w.heap.size, 3, none⟩ _ (by kernel_rfl) rfl (by kernel_rfl) (fun w' hS => by have := hS.2.2.cell' (i := 3) (v := .bool c.some_) rfl; rw [← HCS.out] at this; exact this) Try.underlying4 rfl) hS ?_
      go_frame
      refine u_take 3 (some 26) (.bool false) rfl rfl (by kernel_rfl) (by kernel_rfl) (by kernel_rfl) (by kernel_rfl) (fun _ _ _ h => h) (y_val (by kernel_rfl) (fun w' hS => by kernel_rfl)) hS ?_
      go_frame
      refine u_take 4 (some 27) (undef) rfl rfl (by kernel_rfl) (by kernel_rfl) (by kernel_rfl) (by kernel_rfl) (fun _ _ _ h => h) (y_skip (by kernel_rfl)) hS ?_
      go_frame
      refine u_take 5 (some 28) (undef) rfl rfl (by kernel_rfl) (by kernel_rfl) (by kernel_rfl) (by kernel_rfl) (fun _ _ _ h => h) (y_skip (by kernel_rfl)) hS ?_
      go_frame
      refine u_take 6 (some 29) (.bool false) rfl rfl (by kernel_rfl) (by kernel_rfl) (by kernel_rfl) (by kernel_rfl) (fun _ _ _ h => h) (y_val (by kernel_rfl) (fun w' hS => by kernel_rfl)) hS ?_
      go_frame
      refine u_take 7 (some 30) (.agg (vwA V (.slice B' V.ents.length d'))) rfl rfl (by kernel_rfl) (by kernel_rfl) (by kernel_rfl) (by kernel_rfl) (fun _ _ _ h => h) (yieldsIf_load_mid (by kernel_rfl) 66 (.tmp 6) rfl g6 0 (by kernel_rfl) (vwA V (.slice B' V.ents.length d')).toList _ (fun w' hS => range11 hS.2.1) Try.underlying66 rfl (by kernel_rfl)) hS ?_
      go_frame
      refine u_take 8 (some 31) (.agg aa) rfl rfl (by kernel_rfl) (by kernel_rfl) (by kernel_rfl) (by kernel_rfl) (fun _ _ _ h => h) (by rw [HAA.out, HKB.out]; exact y_val (by kernel_rfl) (fun w' hS => by kernel_rfl)) hS ?_
      go_frame
      refine u_store 9 68 (.tmp 2) (.tmp 23) (w.heap.size + 1) 0 pv rfl rfl (by kernel_rfl) (by kernel_rfl) rfl (by kernel_rfl) (by kernel_rfl) (by rw [hps]; exact B1.out.drew.there7 rfl) (by rw [hps]; exact rpage_size) hpo ?_
      intro w5 hw5
      have hb5 := B1.out.drew.over7 pv.toList (by simp [hps])
      rw [← hw5] at hb5
      refine ⟨⟨BP.out.drew.fr hb5.2 (only_ne (by omega)), BV.out.drew.fr hb5.2 (only_ne (by omega)), BC.out.drew.fr hb5.2 (only_ne (by omega))⟩, ?_⟩
      refine u_store 10 91 (.tmp 3) (.tmp 31) (w.heap.size + 1 + 1) 0 aa rfl rfl (by kernel_rfl) (by kernel_rfl) rfl (by kernel_rfl) (by kernel_rfl) (by rw [has]; exact (B2.out.drew.fr hb5.2 (only_ne (by omega))).there7 rfl) (by rw [has]; exact rabove_size) hao ?_
      intro w6 hw6
      have hb6 := (B2.out.drew.fr hb5.2 (only_ne (by omega))).over7 aa.toList (by simp [has])
      rw [← hw6] at hb6
      refine ⟨⟨BP.out.drew.fr hb5.2 (only_ne (by omega)) |>.fr hb6.2 (only_ne (by omega)), BV.out.drew.fr hb5.2 (only_ne (by omega)) |>.fr hb6.2 (only_ne (by omega)), BC.out.drew.fr hb5.2 (only_ne (by omega)) |>.fr hb6.2 (only_ne (by omega))⟩, ?_⟩
      have Q5 := hid_ (hb5.1.fr hb6.2 (only_ne (by omega)))
      have Q6 := hid_ hb6.1
      have HPO := hid_ (HSTEP.out w5 hw5 w6 hw6)
      clear hb5 hb6 hw5 hw6 hS
      refine u_done (by kernel_rfl) ?_
      go_wp2_with fail
      refine bodyPost_ret (results_cell_cell7 _ _ rfl (w.heap.size + 1) 0 pv.toList _ rfl (range11 (by simpa using Q5.out)) Try.underlying68 rfl (by rw [Array.length_toList, hps]; exact rpage_size) (w.heap.size + 1 + 1) 0 aa.toList _ rfl (range11 (by simpa using Q6.out)) Try.underlying91 rfl (by rw [Array.length_toList, has]; exact rabove_size)) rfl ?_
      exact HPO.out
    | true =>
      have hS : (fun w' : World => Blk w' g4 68 pv ∧ Blk w' g6 66 (vwA V (.slice B' V.ents.length d')) ∧ Blk w' w.heap.size 75 (czA c)) w4.drew := ⟨BP.out.drew, BV.out.drew, BC.out.drew⟩
      refine wp_region_u 11 (fun w' : World => Blk w' g4 68 pv ∧ Blk w' g6 66 (vwA V (.slice B' V.ents.length d')) ∧ Blk w' w.heap.size 75 (czA c)) (by kernel_rfl) ?_
      refine u_take 0 (some 23) (.agg pv) rfl rfl (by kernel_rfl) (by kernel_rfl) (by kernel_rfl) (by kernel_rfl) (fun _ _ _ h => h) (yieldsIf_load_mid (by kernel_rfl) 68 (.tmp 4) rfl g4 0 (by kernel_rfl) pv.toList _ (fun w' hS => range11 hS.1) Try.underlying68 rfl (by rw [Array.length_toList, hps]; exact rpage_size)) hS ?_
      go_frame
      refine u_take 1 (some 24) (.pointer (some ⟨w.heap.size, 3, none⟩)) rfl rfl (by kernel_rfl) (by kernel_rfl) (by kernel_rfl) (by kernel_rfl) (fun _ _ _ h => h) (y_val (by kernel_rfl) (fun w' hS => by kernel_rfl)) hS ?_
      go_frame
      refine u_take 2 (some 25) (.bool true) rfl rfl (by kernel_rfl) (by kernel_rfl) (by kernel_rfl) (by kernel_rfl) (fun _ _ _ h => h) (y_cell 4 (.tmp 24) ⟨w.heap.size, 3, none⟩ _ (by kernel_rfl) rfl (by kernel_rfl) (fun w' hS => by have := hS.2.2.cell' (i := 3) (v := .bool c.some_) rfl; rw [← HCS.out] at this; exact this) Try.underlying4 rfl) hS ?_
      go_frame
      refine u_take 3 (some 26) (.bool true) rfl rfl (by kernel_rfl) (by kernel_rfl) (by kernel_rfl) (by kernel_rfl) (fun _ _ _ h => h) (y_val (by kernel_rfl) (fun w' hS => by kernel_rfl)) hS ?_
      go_frame
      refine u_take 4 (some 27) (.int .i64 9) rfl rfl (by kernel_rfl) (by kernel_rfl) (by kernel_rfl) (by kernel_rfl) (fun _ _ _ h => h) (y_val (by kernel_rfl) (fun w' hS => by kernel_rfl)) hS ?_
      go_frame
      refine u_take 5 (some 28) (.bool false) rfl rfl (by kernel_rfl) (by kernel_rfl) (by kernel_rfl) (by kernel_rfl) (fun _ _ _ h => h) (y_val (by kernel_rfl) (fun w' hS => by kernel_rfl)) hS ?_
      go_frame
      refine u_take 6 (some 29) (.bool false) rfl rfl (by kernel_rfl) (by kernel_rfl) (by kernel_rfl) (by kernel_rfl) (fun _ _ _ h => h) (y_val (by kernel_rfl) (fun w' hS => by kernel_rfl)) hS ?_
      go_frame
      refine u_take 7 (some 30) (.agg (vwA V (.slice B' V.ents.length d'))) rfl rfl (by kernel_rfl) (by kernel_rfl) (by kernel_rfl) (by kernel_rfl) (fun _ _ _ h => h) (yieldsIf_load_mid (by kernel_rfl) 66 (.tmp 6) rfl g6 0 (by kernel_rfl) (vwA V (.slice B' V.ents.length d')).toList _ (fun w' hS => range11 hS.2.1) Try.underlying66 rfl (by kernel_rfl)) hS ?_
      go_frame
      refine u_take 8 (some 31) (.agg aa) rfl rfl (by kernel_rfl) (by kernel_rfl) (by kernel_rfl) (by kernel_rfl) (fun _ _ _ h => h) (by rw [HAA.out, HKB.out]; exact y_val (by kernel_rfl) (fun w' hS => by kernel_rfl)) hS ?_
      go_frame
      refine u_store 9 68 (.tmp 2) (.tmp 23) (w.heap.size + 1) 0 pv rfl rfl (by kernel_rfl) (by kernel_rfl) rfl (by kernel_rfl) (by kernel_rfl) (by rw [hps]; exact B1.out.drew.there7 rfl) (by rw [hps]; exact rpage_size) hpo ?_
      intro w5 hw5
      have hb5 := B1.out.drew.over7 pv.toList (by simp [hps])
      rw [← hw5] at hb5
      refine ⟨⟨BP.out.drew.fr hb5.2 (only_ne (by omega)), BV.out.drew.fr hb5.2 (only_ne (by omega)), BC.out.drew.fr hb5.2 (only_ne (by omega))⟩, ?_⟩
      refine u_store 10 91 (.tmp 3) (.tmp 31) (w.heap.size + 1 + 1) 0 aa rfl rfl (by kernel_rfl) (by kernel_rfl) rfl (by kernel_rfl) (by kernel_rfl) (by rw [has]; exact (B2.out.drew.fr hb5.2 (only_ne (by omega))).there7 rfl) (by rw [has]; exact rabove_size) hao ?_
      intro w6 hw6
      have hb6 := (B2.out.drew.fr hb5.2 (only_ne (by omega))).over7 aa.toList (by simp [has])
      rw [← hw6] at hb6
      refine ⟨⟨BP.out.drew.fr hb5.2 (only_ne (by omega)) |>.fr hb6.2 (only_ne (by omega)), BV.out.drew.fr hb5.2 (only_ne (by omega)) |>.fr hb6.2 (only_ne (by omega)), BC.out.drew.fr hb5.2 (only_ne (by omega)) |>.fr hb6.2 (only_ne (by omega))⟩, ?_⟩
      have Q5 := hid_ (hb5.1.fr hb6.2 (only_ne (by omega)))
      have Q6 := hid_ hb6.1
      have HPO := hid_ (HSTEP.out w5 hw5 w6 hw6)
      clear hb5 hb6 hw5 hw6 hS
      refine u_done (by kernel_rfl) ?_
      go_wp2_with fail
      refine bodyPost_ret (results_cell_cell7 _ _ rfl (w.heap.size + 1) 0 pv.toList _ rfl (range11 (by simpa using Q5.out)) Try.underlying68 rfl (by rw [Array.length_toList, hps]; exact rpage_size) (w.heap.size + 1 + 1) 0 aa.toList _ rfl (range11 (by simpa using Q6.out)) Try.underlying91 rfl (by rw [Array.length_toList, has]; exact rabove_size)) rfl ?_
      exact HPO.out
  · cases cs with
    | false =>
      have hS : (fun w' : World => Blk w' g4 68 pv ∧ Blk w' g6 66 (vwA V (.slice B' V.ents.length d')) ∧ Blk w' w.heap.size 75 (czA c)) w4.drew := ⟨BP.out.drew, BV.out.drew, BC.out.drew⟩
      refine wp_region_u 11 (fun w' : World => Blk w' g4 68 pv ∧ Blk w' g6 66 (vwA V (.slice B' V.ents.length d')) ∧ Blk w' w.heap.size 75 (czA c)) (by kernel_rfl) ?_
      refine u_take 0 (some 23) (.agg pv) rfl rfl (by kernel_rfl) (by kernel_rfl) (by kernel_rfl) (by kernel_rfl) (fun _ _ _ h => h) (yieldsIf_load_mid (by kernel_rfl) 68 (.tmp 4) rfl g4 0 (by kernel_rfl) pv.toList _ (fun w' hS => range11 hS.1) Try.underlying68 rfl (by rw [Array.length_toList, hps]; exact rpage_size)) hS ?_
      go_frame
      refine u_take 1 (some 24) (.pointer (some ⟨w.heap.size, 3, none⟩)) rfl rfl (by kernel_rfl) (by kernel_rfl) (by kernel_rfl) (by kernel_rfl) (fun _ _ _ h => h) (y_val (by kernel_rfl) (fun w' hS => by kernel_rfl)) hS ?_
      go_frame
      refine u_take 2 (some 25) (.bool false) rfl rfl (by kernel_rfl) (by kernel_rfl) (by kernel_rfl) (by kernel_rfl) (fun _ _ _ h => h) (y_cell 4 (.tmp 24) ⟨w.heap.size, 3, none⟩ _ (by kernel_rfl) rfl (by kernel_rfl) (fun w' hS => by have := hS.2.2.cell' (i := 3) (v := .bool c.some_) rfl; rw [← HCS.out] at this; exact this) Try.underlying4 rfl) hS ?_
      go_frame
      refine u_take 3 (some 26) (.bool false) rfl rfl (by kernel_rfl) (by kernel_rfl) (by kernel_rfl) (by kernel_rfl) (fun _ _ _ h => h) (y_val (by kernel_rfl) (fun w' hS => by kernel_rfl)) hS ?_
      go_frame
      refine u_take 4 (some 27) (undef) rfl rfl (by kernel_rfl) (by kernel_rfl) (by kernel_rfl) (by kernel_rfl) (fun _ _ _ h => h) (y_skip (by kernel_rfl)) hS ?_
      go_frame
      refine u_take 5 (some 28) (undef) rfl rfl (by kernel_rfl) (by kernel_rfl) (by kernel_rfl) (by kernel_rfl) (fun _ _ _ h => h) (y_skip (by kernel_rfl)) hS ?_
      go_frame
      refine u_take 6 (some 29) (.bool false) rfl rfl (by kernel_rfl) (by kernel_rfl) (by kernel_rfl) (by kernel_rfl) (fun _ _ _ h => h) (y_val (by kernel_rfl) (fun w' hS => by kernel_rfl)) hS ?_
      go_frame
      refine u_take 7 (some 30) (.agg (vwA V (.slice B' V.ents.length d'))) rfl rfl (by kernel_rfl) (by kernel_rfl) (by kernel_rfl) (by kernel_rfl) (fun _ _ _ h => h) (yieldsIf_load_mid (by kernel_rfl) 66 (.tmp 6) rfl g6 0 (by kernel_rfl) (vwA V (.slice B' V.ents.length d')).toList _ (fun w' hS => range11 hS.2.1) Try.underlying66 rfl (by kernel_rfl)) hS ?_
      go_frame
      refine u_take 8 (some 31) (.agg aa) rfl rfl (by kernel_rfl) (by kernel_rfl) (by kernel_rfl) (by kernel_rfl) (fun _ _ _ h => h) (by rw [HAA.out, HKB.out]; exact y_val (by kernel_rfl) (fun w' hS => by kernel_rfl)) hS ?_
      go_frame
      refine u_store 9 68 (.tmp 2) (.tmp 23) (w.heap.size + 1) 0 pv rfl rfl (by kernel_rfl) (by kernel_rfl) rfl (by kernel_rfl) (by kernel_rfl) (by rw [hps]; exact B1.out.drew.there7 rfl) (by rw [hps]; exact rpage_size) hpo ?_
      intro w5 hw5
      have hb5 := B1.out.drew.over7 pv.toList (by simp [hps])
      rw [← hw5] at hb5
      refine ⟨⟨BP.out.drew.fr hb5.2 (only_ne (by omega)), BV.out.drew.fr hb5.2 (only_ne (by omega)), BC.out.drew.fr hb5.2 (only_ne (by omega))⟩, ?_⟩
      refine u_store 10 91 (.tmp 3) (.tmp 31) (w.heap.size + 1 + 1) 0 aa rfl rfl (by kernel_rfl) (by kernel_rfl) rfl (by kernel_rfl) (by kernel_rfl) (by rw [has]; exact (B2.out.drew.fr hb5.2 (only_ne (by omega))).there7 rfl) (by rw [has]; exact rabove_size) hao ?_
      intro w6 hw6
      have hb6 := (B2.out.drew.fr hb5.2 (only_ne (by omega))).over7 aa.toList (by simp [has])
      rw [← hw6] at hb6
      refine ⟨⟨BP.out.drew.fr hb5.2 (only_ne (by omega)) |>.fr hb6.2 (only_ne (by omega)), BV.out.drew.fr hb5.2 (only_ne (by omega)) |>.fr hb6.2 (only_ne (by omega)), BC.out.drew.fr hb5.2 (only_ne (by omega)) |>.fr hb6.2 (only_ne (by omega))⟩, ?_⟩
      have Q5 := hid_ (hb5.1.fr hb6.2 (only_ne (by omega)))
      have Q6 := hid_ hb6.1
      have HPO := hid_ (HSTEP.out w5 hw5 w6 hw6)
      clear hb5 hb6 hw5 hw6 hS
      refine u_done (by kernel_rfl) ?_
      go_wp2_with fail
      refine bodyPost_ret (results_cell_cell7 _ _ rfl (w.heap.size + 1) 0 pv.toList _ rfl (range11 (by simpa using Q5.out)) Try.underlying68 rfl (by rw [Array.length_toList, hps]; exact rpage_size) (w.heap.size + 1 + 1) 0 aa.toList _ rfl (range11 (by simpa using Q6.out)) Try.underlying91 rfl (by rw [Array.length_toList, has]; exact rabove_size)) rfl ?_
      exact HPO.out
    | true =>
      have hS : (fun w' : World => Blk w' g4 68 pv ∧ Blk w' g6 66 (vwA V (.slice B' V.ents.length d')) ∧ Blk w' w.heap.size 75 (czA c)) w4.drew := ⟨BP.out.drew, BV.out.drew, BC.out.drew⟩
      refine wp_region_u 11 (fun w' : World => Blk w' g4 68 pv ∧ Blk w' g6 66 (vwA V (.slice B' V.ents.length d')) ∧ Blk w' w.heap.size 75 (czA c)) (by kernel_rfl) ?_
      refine u_take 0 (some 23) (.agg pv) rfl rfl (by kernel_rfl) (by kernel_rfl) (by kernel_rfl) (by kernel_rfl) (fun _ _ _ h => h) (yieldsIf_load_mid (by kernel_rfl) 68 (.tmp 4) rfl g4 0 (by kernel_rfl) pv.toList _ (fun w' hS => range11 hS.1) Try.underlying68 rfl (by rw [Array.length_toList, hps]; exact rpage_size)) hS ?_
      go_frame
      refine u_take 1 (some 24) (.pointer (some ⟨w.heap.size, 3, none⟩)) rfl rfl (by kernel_rfl) (by kernel_rfl) (by kernel_rfl) (by kernel_rfl) (fun _ _ _ h => h) (y_val (by kernel_rfl) (fun w' hS => by kernel_rfl)) hS ?_
      go_frame
      refine u_take 2 (some 25) (.bool true) rfl rfl (by kernel_rfl) (by kernel_rfl) (by kernel_rfl) (by kernel_rfl) (fun _ _ _ h => h) (y_cell 4 (.tmp 24) ⟨w.heap.size, 3, none⟩ _ (by kernel_rfl) rfl (by kernel_rfl) (fun w' hS => by have := hS.2.2.cell' (i := 3) (v := .bool c.some_) rfl; rw [← HCS.out] at this; exact this) Try.underlying4 rfl) hS ?_
      go_frame
      refine u_take 3 (some 26) (.bool true) rfl rfl (by kernel_rfl) (by kernel_rfl) (by kernel_rfl) (by kernel_rfl) (fun _ _ _ h => h) (y_val (by kernel_rfl) (fun w' hS => by kernel_rfl)) hS ?_
      go_frame
      refine u_take 4 (some 27) (.int .i64 10) rfl rfl (by kernel_rfl) (by kernel_rfl) (by kernel_rfl) (by kernel_rfl) (fun _ _ _ h => h) (y_val (by kernel_rfl) (fun w' hS => by kernel_rfl)) hS ?_
      go_frame
      refine u_take 5 (some 28) (.bool false) rfl rfl (by kernel_rfl) (by kernel_rfl) (by kernel_rfl) (by kernel_rfl) (fun _ _ _ h => h) (y_val (by kernel_rfl) (fun w' hS => by kernel_rfl)) hS ?_
      go_frame
      refine u_take 6 (some 29) (.bool false) rfl rfl (by kernel_rfl) (by kernel_rfl) (by kernel_rfl) (by kernel_rfl) (fun _ _ _ h => h) (y_val (by kernel_rfl) (fun w' hS => by kernel_rfl)) hS ?_
      go_frame
      refine u_take 7 (some 30) (.agg (vwA V (.slice B' V.ents.length d'))) rfl rfl (by kernel_rfl) (by kernel_rfl) (by kernel_rfl) (by kernel_rfl) (fun _ _ _ h => h) (yieldsIf_load_mid (by kernel_rfl) 66 (.tmp 6) rfl g6 0 (by kernel_rfl) (vwA V (.slice B' V.ents.length d')).toList _ (fun w' hS => range11 hS.2.1) Try.underlying66 rfl (by kernel_rfl)) hS ?_
      go_frame
      refine u_take 8 (some 31) (.agg aa) rfl rfl (by kernel_rfl) (by kernel_rfl) (by kernel_rfl) (by kernel_rfl) (fun _ _ _ h => h) (by rw [HAA.out, HKB.out]; exact y_val (by kernel_rfl) (fun w' hS => by kernel_rfl)) hS ?_
      go_frame
      refine u_store 9 68 (.tmp 2) (.tmp 23) (w.heap.size + 1) 0 pv rfl rfl (by kernel_rfl) (by kernel_rfl) rfl (by kernel_rfl) (by kernel_rfl) (by rw [hps]; exact B1.out.drew.there7 rfl) (by rw [hps]; exact rpage_size) hpo ?_
      intro w5 hw5
      have hb5 := B1.out.drew.over7 pv.toList (by simp [hps])
      rw [← hw5] at hb5
      refine ⟨⟨BP.out.drew.fr hb5.2 (only_ne (by omega)), BV.out.drew.fr hb5.2 (only_ne (by omega)), BC.out.drew.fr hb5.2 (only_ne (by omega))⟩, ?_⟩
      refine u_store 10 91 (.tmp 3) (.tmp 31) (w.heap.size + 1 + 1) 0 aa rfl rfl (by kernel_rfl) (by kernel_rfl) rfl (by kernel_rfl) (by kernel_rfl) (by rw [has]; exact (B2.out.drew.fr hb5.2 (only_ne (by omega))).there7 rfl) (by rw [has]; exact rabove_size) hao ?_
      intro w6 hw6
      have hb6 := (B2.out.drew.fr hb5.2 (only_ne (by omega))).over7 aa.toList (by simp [has])
      rw [← hw6] at hb6
      refine ⟨⟨BP.out.drew.fr hb5.2 (only_ne (by omega)) |>.fr hb6.2 (only_ne (by omega)), BV.out.drew.fr hb5.2 (only_ne (by omega)) |>.fr hb6.2 (only_ne (by omega)), BC.out.drew.fr hb5.2 (only_ne (by omega)) |>.fr hb6.2 (only_ne (by omega))⟩, ?_⟩
      have Q5 := hid_ (hb5.1.fr hb6.2 (only_ne (by omega)))
      have Q6 := hid_ hb6.1
      have HPO := hid_ (HSTEP.out w5 hw5 w6 hw6)
      clear hb5 hb6 hw5 hw6 hS
      refine u_done (by kernel_rfl) ?_
      go_wp2_with fail
      refine bodyPost_ret (results_cell_cell7 _ _ rfl (w.heap.size + 1) 0 pv.toList _ rfl (range11 (by simpa using Q5.out)) Try.underlying68 rfl (by rw [Array.length_toList, hps]; exact rpage_size) (w.heap.size + 1 + 1) 0 aa.toList _ rfl (range11 (by simpa using Q6.out)) Try.underlying91 rfl (by rw [Array.length_toList, has]; exact rabove_size)) rfl ?_
      exact HPO.out
end Go.Proofs.Ytpjbncbmdfmlpaa
namespace Go.Proofs.Ytpjbncbmdfmlpaa
open Go.RowKit Go.BigFrame
set_option maxRecDepth 100000
set_option linter.unusedVariables false

set_option maxHeartbeats 8000000 in
theorem made11_ok (c : Cz) (L1 L2 : List Ch) (w : World) (h : CzIn w c L1 L2) (hf : CzFew c L1 L2) : Calls Try.prog 30 #[.agg (czA c)] w (MadePost11 c L1 L2 w) := by
  obtain ⟨w0, hw0⟩ : ∃ z, z = ((w.alloc (.cells (czA c) 75)).alloc (.cells pgZ 45)).alloc (.cells azZ 77) := ⟨_, rfl⟩
  have f0 : Fr none_ w w0 := by rw [hw0]; exact (((Fr.refl none_ w).alloc _).alloc _).alloc _
  have BC : Hid (Blk w0 w.heap.size 75 (czA c)) := hid_ (by rw [hw0]; exact ((Blk.new w _ _).alloc _).alloc _)
  have B2 : Hid (Blk w0 (w.heap.size + 1) 45 pgZ) := hid_ (by rw [hw0]; exact (Blk.new7 _ _ (by simp)).alloc _)
  have B3 : Hid (Blk w0 (w.heap.size + 1 + 1) 77 azZ) := hid_ (by rw [hw0]; exact Blk.new7 _ _ (by simp))
  have F := hid_ f0
  have H := hid_ (h.keep f0)
  have HF := hid_ hf
  have hso := B3.out.lt
  have hn1 : c.n1 ≤ 40 := by have := h.i1.1; have := hf.a.1; omega
  have hn2 : c.n2 ≤ 40 := by have := h.i2.1; have := hf.c.1; omega
  clear f0 h hf
  go_enter Try.func30, Try.ntmps30
  go_upto_region 1 with fail
  change Code.wp _ _ _ _ (((w.alloc (.cells (czA c) 75)).alloc (.cells pgZ 45)).alloc (.cells azZ 77))
  rw [← hw0]
  clear hw0
  have v0 : w0.cell? ⟨w.heap.size, 0, none⟩ = some (.int .i64 c.n) := BC.out.cell' rfl
  have v1 : w0.cell? ⟨w.heap.size, 1, none⟩ = some (.slice c.A1 c.n1 c.c1) := BC.out.cell' rfl
  go_wp2_with fail
  refine (of_ok c.n 1 1 c.A1 c.n1 c.c1 L1 [] none 0 w0 (H.out.i1.few (few_ents HF.out.b)) (by omega) (few_rows HF.out.a H.out.r1) (fun C hC => by have := few_ents HF.out.b C hC; omega) Reads.nil_ (by simp)).mono ?_
  rintro e w1 (⟨leaf, lv, iv, A, cc, B, d, C, x, D, y, hof, rfl, hpg, hf1⟩ | ⟨q, hq, hof, rfl, hf1⟩)
  · have HOF := hid_ hof
    have VI1 := hid_ hpg.iv
    have LI1 := hid_ hpg.lv
    obtain ⟨P, hP⟩ : ∃ P : Pz, P = ⟨c.n, 1, 1, C, L1.length, x, .slice D 0 y, leaf, lv, A, cc, iv, B, d⟩ := ⟨_, rfl⟩
    have HPE := hid_ hP
    have HALL : Hid ((pzA P).all (·.oneCell') = true) := hid_ (by rw [hP]; simp [Value.oneCell'])
    have POK : Hid (∀ w', Fr none_ w1 w' → PzOk w' P) := hid_ (fun w' hf => by rw [hP]; exact ⟨LI1.out.ok.low, LI1.out.ok.high, LI1.out.ok.rows.1, VI1.out.keep hf, by have := HF.out.a.1; show L1.length ≤ 4000; omega⟩)
    clear hof hpg hP
    replace F := hid_ (F.out.then_none hf1)
    replace BC := hid_ (BC.out.fr hf1 id)
    replace B2 := hid_ (B2.out.fr hf1 id)
    replace B3 := hid_ (B3.out.fr hf1 id)
    replace H := hid_ (H.out.keep hf1)
    have hsq1 := B3.out.lt
    clear hf1 v0 v1
    go_upto_region 2 with (refine wpList_store_mid rfl 45 (.tmp 5) (.tmp 16) rfl w1.heap.size 0 (pzA P) rfl (by rw [HPE.out]; rfl) (new_there w1 _ pgZ) page_size HALL.out ?_; obtain ⟨w2, hw2⟩ : ∃ z, z = (w1.alloc (.cells pgZ 45)).setCells w1.heap.size 0 (pzA P).toList := ⟨_, rfl⟩; change wpList _ _ _ _ _ ((w1.alloc (.cells pgZ 45)).setCells w1.heap.size 0 (pzA P).toList); rw [← hw2]; have P2 : Hid (Blk w2 w1.heap.size 45 (pzA P) ∧ Fr none_ w1 w2) := hid_ (by rw [hw2]; exact new_copy w1 _ pgZ (pzA P).toList rfl); clear hw2)
    have F12 := hid_ P2.out.2
    replace F := hid_ (F.out.then_none P2.out.2)
    replace BC := hid_ (BC.out.fr P2.out.2 id)
    replace B2 := hid_ (B2.out.fr P2.out.2 id)
    replace B3 := hid_ (B3.out.fr P2.out.2 id)
    replace H := hid_ (H.out.keep P2.out.2)
    have hs2 := P2.out.1.lt
    have v2 : w2.cell? ⟨w.heap.size, 2, none⟩ = some (.slice c.A2 c.n2 c.c2) := BC.out.cell' rfl
    go_wp2_with fail
    refine (fold_ok c.A2 c.n2 c.c2 L2 w2 (H.out.i2.few (few_ents HF.out.d)) (by omega) (fun C hC => by have := few_ents HF.out.d C hC; omega)).mono ?_
    rintro e w3 (⟨V, B', d', hkd, hfo, rfl, hvin, hheld, hf3⟩ | ⟨q2, hq2, hno, rfl, hf3⟩)
    · have BP := hid_ (P2.out.1.fr hf3 id)
      have F13 := hid_ (F12.out.then_none hf3)
      have VI := hid_ hvin
      have HFO := hid_ hfo
      replace F := hid_ (F.out.then_none hf3)
      replace BC := hid_ (BC.out.fr hf3 id)
      replace B2 := hid_ (B2.out.fr hf3 id)
      replace B3 := hid_ (B3.out.fr hf3 id)
      replace H := hid_ (H.out.keep hf3)
      have hsq3 := B3.out.lt
      clear v2 hf3 hkd hfo hvin hheld
      go_upto_region 3 with (refine wpList_store_mid rfl 43 (.tmp 7) (.tmp 22) rfl w3.heap.size 0 (vwA V (.slice B' V.ents.length d')) rfl rfl (new_there w3 _ vwZ) view_size7 (by simp [Value.oneCell']) ?_; obtain ⟨w4, hw4⟩ : ∃ z, z = (w3.alloc (.cells vwZ 43)).setCells w3.heap.size 0 (vwA V (.slice B' V.ents.length d')).toList := ⟨_, rfl⟩; change wpList _ _ _ _ _ ((w3.alloc (.cells vwZ 43)).setCells w3.heap.size 0 (vwA V (.slice B' V.ents.length d')).toList); rw [← hw4]; have P4 : Hid (Blk w4 w3.heap.size 43 (vwA V (.slice B' V.ents.length d')) ∧ Fr none_ w3 w4) := hid_ (by rw [hw4]; exact new_copy w3 _ vwZ (vwA V (.slice B' V.ents.length d')).toList rfl); clear hw4)
      replace F := hid_ (F.out.then_none P4.out.2)
      replace BC := hid_ (BC.out.fr P4.out.2 id)
      replace B2 := hid_ (B2.out.fr P4.out.2 id)
      replace B3 := hid_ (B3.out.fr P4.out.2 id)
      replace H := hid_ (H.out.keep P4.out.2)
      have F14 := hid_ (F13.out.then_none P4.out.2)
      replace BP := hid_ (BP.out.fr P4.out.2 id)
      have hs4 := P4.out.1.lt
      have hso4 := B3.out.lt
      cases hsm : c.some_ with
      | false =>
        have HSM := hid_ hsm
        clear hsm
        have hS0 : (fun w' : World => (Blk w' w1.heap.size 45 (pzA P) ∧ Blk w' w3.heap.size 43 (vwA V (.slice B' V.ents.length d')) ∧ Blk w' w.heap.size 75 (czA c)) ∧ Fr none_ w w') w4.drew := ⟨⟨BP.out.drew, P4.out.1.drew, BC.out.drew⟩, F.out.drew⟩
        refine wp_region_U (m := 14) (S := fun w' : World => (Blk w' w1.heap.size 45 (pzA P) ∧ Blk w' w3.heap.size 43 (vwA V (.slice B' V.ents.length d')) ∧ Blk w' w.heap.size 75 (czA c)) ∧ Fr none_ w w') (by kernel_rfl) ?_
        refine wpAnyU_take2 (i := 0) (v := _) rfl (by kernel_rfl) (by kernel_rfl) (by kernel_rfl) (by kernel_rfl) (fun _ _ _ h => h) (yieldsIf_load_mid (by kernel_rfl) 45 (.tmp 5) rfl w1.heap.size 0 rfl (pzA P).toList _ (fun w' hS i v hv => Blk.range7 (l := (pzA P).toList) hS.1.1 i v hv) Try.underlying45 rfl page_size) hS0 ?_
        refine wpAnyU_take2 (i := 7) (v := _) rfl (by kernel_rfl) (by kernel_rfl) (by kernel_rfl) (by kernel_rfl) (fun _ _ _ h => h) (yieldsIf_load_mid (by kernel_rfl) 43 (.tmp 7) rfl w3.heap.size 0 (by kernel_rfl) ((vwA V (.slice B' V.ents.length d')) : Array Value).toList _ (fun w' hS i v hv => Blk.range7 (l := ((vwA V (.slice B' V.ents.length d')) : Array Value).toList) hS.1.2.1 i v hv) Try.underlying43 rfl view_size7) hS0 ?_
        refine wpAnyU_take2 (i := 1) (v := .pointer (some ⟨w.heap.size, 3, none⟩)) rfl (by kernel_rfl) (by kernel_rfl) (by kernel_rfl) (by kernel_rfl) (fun _ _ _ h => h) (.inl ⟨by kernel_rfl, fun w' hS => by kernel_rfl⟩) hS0 ?_
        refine wpAnyU_take2 (i := 2) (v := .bool false) rfl (by kernel_rfl) (by kernel_rfl) (by kernel_rfl) (by kernel_rfl) (fun _ _ _ h => h) (.inl ⟨by kernel_rfl, fun w' hS => by have s_ : w'.cell? ⟨w.heap.size, 3, none⟩ = some (.bool false) := (by rw [← HSM.out]; exact hS.1.2.2.cell' rfl); clear hS; go_simp⟩) hS0 ?_
        refine wpAnyU_take2 (i := 3) (v := .bool false) rfl (by kernel_rfl) (by kernel_rfl) (by kernel_rfl) (by kernel_rfl) (fun _ _ _ h => h) (.inl ⟨by kernel_rfl, fun w' hS => by kernel_rfl⟩) hS0 ?_
        refine wpAnyU_take2 (i := 4) (v := undef) rfl (by kernel_rfl) (by kernel_rfl) (by kernel_rfl) (by kernel_rfl) (fun _ _ _ h => h) (.inr ⟨by kernel_rfl, rfl⟩) hS0 ?_
        refine wpAnyU_take2 (i := 5) (v := undef) rfl (by kernel_rfl) (by kernel_rfl) (by kernel_rfl) (by kernel_rfl) (fun _ _ _ h => h) (.inr ⟨by kernel_rfl, rfl⟩) hS0 ?_
        refine wpAnyU_take2 (i := 6) (v := .bool false) rfl (by kernel_rfl) (by kernel_rfl) (by kernel_rfl) (by kernel_rfl) (fun _ _ _ h => h) (.inl ⟨by kernel_rfl, fun w' hS => by kernel_rfl⟩) hS0 ?_
        refine wpAnyU_take2 (i := 8) (v := .agg (azA (⟨false, 1, 0, 0, V, B', d'⟩ : Az))) rfl (by kernel_rfl) (by kernel_rfl) (by kernel_rfl) (by kernel_rfl) (fun _ _ _ h => h) (.inl ⟨by kernel_rfl, fun w' hS => by kernel_rfl⟩) hS0 ?_
        refine wpAnyU_take2 (i := 9) (v := .nilIface) rfl (by kernel_rfl) (by kernel_rfl) (by kernel_rfl) (by kernel_rfl) (fun _ _ _ h => h) (.inl ⟨by kernel_rfl, fun w' hS => by kernel_rfl⟩) hS0 ?_
        refine wpAnyU_take2 (i := 10) (v := .bool true) rfl (by kernel_rfl) (by kernel_rfl) (by kernel_rfl) (by kernel_rfl) (fun _ _ _ h => h) (.inl ⟨by kernel_rfl, fun w' hS => by kernel_rfl⟩) hS0 ?_
        clear hS0
        refine wpAnyU_name7 ?_
        intro a_ ha
        have HA := hid_ ha
        clear ha
        refine wpAnyU_one7 (i := 11) rfl rfl (by kernel_rfl) ?_
        refine wp_store_mid 45 (.tmp 2) (.tmp 24) rfl (w.heap.size + 1) 0 (pzA P) (by rw [HA.out]; kernel_rfl) (by rw [HA.out]; kernel_rfl) (B2.out.drew.there7 rfl) page_size HALL.out ?_
        have ov := B2.out.drew.over7 (pzA P).toList rfl
        obtain ⟨w5, hw5⟩ : ∃ z, z = w4.drew.setCells (w.heap.size + 1) 0 (pzA P).toList := ⟨_, rfl⟩
        rw [← hw5] at ov ⊢
        clear hw5
        have OV := hid_ ov
        clear ov
        have S5 := hid_ (And.intro (And.intro (BP.out.drew.fr OV.out.2 (only_ne (by omega))) (And.intro (P4.out.1.drew.fr OV.out.2 (only_ne (by omega))) (BC.out.drew.fr OV.out.2 (only_ne (by omega))))) (F.out.drew.then_only OV.out.2 (.inr (by omega))))
        have C5 := hid_ (B3.out.drew.fr OV.out.2 (only_ne (by omega)))
        refine ⟨.inr S5.out, ?_⟩
        refine wpAnyU_one7 (i := 12) rfl rfl (by kernel_rfl) ?_
        refine wp_store_mid 77 (.tmp 3) (.tmp 32) rfl (w.heap.size + 1 + 1) 0 (azA (⟨false, 1, 0, 0, V, B', d'⟩ : Az)) (by rw [HA.out]; kernel_rfl) (by rw [HA.out]; kernel_rfl) (C5.out.there7 rfl) above_size7 (by simp [Value.oneCell']) ?_
        have ov := C5.out.over7 (azA (⟨false, 1, 0, 0, V, B', d'⟩ : Az)).toList rfl
        obtain ⟨w6, hw6⟩ : ∃ z, z = w5.setCells (w.heap.size + 1 + 1) 0 (azA (⟨false, 1, 0, 0, V, B', d'⟩ : Az)).toList := ⟨_, rfl⟩
        rw [← hw6] at ov ⊢
        clear hw6
        have OW := hid_ ov
        clear ov
        have S6 := hid_ (And.intro (And.intro (S5.out.1.1.fr OW.out.2 (only_ne (by omega))) (And.intro (S5.out.1.2.1.fr OW.out.2 (only_ne (by omega))) (S5.out.1.2.2.fr OW.out.2 (only_ne (by omega))))) (S5.out.2.then_only OW.out.2 (.inr (by omega))))
        have D6 := hid_ (OV.out.1.fr OW.out.2 (only_ne (by omega)))
        refine ⟨.inr S6.out, ?_⟩
        refine wpAnyU_take2 (i := 13) (v := .bool true) rfl (by kernel_rfl) (by kernel_rfl) (by kernel_rfl) (by kernel_rfl) (fun _ _ _ h => h) (.inl ⟨rfl, fun w' hS => by rw [HA.out]; kernel_rfl⟩) S6.out ?_
        refine wpAnyU_name7 ?_
        intro b_ hb
        have HB := hid_ hb
        clear hb
        have Q2 : b_.tmps.getD 2 undef = .pointer (some ⟨w.heap.size + 1, 0, none⟩) := by rw [HB.out, HA.out]; kernel_rfl
        have Q3 : b_.tmps.getD 3 undef = .pointer (some ⟨w.heap.size + 1 + 1, 0, none⟩) := by rw [HB.out, HA.out]; kernel_rfl
        have Q4 : b_.tmps.getD 4 undef = .bool true := by rw [HB.out, HA.out]; kernel_rfl
        have QD : b_.defers = [] := by rw [HB.out, HA.out]; kernel_rfl
        clear HA HB
        refine wpAnyU_done (by kernel_rfl) ?_ _
        go_wp2
        refine bodyPost_ret (results_cell_cell_tmp7 b_.tmps w6 rfl (w.heap.size + 1) 0 (pzA P).toList _ Q2 (Blk.range7 (l := (pzA P).toList) D6.out) Try.underlying45 rfl page_size (w.heap.size + 1 + 1) 0 (azA (⟨false, 1, 0, 0, V, B', d'⟩ : Az)).toList _ Q3 (Blk.range7 (l := (azA (⟨false, 1, 0, 0, V, B', d'⟩ : Az)).toList) OW.out.1) Try.underlying77 rfl above_size7) QD ⟨pzA P, (⟨false, 1, 0, 0, V, B', d'⟩ : Az), true, (by rw [Q4]), rfl, HALL.out, ?_, (fun h => by cases h), S6.out.2, ?_⟩
        · exact (((VI.out.keep P4.out.2).keep (Fr.refl none_ w4).drew).farZ B2.out.drew OV.out.2).farA C5.out OW.out.2
        · exact fun _ => ⟨P, rfl, (by have h4 := POK.out w4.drew F14.out.drew; exact ⟨h4.low, h4.high, h4.rows, (h4.iv.farZ B2.out.drew OV.out.2).farA C5.out OW.out.2, h4.nc⟩), by rw [HPE.out], by rw [HPE.out], by rw [HPE.out]; exact HOF.out⟩
      | true =>
        have HSM := hid_ hsm
        clear hsm
        have hS0 : (fun w' : World => (Blk w' w1.heap.size 45 (pzA P) ∧ Blk w' w3.heap.size 43 (vwA V (.slice B' V.ents.length d')) ∧ Blk w' w.heap.size 75 (czA c)) ∧ Fr none_ w w') w4.drew := ⟨⟨BP.out.drew, P4.out.1.drew, BC.out.drew⟩, F.out.drew⟩
        refine wp_region_U (m := 14) (S := fun w' : World => (Blk w' w1.heap.size 45 (pzA P) ∧ Blk w' w3.heap.size 43 (vwA V (.slice B' V.ents.length d')) ∧ Blk w' w.heap.size 75 (czA c)) ∧ Fr none_ w w') (by kernel_rfl) ?_
        refine wpAnyU_take2 (i := 0) (v := _) rfl (by kernel_rfl) (by kernel_rfl) (by kernel_rfl) (by kernel_rfl) (fun _ _ _ h => h) (yieldsIf_load_mid (by kernel_rfl) 45 (.tmp 5) rfl w1.heap.size 0 rfl (pzA P).toList _ (fun w' hS i v hv => Blk.range7 (l := (pzA P).toList) hS.1.1 i v hv) Try.underlying45 rfl page_size) hS0 ?_
        refine wpAnyU_take2 (i := 7) (v := _) rfl (by kernel_rfl) (by kernel_rfl) (by kernel_rfl) (by kernel_rfl) (fun _ _ _ h => h) (yieldsIf_load_mid (by kernel_rfl) 43 (.tmp 7) rfl w3.heap.size 0 (by kernel_rfl) ((vwA V (.slice B' V.ents.length d')) : Array Value).toList _ (fun w' hS i v hv => Blk.range7 (l := ((vwA V (.slice B' V.ents.length d')) : Array Value).toList) hS.1.2.1 i v hv) Try.underlying43 rfl view_size7) hS0 ?_
        refine wpAnyU_take2 (i := 1) (v := .pointer (some ⟨w.heap.size, 3, none⟩)) rfl (by kernel_rfl) (by kernel_rfl) (by kernel_rfl) (by kernel_rfl) (fun _ _ _ h => h) (.inl ⟨by kernel_rfl, fun w' hS => by kernel_rfl⟩) hS0 ?_
        refine wpAnyU_take2 (i := 2) (v := .bool true) rfl (by kernel_rfl) (by kernel_rfl) (by kernel_rfl) (by kernel_rfl) (fun _ _ _ h => h) (.inl ⟨by kernel_rfl, fun w' hS => by have s_ : w'.cell? ⟨w.heap.size, 3, none⟩ = some (.bool true) := (by rw [← HSM.out]; exact hS.1.2.2.cell' rfl); clear hS; go_simp⟩) hS0 ?_
        refine wpAnyU_take2 (i := 3) (v := .bool true) rfl (by kernel_rfl) (by kernel_rfl) (by kernel_rfl) (by kernel_rfl) (fun _ _ _ h => h) (.inl ⟨by kernel_rfl, fun w' hS => by kernel_rfl⟩) hS0 ?_
        refine wpAnyU_take2 (i := 4) (v := .nilIface) rfl (by kernel_rfl) (by kernel_rfl) (by kernel_rfl) (by kernel_rfl) (fun _ _ _ h => h) (.inl ⟨by kernel_rfl, fun w' hS => by kernel_rfl⟩) hS0 ?_
        refine wpAnyU_take2 (i := 5) (v := .bool true) rfl (by kernel_rfl) (by kernel_rfl) (by kernel_rfl) (by kernel_rfl) (fun _ _ _ h => h) (.inl ⟨by kernel_rfl, fun w' hS => by kernel_rfl⟩) hS0 ?_
        refine wpAnyU_take2 (i := 6) (v := .bool true) rfl (by kernel_rfl) (by kernel_rfl) (by kernel_rfl) (by kernel_rfl) (fun _ _ _ h => h) (.inl ⟨by kernel_rfl, fun w' hS => by kernel_rfl⟩) hS0 ?_
        refine wpAnyU_take2 (i := 8) (v := .agg (azA (⟨true, 1, 0, 0, V, B', d'⟩ : Az))) rfl (by kernel_rfl) (by kernel_rfl) (by kernel_rfl) (by kernel_rfl) (fun _ _ _ h => h) (.inl ⟨by kernel_rfl, fun w' hS => by kernel_rfl⟩) hS0 ?_
        refine wpAnyU_take2 (i := 9) (v := .nilIface) rfl (by kernel_rfl) (by kernel_rfl) (by kernel_rfl) (by kernel_rfl) (fun _ _ _ h => h) (.inl ⟨by kernel_rfl, fun w' hS => by kernel_rfl⟩) hS0 ?_
        refine wpAnyU_take2 (i := 10) (v := .bool true) rfl (by kernel_rfl) (by kernel_rfl) (by kernel_rfl) (by kernel_rfl) (fun _ _ _ h => h) (.inl ⟨by kernel_rfl, fun w' hS => by kernel_rfl⟩) hS0 ?_
        clear hS0
        refine wpAnyU_name7 ?_
        intro a_ ha
        have HA := hid_ ha
        clear ha
        refine wpAnyU_one7 (i := 11) rfl rfl (by kernel_rfl) ?_
        refine wp_store_mid 45 (.tmp 2) (.tmp 24) rfl (w.heap.size + 1) 0 (pzA P) (by rw [HA.out]; kernel_rfl) (by rw [HA.out]; kernel_rfl) (B2.out.drew.there7 rfl) page_size HALL.out ?_
        have ov := B2.out.drew.over7 (pzA P).toList rfl
        obtain ⟨w5, hw5⟩ : ∃ z, z = w4.drew.setCells (w.heap.size + 1) 0 (pzA P).toList := ⟨_, rfl⟩
        rw [← hw5] at ov ⊢
        clear hw5
        have OV := hid_ ov
        clear ov
        have S5 := hid_ (And.intro (And.intro (BP.out.drew.fr OV.out.2 (only_ne (by omega))) (And.intro (P4.out.1.drew.fr OV.out.2 (only_ne (by omega))) (BC.out.drew.fr OV.out.2 (only_ne (by omega))))) (F.out.drew.then_only OV.out.2 (.inr (by omega))))
        have C5 := hid_ (B3.out.drew.fr OV.out.2 (only_ne (by omega)))
        refine ⟨.inr S5.out, ?_⟩
        refine wpAnyU_one7 (i := 12) rfl rfl (by kernel_rfl) ?_
        refine wp_store_mid 77 (.tmp 3) (.tmp 32) rfl (w.heap.size + 1 + 1) 0 (azA (⟨true, 1, 0, 0, V, B', d'⟩ : Az)) (by rw [HA.out]; kernel_rfl) (by rw [HA.out]; kernel_rfl) (C5.out.there7 rfl) above_size7 (by simp [Value.oneCell']) ?_
        have ov := C5.out.over7 (azA (⟨true, 1, 0, 0, V, B', d'⟩ : Az)).toList rfl
        obtain ⟨w6, hw6⟩ : ∃ z, z = w5.setCells (w.heap.size + 1 + 1) 0 (azA (⟨true, 1, 0, 0, V, B', d'⟩ : Az)).toList := ⟨_, rfl⟩
        rw [← hw6] at ov ⊢
        clear hw6
        have OW := hid_ ov
        clear ov
        have S6 := hid_ (And.intro (And.intro (S5.out.1.1.fr OW.out.2 (only_ne (by omega))) (And.intro (S5.out.1.2.1.fr OW.out.2 (only_ne (by omega))) (S5.out.1.2.2.fr OW.out.2 (only_ne (by omega))))) (S5.out.2.then_only OW.out.2 (.inr (by omega))))
        have D6 := hid_ (OV.out.1.fr OW.out.2 (only_ne (by omega)))
        refine ⟨.inr S6.out, ?_⟩
        refine wpAnyU_take2 (i := 13) (v := .bool true) rfl (by kernel_rfl) (by kernel_rfl) (by kernel_rfl) (by kernel_rfl) (fun _ _ _ h => h) (.inl ⟨rfl, fun w' hS => by rw [HA.out]; kernel_rfl⟩) S6.out ?_
        refine wpAnyU_name7 ?_
        intro b_ hb
        have HB := hid_ hb
        clear hb
        have Q2 : b_.tmps.getD 2 undef = .pointer (some ⟨w.heap.size + 1, 0, none⟩) := by rw [HB.out, HA.out]; kernel_rfl
        have Q3 : b_.tmps.getD 3 undef = .pointer (some ⟨w.heap.size + 1 + 1, 0, none⟩) := by rw [HB.out, HA.out]; kernel_rfl
        have Q4 : b_.tmps.getD 4 undef = .bool true := by rw [HB.out, HA.out]; kernel_rfl
        have QD : b_.defers = [] := by rw [HB.out, HA.out]; kernel_rfl
        clear HA HB
        refine wpAnyU_done (by kernel_rfl) ?_ _
        go_wp2
        refine bodyPost_ret (results_cell_cell_tmp7 b_.tmps w6 rfl (w.heap.size + 1) 0 (pzA P).toList _ Q2 (Blk.range7 (l := (pzA P).toList) D6.out) Try.underlying45 rfl page_size (w.heap.size + 1 + 1) 0 (azA (⟨true, 1, 0, 0, V, B', d'⟩ : Az)).toList _ Q3 (Blk.range7 (l := (azA (⟨true, 1, 0, 0, V, B', d'⟩ : Az)).toList) OW.out.1) Try.underlying77 rfl above_size7) QD ⟨pzA P, (⟨true, 1, 0, 0, V, B', d'⟩ : Az), true, (by rw [Q4]), rfl, HALL.out, ?_, (fun _ => HFO.out), S6.out.2, ?_⟩
        · exact (((VI.out.keep P4.out.2).keep (Fr.refl none_ w4).drew).farZ B2.out.drew OV.out.2).farA C5.out OW.out.2
        · exact fun _ => ⟨P, rfl, (by have h4 := POK.out w4.drew F14.out.drew; exact ⟨h4.low, h4.high, h4.rows, (h4.iv.farZ B2.out.drew OV.out.2).farA C5.out OW.out.2, h4.nc⟩), by rw [HPE.out], by rw [HPE.out], by rw [HPE.out]; exact HOF.out⟩
    · have BP := hid_ (P2.out.1.fr hf3 id)
      have F13 := hid_ (F12.out.then_none hf3)
      replace F := hid_ (F.out.then_none hf3)
      replace BC := hid_ (BC.out.fr hf3 id)
      replace B2 := hid_ (B2.out.fr hf3 id)
      replace B3 := hid_ (B3.out.fr hf3 id)
      replace H := hid_ (H.out.keep hf3)
      have hsq3 := B3.out.lt
      clear v2 hf3 hq2 hno
      go_upto_region 3 with (refine wpList_store_mid rfl 43 (.tmp 7) (.tmp 22) rfl w3.heap.size 0 (vwA Vw.zero (.slice none 0 0)) rfl rfl (new_there w3 _ vwZ) view_size7 (by simp [Value.oneCell']) ?_; obtain ⟨w4, hw4⟩ : ∃ z, z = (w3.alloc (.cells vwZ 43)).setCells w3.heap.size 0 (vwA Vw.zero (.slice none 0 0)).toList := ⟨_, rfl⟩; change wpList _ _ _ _ _ ((w3.alloc (.cells vwZ 43)).setCells w3.heap.size 0 (vwA Vw.zero (.slice none 0 0)).toList); rw [← hw4]; have P4 : Hid (Blk w4 w3.heap.size 43 (vwA Vw.zero (.slice none 0 0)) ∧ Fr none_ w3 w4) := hid_ (by rw [hw4]; exact new_copy w3 _ vwZ (vwA Vw.zero (.slice none 0 0)).toList rfl); clear hw4)
      replace F := hid_ (F.out.then_none P4.out.2)
      replace BC := hid_ (BC.out.fr P4.out.2 id)
      replace B2 := hid_ (B2.out.fr P4.out.2 id)
      replace B3 := hid_ (B3.out.fr P4.out.2 id)
      replace H := hid_ (H.out.keep P4.out.2)
      have F14 := hid_ (F13.out.then_none P4.out.2)
      replace BP := hid_ (BP.out.fr P4.out.2 id)
      have hs4 := P4.out.1.lt
      have hso4 := B3.out.lt
      cases hsm : c.some_ with
      | false =>
        have HSM := hid_ hsm
        clear hsm
        have hS0 : (fun w' : World => (Blk w' w1.heap.size 45 (pzA P) ∧ Blk w' w3.heap.size 43 (vwA Vw.zero (.slice none 0 0)) ∧ Blk w' w.heap.size 75 (czA c)) ∧ Fr none_ w w') w4.drew := ⟨⟨BP.out.drew, P4.out.1.drew, BC.out.drew⟩, F.out.drew⟩
        refine wp_region_U (m := 14) (S := fun w' : World => (Blk w' w1.heap.size 45 (pzA P) ∧ Blk w' w3.heap.size 43 (vwA Vw.zero (.slice none 0 0)) ∧ Blk w' w.heap.size 75 (czA c)) ∧ Fr none_ w w') (by kernel_rfl) ?_
        refine wpAnyU_take2 (i := 0) (v := _) rfl (by kernel_rfl) (by kernel_rfl) (by kernel_rfl) (by kernel_rfl) (fun _ _ _ h => h) (yieldsIf_load_mid (by kernel_rfl) 45 (.tmp 5) rfl w1.heap.size 0 rfl (pzA P).toList _ (fun w' hS i v hv => Blk.range7 (l := (pzA P).toList) hS.1.1 i v hv) Try.underlying45 rfl page_size) hS0 ?_
        refine wpAnyU_take2 (i := 7) (v := _) rfl (by kernel_rfl) (by kernel_rfl) (by kernel_rfl) (by kernel_rfl) (fun _ _ _ h => h) (yieldsIf_load_mid (by kernel_rfl) 43 (.tmp 7) rfl w3.heap.size 0 (by kernel_rfl) ((vwA Vw.zero (.slice none 0 0)) : Array Value).toList _ (fun w' hS i v hv => Blk.range7 (l := ((vwA Vw.zero (.slice none 0 0)) : Array Value).toList) hS.1.2.1 i v hv) Try.underlying43 rfl view_size7) hS0 ?_
        refine wpAnyU_take2 (i := 1) (v := .pointer (some ⟨w.heap.size, 3, none⟩)) rfl (by kernel_rfl) (by kernel_rfl) (by kernel_rfl) (by kernel_rfl) (fun _ _ _ h => h) (.inl ⟨by kernel_rfl, fun w' hS => by kernel_rfl⟩) hS0 ?_
        refine wpAnyU_take2 (i := 2) (v := .bool false) rfl (by kernel_rfl) (by kernel_rfl) (by kernel_rfl) (by kernel_rfl) (fun _ _ _ h => h) (.inl ⟨by kernel_rfl, fun w' hS => by have s_ : w'.cell? ⟨w.heap.size, 3, none⟩ = some (.bool false) := (by rw [← HSM.out]; exact hS.1.2.2.cell' rfl); clear hS; go_simp⟩) hS0 ?_
        refine wpAnyU_take2 (i := 3) (v := .bool false) rfl (by kernel_rfl) (by kernel_rfl) (by kernel_rfl) (by kernel_rfl) (fun _ _ _ h => h) (.inl ⟨by kernel_rfl, fun w' hS => by kernel_rfl⟩) hS0 ?_
        refine wpAnyU_take2 (i := 4) (v := undef) rfl (by kernel_rfl) (by kernel_rfl) (by kernel_rfl) (by kernel_rfl) (fun _ _ _ h => h) (.inr ⟨by kernel_rfl, rfl⟩) hS0 ?_
        refine wpAnyU_take2 (i := 5) (v := undef) rfl (by kernel_rfl) (by kernel_rfl) (by kernel_rfl) (by kernel_rfl) (fun _ _ _ h => h) (.inr ⟨by kernel_rfl, rfl⟩) hS0 ?_
        refine wpAnyU_take2 (i := 6) (v := .bool false) rfl (by kernel_rfl) (by kernel_rfl) (by kernel_rfl) (by kernel_rfl) (fun _ _ _ h => h) (.inl ⟨by kernel_rfl, fun w' hS => by kernel_rfl⟩) hS0 ?_
        refine wpAnyU_take2 (i := 8) (v := .agg (azA (⟨false, 1, 0, 0, Vw.zero, none, 0⟩ : Az))) rfl (by kernel_rfl) (by kernel_rfl) (by kernel_rfl) (by kernel_rfl) (fun _ _ _ h => h) (.inl ⟨by kernel_rfl, fun w' hS => by kernel_rfl⟩) hS0 ?_
        refine wpAnyU_take2 (i := 9) (v := .nilIface) rfl (by kernel_rfl) (by kernel_rfl) (by kernel_rfl) (by kernel_rfl) (fun _ _ _ h => h) (.inl ⟨by kernel_rfl, fun w' hS => by kernel_rfl⟩) hS0 ?_
        refine wpAnyU_take2 (i := 10) (v := .bool true) rfl (by kernel_rfl) (by kernel_rfl) (by kernel_rfl) (by kernel_rfl) (fun _ _ _ h => h) (.inl ⟨by kernel_rfl, fun w' hS => by kernel_rfl⟩) hS0 ?_
        clear hS0
        refine wpAnyU_name7 ?_
        intro a_ ha
        have HA := hid_ ha
        clear ha
        refine wpAnyU_one7 (i := 11) rfl rfl (by kernel_rfl) ?_
        refine wp_store_mid 45 (.tmp 2) (.tmp 24) rfl (w.heap.size + 1) 0 (pzA P) (by rw [HA.out]; kernel_rfl) (by rw [HA.out]; kernel_rfl) (B2.out.drew.there7 rfl) page_size HALL.out ?_
        have ov := B2.out.drew.over7 (pzA P).toList rfl
        obtain ⟨w5, hw5⟩ : ∃ z, z = w4.drew.setCells (w.heap.size + 1) 0 (pzA P).toList := ⟨_, rfl⟩
        rw [← hw5] at ov ⊢
        clear hw5
        have OV := hid_ ov
        clear ov
        have S5 := hid_ (And.intro (And.intro (BP.out.drew.fr OV.out.2 (only_ne (by omega))) (And.intro (P4.out.1.drew.fr OV.out.2 (only_ne (by omega))) (BC.out.drew.fr OV.out.2 (only_ne (by omega))))) (F.out.drew.then_only OV.out.2 (.inr (by omega))))
        have C5 := hid_ (B3.out.drew.fr OV.out.2 (only_ne (by omega)))
        refine ⟨.inr S5.out, ?_⟩
        refine wpAnyU_one7 (i := 12) rfl rfl (by kernel_rfl) ?_
        refine wp_store_mid 77 (.tmp 3) (.tmp 32) rfl (w.heap.size + 1 + 1) 0 (azA (⟨false, 1, 0, 0, Vw.zero, none, 0⟩ : Az)) (by rw [HA.out]; kernel_rfl) (by rw [HA.out]; kernel_rfl) (C5.out.there7 rfl) above_size7 (by simp [Value.oneCell']) ?_
        have ov := C5.out.over7 (azA (⟨false, 1, 0, 0, Vw.zero, none, 0⟩ : Az)).toList rfl
        obtain ⟨w6, hw6⟩ : ∃ z, z = w5.setCells (w.heap.size + 1 + 1) 0 (azA (⟨false, 1, 0, 0, Vw.zero, none, 0⟩ : Az)).toList := ⟨_, rfl⟩
        rw [← hw6] at ov ⊢
        clear hw6
        have OW := hid_ ov
        clear ov
        have S6 := hid_ (And.intro (And.intro (S5.out.1.1.fr OW.out.2 (only_ne (by omega))) (And.intro (S5.out.1.2.1.fr OW.out.2 (only_ne (by omega))) (S5.out.1.2.2.fr OW.out.2 (only_ne (by omega))))) (S5.out.2.then_only OW.out.2 (.inr (by omega))))
        have D6 := hid_ (OV.out.1.fr OW.out.2 (only_ne (by omega)))
        refine ⟨.inr S6.out, ?_⟩
        refine wpAnyU_take2 (i := 13) (v := .bool true) rfl (by kernel_rfl) (by kernel_rfl) (by kernel_rfl) (by kernel_rfl) (fun _ _ _ h => h) (.inl ⟨rfl, fun w' hS => by rw [HA.out]; kernel_rfl⟩) S6.out ?_
        refine wpAnyU_name7 ?_
        intro b_ hb
        have HB := hid_ hb
        clear hb
        have Q2 : b_.tmps.getD 2 undef = .pointer (some ⟨w.heap.size + 1, 0, none⟩) := by rw [HB.out, HA.out]; kernel_rfl
        have Q3 : b_.tmps.getD 3 undef = .pointer (some ⟨w.heap.size + 1 + 1, 0, none⟩) := by rw [HB.out, HA.out]; kernel_rfl
        have Q4 : b_.tmps.getD 4 undef = .bool true := by rw [HB.out, HA.out]; kernel_rfl
        have QD : b_.defers = [] := by rw [HB.out, HA.out]; kernel_rfl
        clear HA HB
        refine wpAnyU_done (by kernel_rfl) ?_ _
        go_wp2
        refine bodyPost_ret (results_cell_cell_tmp7 b_.tmps w6 rfl (w.heap.size + 1) 0 (pzA P).toList _ Q2 (Blk.range7 (l := (pzA P).toList) D6.out) Try.underlying45 rfl page_size (w.heap.size + 1 + 1) 0 (azA (⟨false, 1, 0, 0, Vw.zero, none, 0⟩ : Az)).toList _ Q3 (Blk.range7 (l := (azA (⟨false, 1, 0, 0, Vw.zero, none, 0⟩ : Az)).toList) OW.out.1) Try.underlying77 rfl above_size7) QD ⟨pzA P, (⟨false, 1, 0, 0, Vw.zero, none, 0⟩ : Az), true, (by rw [Q4]), rfl, HALL.out, ?_, (fun h => by cases h), S6.out.2, ?_⟩
        · exact VwIn.zero _
        · exact fun _ => ⟨P, rfl, (by have h4 := POK.out w4.drew F14.out.drew; exact ⟨h4.low, h4.high, h4.rows, (h4.iv.farZ B2.out.drew OV.out.2).farA C5.out OW.out.2, h4.nc⟩), by rw [HPE.out], by rw [HPE.out], by rw [HPE.out]; exact HOF.out⟩
      | true =>
        have HSM := hid_ hsm
        clear hsm
        have hS0 : (fun w' : World => (Blk w' w1.heap.size 45 (pzA P) ∧ Blk w' w3.heap.size 43 (vwA Vw.zero (.slice none 0 0)) ∧ Blk w' w.heap.size 75 (czA c)) ∧ Fr none_ w w') w4.drew := ⟨⟨BP.out.drew, P4.out.1.drew, BC.out.drew⟩, F.out.drew⟩
        refine wp_region_U (m := 14) (S := fun w' : World => (Blk w' w1.heap.size 45 (pzA P) ∧ Blk w' w3.heap.size 43 (vwA Vw.zero (.slice none 0 0)) ∧ Blk w' w.heap.size 75 (czA c)) ∧ Fr none_ w w') (by kernel_rfl) ?_
        refine wpAnyU_take2 (i := 0) (v := _) rfl (by kernel_rfl) (by kernel_rfl) (by kernel_rfl) (by kernel_rfl) (fun _ _ _ h => h) (yieldsIf_load_mid (by kernel_rfl) 45 (.tmp 5) rfl w1.heap.size 0 rfl (pzA P).toList _ (fun w' hS i v hv => Blk.range7 (l := (pzA P).toList) hS.1.1 i v hv) Try.underlying45 rfl page_size) hS0 ?_
        refine wpAnyU_take2 (i := 7) (v := _) rfl (by kernel_rfl) (by kernel_rfl) (by kernel_rfl) (by kernel_rfl) (fun _ _ _ h => h) (yieldsIf_load_mid (by kernel_rfl) 43 (.tmp 7) rfl w3.heap.size 0 (by kernel_rfl) ((vwA Vw.zero (.slice none 0 0)) : Array Value).toList _ (fun w' hS i v hv => Blk.range7 (l := ((vwA Vw.zero (.slice none 0 0)) : Array Value).toList) hS.1.2.1 i v hv) Try.underlying43 rfl view_size7) hS0 ?_
        refine wpAnyU_take2 (i := 1) (v := .pointer (some ⟨w.heap.size, 3, none⟩)) rfl (by kernel_rfl) (by kernel_rfl) (by kernel_rfl) (by kernel_rfl) (fun _ _ _ h => h) (.inl ⟨by kernel_rfl, fun w' hS => by kernel_rfl⟩) hS0 ?_
        refine wpAnyU_take2 (i := 2) (v := .bool true) rfl (by kernel_rfl) (by kernel_rfl) (by kernel_rfl) (by kernel_rfl) (fun _ _ _ h => h) (.inl ⟨by kernel_rfl, fun w' hS => by have s_ : w'.cell? ⟨w.heap.size, 3, none⟩ = some (.bool true) := (by rw [← HSM.out]; exact hS.1.2.2.cell' rfl); clear hS; go_simp⟩) hS0 ?_
        refine wpAnyU_take2 (i := 3) (v := .bool true) rfl (by kernel_rfl) (by kernel_rfl) (by kernel_rfl) (by kernel_rfl) (fun _ _ _ h => h) (.inl ⟨by kernel_rfl, fun w' hS => by kernel_rfl⟩) hS0 ?_
        refine wpAnyU_take2 (i := 4) (v := errV q2) rfl (by kernel_rfl) (by kernel_rfl) (by kernel_rfl) (by kernel_rfl) (fun _ _ _ h => h) (.inl ⟨by kernel_rfl, fun w' hS => by kernel_rfl⟩) hS0 ?_
        refine wpAnyU_take2 (i := 5) (v := .bool false) rfl (by kernel_rfl) (by kernel_rfl) (by kernel_rfl) (by kernel_rfl) (fun _ _ _ h => h) (.inl ⟨by kernel_rfl, fun w' hS => by kernel_rfl⟩) hS0 ?_
        refine wpAnyU_take2 (i := 6) (v := .bool false) rfl (by kernel_rfl) (by kernel_rfl) (by kernel_rfl) (by kernel_rfl) (fun _ _ _ h => h) (.inl ⟨by kernel_rfl, fun w' hS => by kernel_rfl⟩) hS0 ?_
        refine wpAnyU_take2 (i := 8) (v := .agg (azA (⟨false, 1, 0, 0, Vw.zero, none, 0⟩ : Az))) rfl (by kernel_rfl) (by kernel_rfl) (by kernel_rfl) (by kernel_rfl) (fun _ _ _ h => h) (.inl ⟨by kernel_rfl, fun w' hS => by kernel_rfl⟩) hS0 ?_
        refine wpAnyU_take2 (i := 9) (v := .nilIface) rfl (by kernel_rfl) (by kernel_rfl) (by kernel_rfl) (by kernel_rfl) (fun _ _ _ h => h) (.inl ⟨by kernel_rfl, fun w' hS => by kernel_rfl⟩) hS0 ?_
        refine wpAnyU_take2 (i := 10) (v := .bool true) rfl (by kernel_rfl) (by kernel_rfl) (by kernel_rfl) (by kernel_rfl) (fun _ _ _ h => h) (.inl ⟨by kernel_rfl, fun w' hS => by kernel_rfl⟩) hS0 ?_
        clear hS0
        refine wpAnyU_name7 ?_
        intro a_ ha
        have HA := hid_ ha
        clear ha
        refine wpAnyU_one7 (i := 11) rfl rfl (by kernel_rfl) ?_
        refine wp_store_mid 45 (.tmp 2) (.tmp 24) rfl (w.heap.size + 1) 0 (pzA P) (by rw [HA.out]; kernel_rfl) (by rw [HA.out]; kernel_rfl) (B2.out.drew.there7 rfl) page_size HALL.out ?_
        have ov := B2.out.drew.over7 (pzA P).toList rfl
        obtain ⟨w5, hw5⟩ : ∃ z, z = w4.drew.setCells (w.heap.size + 1) 0 (pzA P).toList := ⟨_, rfl⟩
        rw [← hw5] at ov ⊢
        clear hw5
        have OV := hid_ ov
        clear ov
        have S5 := hid_ (And.intro (And.intro (BP.out.drew.fr OV.out.2 (only_ne (by omega))) (And.intro (P4.out.1.drew.fr OV.out.2 (only_ne (by omega))) (BC.out.drew.fr OV.out.2 (only_ne (by omega))))) (F.out.drew.then_only OV.out.2 (.inr (by omega))))
        have C5 := hid_ (B3.out.drew.fr OV.out.2 (only_ne (by omega)))
        refine ⟨.inr S5.out, ?_⟩
        refine wpAnyU_one7 (i := 12) rfl rfl (by kernel_rfl) ?_
        refine wp_store_mid 77 (.tmp 3) (.tmp 32) rfl (w.heap.size + 1 + 1) 0 (azA (⟨false, 1, 0, 0, Vw.zero, none, 0⟩ : Az)) (by rw [HA.out]; kernel_rfl) (by rw [HA.out]; kernel_rfl) (C5.out.there7 rfl) above_size7 (by simp [Value.oneCell']) ?_
        have ov := C5.out.over7 (azA (⟨false, 1, 0, 0, Vw.zero, none, 0⟩ : Az)).toList rfl
        obtain ⟨w6, hw6⟩ : ∃ z, z = w5.setCells (w.heap.size + 1 + 1) 0 (azA (⟨false, 1, 0, 0, Vw.zero, none, 0⟩ : Az)).toList := ⟨_, rfl⟩
        rw [← hw6] at ov ⊢
        clear hw6
        have OW := hid_ ov
        clear ov
        have S6 := hid_ (And.intro (And.intro (S5.out.1.1.fr OW.out.2 (only_ne (by omega))) (And.intro (S5.out.1.2.1.fr OW.out.2 (only_ne (by omega))) (S5.out.1.2.2.fr OW.out.2 (only_ne (by omega))))) (S5.out.2.then_only OW.out.2 (.inr (by omega))))
        have D6 := hid_ (OV.out.1.fr OW.out.2 (only_ne (by omega)))
        refine ⟨.inr S6.out, ?_⟩
        refine wpAnyU_take2 (i := 13) (v := .bool true) rfl (by kernel_rfl) (by kernel_rfl) (by kernel_rfl) (by kernel_rfl) (fun _ _ _ h => h) (.inl ⟨rfl, fun w' hS => by rw [HA.out]; kernel_rfl⟩) S6.out ?_
        refine wpAnyU_name7 ?_
        intro b_ hb
        have HB := hid_ hb
        clear hb
        have Q2 : b_.tmps.getD 2 undef = .pointer (some ⟨w.heap.size + 1, 0, none⟩) := by rw [HB.out, HA.out]; kernel_rfl
        have Q3 : b_.tmps.getD 3 undef = .pointer (some ⟨w.heap.size + 1 + 1, 0, none⟩) := by rw [HB.out, HA.out]; kernel_rfl
        have Q4 : b_.tmps.getD 4 undef = .bool true := by rw [HB.out, HA.out]; kernel_rfl
        have QD : b_.defers = [] := by rw [HB.out, HA.out]; kernel_rfl
        clear HA HB
        refine wpAnyU_done (by kernel_rfl) ?_ _
        go_wp2
        refine bodyPost_ret (results_cell_cell_tmp7 b_.tmps w6 rfl (w.heap.size + 1) 0 (pzA P).toList _ Q2 (Blk.range7 (l := (pzA P).toList) D6.out) Try.underlying45 rfl page_size (w.heap.size + 1 + 1) 0 (azA (⟨false, 1, 0, 0, Vw.zero, none, 0⟩ : Az)).toList _ Q3 (Blk.range7 (l := (azA (⟨false, 1, 0, 0, Vw.zero, none, 0⟩ : Az)).toList) OW.out.1) Try.underlying77 rfl above_size7) QD ⟨pzA P, (⟨false, 1, 0, 0, Vw.zero, none, 0⟩ : Az), true, (by rw [Q4]), rfl, HALL.out, ?_, (fun h => by cases h), S6.out.2, ?_⟩
        · exact VwIn.zero _
        · exact fun _ => ⟨P, rfl, (by have h4 := POK.out w4.drew F14.out.drew; exact ⟨h4.low, h4.high, h4.rows, (h4.iv.farZ B2.out.drew OV.out.2).farA C5.out OW.out.2, h4.nc⟩), by rw [HPE.out], by rw [HPE.out], by rw [HPE.out]; exact HOF.out⟩
  · clear hof hq
    replace F := hid_ (F.out.then_none hf1)
    replace BC := hid_ (BC.out.fr hf1 id)
    replace B2 := hid_ (B2.out.fr hf1 id)
    replace B3 := hid_ (B3.out.fr hf1 id)
    replace H := hid_ (H.out.keep hf1)
    have hsq1 := B3.out.lt
    clear hf1 v0 v1
    go_upto_region 2 with (refine wpList_store_mid rfl 45 (.tmp 5) (.tmp 16) rfl w1.heap.size 0 (pgZ) rfl rfl (new_there w1 _ pgZ) page_size (by simp [Value.oneCell']) ?_; obtain ⟨w2, hw2⟩ : ∃ z, z = (w1.alloc (.cells pgZ 45)).setCells w1.heap.size 0 (pgZ).toList := ⟨_, rfl⟩; change wpList _ _ _ _ _ ((w1.alloc (.cells pgZ 45)).setCells w1.heap.size 0 (pgZ).toList); rw [← hw2]; have P2 : Hid (Blk w2 w1.heap.size 45 (pgZ) ∧ Fr none_ w1 w2) := hid_ (by rw [hw2]; exact new_copy w1 _ pgZ (pgZ).toList rfl); clear hw2)
    skip
    replace F := hid_ (F.out.then_none P2.out.2)
    replace BC := hid_ (BC.out.fr P2.out.2 id)
    replace B2 := hid_ (B2.out.fr P2.out.2 id)
    replace B3 := hid_ (B3.out.fr P2.out.2 id)
    replace H := hid_ (H.out.keep P2.out.2)
    have hs2 := P2.out.1.lt
    have v2 : w2.cell? ⟨w.heap.size, 2, none⟩ = some (.slice c.A2 c.n2 c.c2) := BC.out.cell' rfl
    go_wp2_with fail
    refine (fold_ok c.A2 c.n2 c.c2 L2 w2 (H.out.i2.few (few_ents HF.out.d)) (by omega) (fun C hC => by have := few_ents HF.out.d C hC; omega)).mono ?_
    rintro e w3 (⟨V, B', d', hkd, hfo, rfl, hvin, hheld, hf3⟩ | ⟨q2, hq2, hno, rfl, hf3⟩)
    · have BP := hid_ (P2.out.1.fr hf3 id)
      have VI := hid_ hvin
      have HFO := hid_ hfo
      replace F := hid_ (F.out.then_none hf3)
      replace BC := hid_ (BC.out.fr hf3 id)
      replace B2 := hid_ (B2.out.fr hf3 id)
      replace B3 := hid_ (B3.out.fr hf3 id)
      replace H := hid_ (H.out.keep hf3)
      have hsq3 := B3.out.lt
      clear v2 hf3 hkd hfo hvin hheld
      go_upto_region 3 with (refine wpList_store_mid rfl 43 (.tmp 7) (.tmp 22) rfl w3.heap.size 0 (vwA V (.slice B' V.ents.length d')) rfl rfl (new_there w3 _ vwZ) view_size7 (by simp [Value.oneCell']) ?_; obtain ⟨w4, hw4⟩ : ∃ z, z = (w3.alloc (.cells vwZ 43)).setCells w3.heap.size 0 (vwA V (.slice B' V.ents.length d')).toList := ⟨_, rfl⟩; change wpList _ _ _ _ _ ((w3.alloc (.cells vwZ 43)).setCells w3.heap.size 0 (vwA V (.slice B' V.ents.length d')).toList); rw [← hw4]; have P4 : Hid (Blk w4 w3.heap.size 43 (vwA V (.slice B' V.ents.length d')) ∧ Fr none_ w3 w4) := hid_ (by rw [hw4]; exact new_copy w3 _ vwZ (vwA V (.slice B' V.ents.length d')).toList rfl); clear hw4)
      replace F := hid_ (F.out.then_none P4.out.2)
      replace BC := hid_ (BC.out.fr P4.out.2 id)
      replace B2 := hid_ (B2.out.fr P4.out.2 id)
      replace B3 := hid_ (B3.out.fr P4.out.2 id)
      replace H := hid_ (H.out.keep P4.out.2)
      replace BP := hid_ (BP.out.fr P4.out.2 id)
      have hs4 := P4.out.1.lt
      have hso4 := B3.out.lt
      cases hsm : c.some_ with
      | false =>
        have HSM := hid_ hsm
        clear hsm
        have hS0 : (fun w' : World => (Blk w' w1.heap.size 45 (pgZ) ∧ Blk w' w3.heap.size 43 (vwA V (.slice B' V.ents.length d')) ∧ Blk w' w.heap.size 75 (czA c)) ∧ Fr none_ w w') w4.drew := ⟨⟨BP.out.drew, P4.out.1.drew, BC.out.drew⟩, F.out.drew⟩
        refine wp_region_U (m := 14) (S := fun w' : World => (Blk w' w1.heap.size 45 (pgZ) ∧ Blk w' w3.heap.size 43 (vwA V (.slice B' V.ents.length d')) ∧ Blk w' w.heap.size 75 (czA c)) ∧ Fr none_ w w') (by kernel_rfl) ?_
        refine wpAnyU_take2 (i := 0) (v := _) rfl (by kernel_rfl) (by kernel_rfl) (by kernel_rfl) (by kernel_rfl) (fun _ _ _ h => h) (yieldsIf_load_mid (by kernel_rfl) 45 (.tmp 5) rfl w1.heap.size 0 rfl (pgZ).toList _ (fun w' hS i v hv => Blk.range7 (l := (pgZ).toList) hS.1.1 i v hv) Try.underlying45 rfl page_size) hS0 ?_
        refine wpAnyU_take2 (i := 7) (v := _) rfl (by kernel_rfl) (by kernel_rfl) (by kernel_rfl) (by kernel_rfl) (fun _ _ _ h => h) (yieldsIf_load_mid (by kernel_rfl) 43 (.tmp 7) rfl w3.heap.size 0 (by kernel_rfl) ((vwA V (.slice B' V.ents.length d')) : Array Value).toList _ (fun w' hS i v hv => Blk.range7 (l := ((vwA V (.slice B' V.ents.length d')) : Array Value).toList) hS.1.2.1 i v hv) Try.underlying43 rfl view_size7) hS0 ?_
        refine wpAnyU_take2 (i := 1) (v := .pointer (some ⟨w.heap.size, 3, none⟩)) rfl (by kernel_rfl) (by kernel_rfl) (by kernel_rfl) (by kernel_rfl) (fun _ _ _ h => h) (.inl ⟨by kernel_rfl, fun w' hS => by kernel_rfl⟩) hS0 ?_
        refine wpAnyU_take2 (i := 2) (v := .bool false) rfl (by kernel_rfl) (by kernel_rfl) (by kernel_rfl) (by kernel_rfl) (fun _ _ _ h => h) (.inl ⟨by kernel_rfl, fun w' hS => by have s_ : w'.cell? ⟨w.heap.size, 3, none⟩ = some (.bool false) := (by rw [← HSM.out]; exact hS.1.2.2.cell' rfl); clear hS; go_simp⟩) hS0 ?_
        refine wpAnyU_take2 (i := 3) (v := .bool false) rfl (by kernel_rfl) (by kernel_rfl) (by kernel_rfl) (by kernel_rfl) (fun _ _ _ h => h) (.inl ⟨by kernel_rfl, fun w' hS => by kernel_rfl⟩) hS0 ?_
        refine wpAnyU_take2 (i := 4) (v := undef) rfl (by kernel_rfl) (by kernel_rfl) (by kernel_rfl) (by kernel_rfl) (fun _ _ _ h => h) (.inr ⟨by kernel_rfl, rfl⟩) hS0 ?_
        refine wpAnyU_take2 (i := 5) (v := undef) rfl (by kernel_rfl) (by kernel_rfl) (by kernel_rfl) (by kernel_rfl) (fun _ _ _ h => h) (.inr ⟨by kernel_rfl, rfl⟩) hS0 ?_
        refine wpAnyU_take2 (i := 6) (v := .bool false) rfl (by kernel_rfl) (by kernel_rfl) (by kernel_rfl) (by kernel_rfl) (fun _ _ _ h => h) (.inl ⟨by kernel_rfl, fun w' hS => by kernel_rfl⟩) hS0 ?_
        refine wpAnyU_take2 (i := 8) (v := .agg (azA (⟨false, 1, 0, 0, V, B', d'⟩ : Az))) rfl (by kernel_rfl) (by kernel_rfl) (by kernel_rfl) (by kernel_rfl) (fun _ _ _ h => h) (.inl ⟨by kernel_rfl, fun w' hS => by kernel_rfl⟩) hS0 ?_
        refine wpAnyU_take2 (i := 9) (v := errV q) rfl (by kernel_rfl) (by kernel_rfl) (by kernel_rfl) (by kernel_rfl) (fun _ _ _ h => h) (.inl ⟨by kernel_rfl, fun w' hS => by kernel_rfl⟩) hS0 ?_
        refine wpAnyU_take2 (i := 10) (v := .bool false) rfl (by kernel_rfl) (by kernel_rfl) (by kernel_rfl) (by kernel_rfl) (fun _ _ _ h => h) (.inl ⟨by kernel_rfl, fun w' hS => by kernel_rfl⟩) hS0 ?_
        clear hS0
        refine wpAnyU_name7 ?_
        intro a_ ha
        have HA := hid_ ha
        clear ha
        refine wpAnyU_one7 (i := 11) rfl rfl (by kernel_rfl) ?_
        refine wp_store_mid 45 (.tmp 2) (.tmp 24) rfl (w.heap.size + 1) 0 (pgZ) (by rw [HA.out]; kernel_rfl) (by rw [HA.out]; kernel_rfl) (B2.out.drew.there7 rfl) page_size (by simp [Value.oneCell']) ?_
        have ov := B2.out.drew.over7 (pgZ).toList rfl
        obtain ⟨w5, hw5⟩ : ∃ z, z = w4.drew.setCells (w.heap.size + 1) 0 (pgZ).toList := ⟨_, rfl⟩
        rw [← hw5] at ov ⊢
        clear hw5
        have OV := hid_ ov
        clear ov
        have S5 := hid_ (And.intro (And.intro (BP.out.drew.fr OV.out.2 (only_ne (by omega))) (And.intro (P4.out.1.drew.fr OV.out.2 (only_ne (by omega))) (BC.out.drew.fr OV.out.2 (only_ne (by omega))))) (F.out.drew.then_only OV.out.2 (.inr (by omega))))
        have C5 := hid_ (B3.out.drew.fr OV.out.2 (only_ne (by omega)))
        refine ⟨.inr S5.out, ?_⟩
        refine wpAnyU_one7 (i := 12) rfl rfl (by kernel_rfl) ?_
        refine wp_store_mid 77 (.tmp 3) (.tmp 32) rfl (w.heap.size + 1 + 1) 0 (azA (⟨false, 1, 0, 0, V, B', d'⟩ : Az)) (by rw [HA.out]; kernel_rfl) (by rw [HA.out]; kernel_rfl) (C5.out.there7 rfl) above_size7 (by simp [Value.oneCell']) ?_
        have ov := C5.out.over7 (azA (⟨false, 1, 0, 0, V, B', d'⟩ : Az)).toList rfl
        obtain ⟨w6, hw6⟩ : ∃ z, z = w5.setCells (w.heap.size + 1 + 1) 0 (azA (⟨false, 1, 0, 0, V, B', d'⟩ : Az)).toList := ⟨_, rfl⟩
        rw [← hw6] at ov ⊢
        clear hw6
        have OW := hid_ ov
        clear ov
        have S6 := hid_ (And.intro (And.intro (S5.out.1.1.fr OW.out.2 (only_ne (by omega))) (And.intro (S5.out.1.2.1.fr OW.out.2 (only_ne (by omega))) (S5.out.1.2.2.fr OW.out.2 (only_ne (by omega))))) (S5.out.2.then_only OW.out.2 (.inr (by omega))))
        have D6 := hid_ (OV.out.1.fr OW.out.2 (only_ne (by omega)))
        refine ⟨.inr S6.out, ?_⟩
        refine wpAnyU_take2 (i := 13) (v := .bool false) rfl (by kernel_rfl) (by kernel_rfl) (by kernel_rfl) (by kernel_rfl) (fun _ _ _ h => h) (.inl ⟨rfl, fun w' hS => by rw [HA.out]; kernel_rfl⟩) S6.out ?_
        refine wpAnyU_name7 ?_
        intro b_ hb
        have HB := hid_ hb
        clear hb
        have Q2 : b_.tmps.getD 2 undef = .pointer (some ⟨w.heap.size + 1, 0, none⟩) := by rw [HB.out, HA.out]; kernel_rfl
        have Q3 : b_.tmps.getD 3 undef = .pointer (some ⟨w.heap.size + 1 + 1, 0, none⟩) := by rw [HB.out, HA.out]; kernel_rfl
        have Q4 : b_.tmps.getD 4 undef = .bool false := by rw [HB.out, HA.out]; kernel_rfl
        have QD : b_.defers = [] := by rw [HB.out, HA.out]; kernel_rfl
        clear HA HB
        refine wpAnyU_done (by kernel_rfl) ?_ _
        go_wp2
        refine bodyPost_ret (results_cell_cell_tmp7 b_.tmps w6 rfl (w.heap.size + 1) 0 (pgZ).toList _ Q2 (Blk.range7 (l := (pgZ).toList) D6.out) Try.underlying45 rfl page_size (w.heap.size + 1 + 1) 0 (azA (⟨false, 1, 0, 0, V, B', d'⟩ : Az)).toList _ Q3 (Blk.range7 (l := (azA (⟨false, 1, 0, 0, V, B', d'⟩ : Az)).toList) OW.out.1) Try.underlying77 rfl above_size7) QD ⟨pgZ, (⟨false, 1, 0, 0, V, B', d'⟩ : Az), false, (by rw [Q4]), rfl, by simp [Value.oneCell'], ?_, (fun h => by cases h), S6.out.2, ?_⟩
        · exact (((VI.out.keep P4.out.2).keep (Fr.refl none_ w4).drew).farZ B2.out.drew OV.out.2).farA C5.out OW.out.2
        · exact fun h => by cases h
      | true =>
        have HSM := hid_ hsm
        clear hsm
        have hS0 : (fun w' : World => (Blk w' w1.heap.size 45 (pgZ) ∧ Blk w' w3.heap.size 43 (vwA V (.slice B' V.ents.length d')) ∧ Blk w' w.heap.size 75 (czA c)) ∧ Fr none_ w w') w4.drew := ⟨⟨BP.out.drew, P4.out.1.drew, BC.out.drew⟩, F.out.drew⟩
        refine wp_region_U (m := 14) (S := fun w' : World => (Blk w' w1.heap.size 45 (pgZ) ∧ Blk w' w3.heap.size 43 (vwA V (.slice B' V.ents.length d')) ∧ Blk w' w.heap.size 75 (czA c)) ∧ Fr none_ w w') (by kernel_rfl) ?_
        refine wpAnyU_take2 (i := 0) (v := _) rfl (by kernel_rfl) (by kernel_rfl) (by kernel_rfl) (by kernel_rfl) (fun _ _ _ h => h) (yieldsIf_load_mid (by kernel_rfl) 45 (.tmp 5) rfl w1.heap.size 0 rfl (pgZ).toList _ (fun w' hS i v hv => Blk.range7 (l := (pgZ).toList) hS.1.1 i v hv) Try.underlying45 rfl page_size) hS0 ?_
        refine wpAnyU_take2 (i := 7) (v := _) rfl (by kernel_rfl) (by kernel_rfl) (by kernel_rfl) (by kernel_rfl) (fun _ _ _ h => h) (yieldsIf_load_mid (by kernel_rfl) 43 (.tmp 7) rfl w3.heap.size 0 (by kernel_rfl) ((vwA V (.slice B' V.ents.length d')) : Array Value).toList _ (fun w' hS i v hv => Blk.range7 (l := ((vwA V (.slice B' V.ents.length d')) : Array Value).toList) hS.1.2.1 i v hv) Try.underlying43 rfl view_size7) hS0 ?_
        refine wpAnyU_take2 (i := 1) (v := .pointer (some ⟨w.heap.size, 3, none⟩)) rfl (by kernel_rfl) (by kernel_rfl) (by kernel_rfl) (by kernel_rfl) (fun _ _ _ h => h) (.inl ⟨by kernel_rfl, fun w' hS => by kernel_rfl⟩) hS0 ?_
        refine wpAnyU_take2 (i := 2) (v := .bool true) rfl (by kernel_rfl) (by kernel_rfl) (by kernel_rfl) (by kernel_rfl) (fun _ _ _ h => h) (.inl ⟨by kernel_rfl, fun w' hS => by have s_ : w'.cell? ⟨w.heap.size, 3, none⟩ = some (.bool true) := (by rw [← HSM.out]; exact hS.1.2.2.cell' rfl); clear hS; go_simp⟩) hS0 ?_
        refine wpAnyU_take2 (i := 3) (v := .bool true) rfl (by kernel_rfl) (by kernel_rfl) (by kernel_rfl) (by kernel_rfl) (fun _ _ _ h => h) (.inl ⟨by kernel_rfl, fun w' hS => by kernel_rfl⟩) hS0 ?_
        refine wpAnyU_take2 (i := 4) (v := .nilIface) rfl (by kernel_rfl) (by kernel_rfl) (by kernel_rfl) (by kernel_rfl) (fun _ _ _ h => h) (.inl ⟨by kernel_rfl, fun w' hS => by kernel_rfl⟩) hS0 ?_
        refine wpAnyU_take2 (i := 5) (v := .bool true) rfl (by kernel_rfl) (by kernel_rfl) (by kernel_rfl) (by kernel_rfl) (fun _ _ _ h => h) (.inl ⟨by kernel_rfl, fun w' hS => by kernel_rfl⟩) hS0 ?_
        refine wpAnyU_take2 (i := 6) (v := .bool true) rfl (by kernel_rfl) (by kernel_rfl) (by kernel_rfl) (by kernel_rfl) (fun _ _ _ h => h) (.inl ⟨by kernel_rfl, fun w' hS => by kernel_rfl⟩) hS0 ?_
        refine wpAnyU_take2 (i := 8) (v := .agg (azA (⟨true, 1, 0, 0, V, B', d'⟩ : Az))) rfl (by kernel_rfl) (by kernel_rfl) (by kernel_rfl) (by kernel_rfl) (fun _ _ _ h => h) (.inl ⟨by kernel_rfl, fun w' hS => by kernel_rfl⟩) hS0 ?_
        refine wpAnyU_take2 (i := 9) (v := errV q) rfl (by kernel_rfl) (by kernel_rfl) (by kernel_rfl) (by kernel_rfl) (fun _ _ _ h => h) (.inl ⟨by kernel_rfl, fun w' hS => by kernel_rfl⟩) hS0 ?_
        refine wpAnyU_take2 (i := 10) (v := .bool false) rfl (by kernel_rfl) (by kernel_rfl) (by kernel_rfl) (by kernel_rfl) (fun _ _ _ h => h) (.inl ⟨by kernel_rfl, fun w' hS => by kernel_rfl⟩) hS0 ?_
        clear hS0
        refine wpAnyU_name7 ?_
        intro a_ ha
        have HA := hid_ ha
        clear ha
        refine wpAnyU_one7 (i := 11) rfl rfl (by kernel_rfl) ?_
        refine wp_store_mid 45 (.tmp 2) (.tmp 24) rfl (w.heap.size + 1) 0 (pgZ) (by rw [HA.out]; kernel_rfl) (by rw [HA.out]; kernel_rfl) (B2.out.drew.there7 rfl) page_size (by simp [Value.oneCell']) ?_
        have ov := B2.out.drew.over7 (pgZ).toList rfl
        obtain ⟨w5, hw5⟩ : ∃ z, z = w4.drew.setCells (w.heap.size + 1) 0 (pgZ).toList := ⟨_, rfl⟩
        rw [← hw5] at ov ⊢
        clear hw5
        have OV := hid_ ov
        clear ov
        have S5 := hid_ (And.intro (And.intro (BP.out.drew.fr OV.out.2 (only_ne (by omega))) (And.intro (P4.out.1.drew.fr OV.out.2 (only_ne (by omega))) (BC.out.drew.fr OV.out.2 (only_ne (by omega))))) (F.out.drew.then_only OV.out.2 (.inr (by omega))))
        have C5 := hid_ (B3.out.drew.fr OV.out.2 (only_ne (by omega)))
        refine ⟨.inr S5.out, ?_⟩
        refine wpAnyU_one7 (i := 12) rfl rfl (by kernel_rfl) ?_
        refine wp_store_mid 77 (.tmp 3) (.tmp 32) rfl (w.heap.size + 1 + 1) 0 (azA (⟨true, 1, 0, 0, V, B', d'⟩ : Az)) (by rw [HA.out]; kernel_rfl) (by rw [HA.out]; kernel_rfl) (C5.out.there7 rfl) above_size7 (by simp [Value.oneCell']) ?_
        have ov := C5.out.over7 (azA (⟨true, 1, 0, 0, V, B', d'⟩ : Az)).toList rfl
        obtain ⟨w6, hw6⟩ : ∃ z, z = w5.setCells (w.heap.size + 1 + 1) 0 (azA (⟨true, 1, 0, 0, V, B', d'⟩ : Az)).toList := ⟨_, rfl⟩
        rw [← hw6] at ov ⊢
        clear hw6
        have OW := hid_ ov
        clear ov
        have S6 := hid_ (And.intro (And.intro (S5.out.1.1.fr OW.out.2 (only_ne (by omega))) (And.intro (S5.out.1.2.1.fr OW.out.2 (only_ne (by omega))) (S5.out.1.2.2.fr OW.out.2 (only_ne (by omega))))) (S5.out.2.then_only OW.out.2 (.inr (by omega))))
        have D6 := hid_ (OV.out.1.fr OW.out.2 (only_ne (by omega)))
        refine ⟨.inr S6.out, ?_⟩
        refine wpAnyU_take2 (i := 13) (v := .bool false) rfl (by kernel_rfl) (by kernel_rfl) (by kernel_rfl) (by kernel_rfl) (fun _ _ _ h => h) (.inl ⟨rfl, fun w' hS => by rw [HA.out]; kernel_rfl⟩) S6.out ?_
        refine wpAnyU_name7 ?_
        intro b_ hb
        have HB := hid_ hb
        clear hb
        have Q2 : b_.tmps.getD 2 undef = .pointer (some ⟨w.heap.size + 1, 0, none⟩) := by rw [HB.out, HA.out]; kernel_rfl
        have Q3 : b_.tmps.getD 3 undef = .pointer (some ⟨w.heap.size + 1 + 1, 0, none⟩) := by rw [HB.out, HA.out]; kernel_rfl
        have Q4 : b_.tmps.getD 4 undef = .bool false := by rw [HB.out, HA.out]; kernel_rfl
        have QD : b_.defers = [] := by rw [HB.out, HA.out]; kernel_rfl
        clear HA HB
        refine wpAnyU_done (by kernel_rfl) ?_ _
        go_wp2
        refine bodyPost_ret (results_cell_cell_tmp7 b_.tmps w6 rfl (w.heap.size + 1) 0 (pgZ).toList _ Q2 (Blk.range7 (l := (pgZ).toList) D6.out) Try.underlying45 rfl page_size (w.heap.size + 1 + 1) 0 (azA (⟨true, 1, 0, 0, V, B', d'⟩ : Az)).toList _ Q3 (Blk.range7 (l := (azA (⟨true, 1, 0, 0, V, B', d'⟩ : Az)).toList) OW.out.1) Try.underlying77 rfl above_size7) QD ⟨pgZ, (⟨true, 1, 0, 0, V, B', d'⟩ : Az), false, (by rw [Q4]), rfl, by simp [Value.oneCell'], ?_, (fun _ => HFO.out), S6.out.2, ?_⟩
        · exact (((VI.out.keep P4.out.2).keep (Fr.refl none_ w4).drew).farZ B2.out.drew OV.out.2).farA C5.out OW.out.2
        · exact fun h => by cases h
    · have BP := hid_ (P2.out.1.fr hf3 id)
      replace F := hid_ (F.out.then_none hf3)
      replace BC := hid_ (BC.out.fr hf3 id)
      replace B2 := hid_ (B2.out.fr hf3 id)
      replace B3 := hid_ (B3.out.fr hf3 id)
      replace H := hid_ (H.out.keep hf3)
      have hsq3 := B3.out.lt
      clear v2 hf3 hq2 hno
      go_upto_region 3 with (refine wpList_store_mid rfl 43 (.tmp 7) (.tmp 22) rfl w3.heap.size 0 (vwA Vw.zero (.slice none 0 0)) rfl rfl (new_there w3 _ vwZ) view_size7 (by simp [Value.oneCell']) ?_; obtain ⟨w4, hw4⟩ : ∃ z, z = (w3.alloc (.cells vwZ 43)).setCells w3.heap.size 0 (vwA Vw.zero (.slice none 0 0)).toList := ⟨_, rfl⟩; change wpList _ _ _ _ _ ((w3.alloc (.cells vwZ 43)).setCells w3.heap.size 0 (vwA Vw.zero (.slice none 0 0)).toList); rw [← hw4]; have P4 : Hid (Blk w4 w3.heap.size 43 (vwA Vw.zero (.slice none 0 0)) ∧ Fr none_ w3 w4) := hid_ (by rw [hw4]; exact new_copy w3 _ vwZ (vwA Vw.zero (.slice none 0 0)).toList rfl); clear hw4)
      replace F := hid_ (F.out.then_none P4.out.2)
      replace BC := hid_ (BC.out.fr P4.out.2 id)
      replace B2 := hid_ (B2.out.fr P4.out.2 id)
      replace B3 := hid_ (B3.out.fr P4.out.2 id)
      replace H := hid_ (H.out.keep P4.out.2)
      replace BP := hid_ (BP.out.fr P4.out.2 id)
      have hs4 := P4.out.1.lt
      have hso4 := B3.out.lt
      cases hsm : c.some_ with
      | false =>
        have HSM := hid_ hsm
        clear hsm
        have hS0 : (fun w' : World => (Blk w' w1.heap.size 45 (pgZ) ∧ Blk w' w3.heap.size 43 (vwA Vw.zero (.slice none 0 0)) ∧ Blk w' w.heap.size 75 (czA c)) ∧ Fr none_ w w') w4.drew := ⟨⟨BP.out.drew, P4.out.1.drew, BC.out.drew⟩, F.out.drew⟩
        refine wp_region_U (m := 14) (S := fun w' : World => (Blk w' w1.heap.size 45 (pgZ) ∧ Blk w' w3.heap.size 43 (vwA Vw.zero (.slice none 0 0)) ∧ Blk w' w.heap.size 75 (czA c)) ∧ Fr none_ w w') (by kernel_rfl) ?_
        refine wpAnyU_take2 (i := 0) (v := _) rfl (by kernel_rfl) (by kernel_rfl) (by kernel_rfl) (by kernel_rfl) (fun _ _ _ h => h) (yieldsIf_load_mid (by kernel_rfl) 45 (.tmp 5) rfl w1.heap.size 0 rfl (pgZ).toList _ (fun w' hS i v hv => Blk.range7 (l := (pgZ).toList) hS.1.1 i v hv) Try.underlying45 rfl page_size) hS0 ?_
        refine wpAnyU_take2 (i := 7) (v := _) rfl (by kernel_rfl) (by kernel_rfl) (by kernel_rfl) (by kernel_rfl) (fun _ _ _ h => h) (yieldsIf_load_mid (by kernel_rfl) 43 (.tmp 7) rfl w3.heap.size 0 (by kernel_rfl) ((vwA Vw.zero (.slice none 0 0)) : Array Value).toList _ (fun w' hS i v hv => Blk.range7 (l := ((vwA Vw.zero (.slice none 0 0)) : Array Value).toList) hS.1.2.1 i v hv) Try.underlying43 rfl view_size7) hS0 ?_
        refine wpAnyU_take2 (i := 1) (v := .pointer (some ⟨w.heap.size, 3, none⟩)) rfl (by kernel_rfl) (by kernel_rfl) (by kernel_rfl) (by kernel_rfl) (fun _ _ _ h => h) (.inl ⟨by kernel_rfl, fun w' hS => by kernel_rfl⟩) hS0 ?_
        refine wpAnyU_take2 (i := 2) (v := .bool false) rfl (by kernel_rfl) (by kernel_rfl) (by kernel_rfl) (by kernel_rfl) (fun _ _ _ h => h) (.inl ⟨by kernel_rfl, fun w' hS => by have s_ : w'.cell? ⟨w.heap.size, 3, none⟩ = some (.bool false) := (by rw [← HSM.out]; exact hS.1.2.2.cell' rfl); clear hS; go_simp⟩) hS0 ?_
        refine wpAnyU_take2 (i := 3) (v := .bool false) rfl (by kernel_rfl) (by kernel_rfl) (by kernel_rfl) (by kernel_rfl) (fun _ _ _ h => h) (.inl ⟨by kernel_rfl, fun w' hS => by kernel_rfl⟩) hS0 ?_
        refine wpAnyU_take2 (i := 4) (v := undef) rfl (by kernel_rfl) (by kernel_rfl) (by kernel_rfl) (by kernel_rfl) (fun _ _ _ h => h) (.inr ⟨by kernel_rfl, rfl⟩) hS0 ?_
        refine wpAnyU_take2 (i := 5) (v := undef) rfl (by kernel_rfl) (by kernel_rfl) (by kernel_rfl) (by kernel_rfl) (fun _ _ _ h => h) (.inr ⟨by kernel_rfl, rfl⟩) hS0 ?_
        refine wpAnyU_take2 (i := 6) (v := .bool false) rfl (by kernel_rfl) (by kernel_rfl) (by kernel_rfl) (by kernel_rfl) (fun _ _ _ h => h) (.inl ⟨by kernel_rfl, fun w' hS => by kernel_rfl⟩) hS0 ?_
        refine wpAnyU_take2 (i := 8) (v := .agg (azA (⟨false, 1, 0, 0, Vw.zero, none, 0⟩ : Az))) rfl (by kernel_rfl) (by kernel_rfl) (by kernel_rfl) (by kernel_rfl) (fun _ _ _ h => h) (.inl ⟨by kernel_rfl, fun w' hS => by kernel_rfl⟩) hS0 ?_
        refine wpAnyU_take2 (i := 9) (v := errV q) rfl (by kernel_rfl) (by kernel_rfl) (by kernel_rfl) (by kernel_rfl) (fun _ _ _ h => h) (.inl ⟨by kernel_rfl, fun w' hS => by kernel_rfl⟩) hS0 ?_
        refine wpAnyU_take2 (i := 10) (v := .bool false) rfl (by kernel_rfl) (by kernel_rfl) (by kernel_rfl) (by kernel_rfl) (fun _ _ _ h => h) (.inl ⟨by kernel_rfl, fun w' hS => by kernel_rfl⟩) hS0 ?_
        clear hS0
        refine wpAnyU_name7 ?_
        intro a_ ha
        have HA := hid_ ha
        clear ha
        refine wpAnyU_one7 (i := 11) rfl rfl (by kernel_rfl) ?_
        refine wp_store_mid 45 (.tmp 2) (.tmp 24) rfl (w.heap.size + 1) 0 (pgZ) (by rw [HA.out]; kernel_rfl) (by rw [HA.out]; kernel_rfl) (B2.out.drew.there7 rfl) page_size (by simp [Value.oneCell']) ?_
        have ov := B2.out.drew.over7 (pgZ).toList rfl
        obtain ⟨w5, hw5⟩ : ∃ z, z = w4.drew.setCells (w.heap.size + 1) 0 (pgZ).toList := ⟨_, rfl⟩
        rw [← hw5] at ov ⊢
        clear hw5
        have OV := hid_ ov
        clear ov
        have S5 := hid_ (And.intro (And.intro (BP.out.drew.fr OV.out.2 (only_ne (by omega))) (And.intro (P4.out.1.drew.fr OV.out.2 (only_ne (by omega))) (BC.out.drew.fr OV.out.2 (only_ne (by omega))))) (F.out.drew.then_only OV.out.2 (.inr (by omega))))
        have C5 := hid_ (B3.out.drew.fr OV.out.2 (only_ne (by omega)))
        refine ⟨.inr S5.out, ?_⟩
        refine wpAnyU_one7 (i := 12) rfl rfl (by kernel_rfl) ?_
        refine wp_store_mid 77 (.tmp 3) (.tmp 32) rfl (w.heap.size + 1 + 1) 0 (azA (⟨false, 1, 0, 0, Vw.zero, none, 0⟩ : Az)) (by rw [HA.out]; kernel_rfl) (by rw [HA.out]; kernel_rfl) (C5.out.there7 rfl) above_size7 (by simp [Value.oneCell']) ?_
        have ov := C5.out.over7 (azA (⟨false, 1, 0, 0, Vw.zero, none, 0⟩ : Az)).toList rfl
        obtain ⟨w6, hw6⟩ : ∃ z, z = w5.setCells (w.heap.size + 1 + 1) 0 (azA (⟨false, 1, 0, 0, Vw.zero, none, 0⟩ : Az)).toList := ⟨_, rfl⟩
        rw [← hw6] at ov ⊢
        clear hw6
        have OW := hid_ ov
        clear ov
        have S6 := hid_ (And.intro (And.intro (S5.out.1.1.fr OW.out.2 (only_ne (by omega))) (And.intro (S5.out.1.2.1.fr OW.out.2 (only_ne (by omega))) (S5.out.1.2.2.fr OW.out.2 (only_ne (by omega))))) (S5.out.2.then_only OW.out.2 (.inr (by omega))))
        have D6 := hid_ (OV.out.1.fr OW.out.2 (only_ne (by omega)))
        refine ⟨.inr S6.out, ?_⟩
        refine wpAnyU_take2 (i := 13) (v := .bool false) rfl (by kernel_rfl) (by kernel_rfl) (by kernel_rfl) (by kernel_rfl) (fun _ _ _ h => h) (.inl ⟨rfl, fun w' hS => by rw [HA.out]; kernel_rfl⟩) S6.out ?_
        refine wpAnyU_name7 ?_
        intro b_ hb
        have HB := hid_ hb
        clear hb
        have Q2 : b_.tmps.getD 2 undef = .pointer (some ⟨w.heap.size + 1, 0, none⟩) := by rw [HB.out, HA.out]; kernel_rfl
        have Q3 : b_.tmps.getD 3 undef = .pointer (some ⟨w.heap.size + 1 + 1, 0, none⟩) := by rw [HB.out, HA.out]; kernel_rfl
        have Q4 : b_.tmps.getD 4 undef = .bool false := by rw [HB.out, HA.out]; kernel_rfl
        have QD : b_.defers = [] := by rw [HB.out, HA.out]; kernel_rfl
        clear HA HB
        refine wpAnyU_done (by kernel_rfl) ?_ _
        go_wp2
        refine bodyPost_ret (results_cell_cell_tmp7 b_.tmps w6 rfl (w.heap.size + 1) 0 (pgZ).toList _ Q2 (Blk.range7 (l := (pgZ).toList) D6.out) Try.underlying45 rfl page_size (w.heap.size + 1 + 1) 0 (azA (⟨false, 1, 0, 0, Vw.zero, none, 0⟩ : Az)).toList _ Q3 (Blk.range7 (l := (azA (⟨false, 1, 0, 0, Vw.zero, none, 0⟩ : Az)).toList) OW.out.1) Try.underlying77 rfl above_size7) QD ⟨pgZ, (⟨false, 1, 0, 0, Vw.zero, none, 0⟩ : Az), false, (by rw [Q4]), rfl, by simp [Value.oneCell'], ?_, (fun h => by cases h), S6.out.2, ?_⟩
        · exact VwIn.zero _
        · exact fun h => by cases h
      | true =>
        have HSM := hid_ hsm
        clear hsm
        have hS0 : (fun w' : World => (Blk w' w1.heap.size 45 (pgZ) ∧ Blk w' w3.heap.size 43 (vwA Vw.zero (.slice none 0 0)) ∧ Blk w' w.heap.size 75 (czA c)) ∧ Fr none_ w w') w4.drew := ⟨⟨BP.out.drew, P4.out.1.drew, BC.out.drew⟩, F.out.drew⟩
        refine wp_region_U (m := 14) (S := fun w' : World => (Blk w' w1.heap.size 45 (pgZ) ∧ Blk w' w3.heap.size 43 (vwA Vw.zero (.slice none 0 0)) ∧ Blk w' w.heap.size 75 (czA c)) ∧ Fr none_ w w') (by kernel_rfl) ?_
        refine wpAnyU_take2 (i := 0) (v := _) rfl (by kernel_rfl) (by kernel_rfl) (by kernel_rfl) (by kernel_rfl) (fun _ _ _ h => h) (yieldsIf_load_mid (by kernel_rfl) 45 (.tmp 5) rfl w1.heap.size 0 rfl (pgZ).toList _ (fun w' hS i v hv => Blk.range7 (l := (pgZ).toList) hS.1.1 i v hv) Try.underlying45 rfl page_size) hS0 ?_
        refine wpAnyU_take2 (i := 7) (v := _) rfl (by kernel_rfl) (by kernel_rfl) (by kernel_rfl) (by kernel_rfl) (fun _ _ _ h => h) (yieldsIf_load_mid (by kernel_rfl) 43 (.tmp 7) rfl w3.heap.size 0 (by kernel_rfl) ((vwA Vw.zero (.slice none 0 0)) : Array Value).toList _ (fun w' hS i v hv => Blk.range7 (l := ((vwA Vw.zero (.slice none 0 0)) : Array Value).toList) hS.1.2.1 i v hv) Try.underlying43 rfl view_size7) hS0 ?_
        refine wpAnyU_take2 (i := 1) (v := .pointer (some ⟨w.heap.size, 3, none⟩)) rfl (by kernel_rfl) (by kernel_rfl) (by kernel_rfl) (by kernel_rfl) (fun _ _ _ h => h) (.inl ⟨by kernel_rfl, fun w' hS => by kernel_rfl⟩) hS0 ?_
        refine wpAnyU_take2 (i := 2) (v := .bool true) rfl (by kernel_rfl) (by kernel_rfl) (by kernel_rfl) (by kernel_rfl) (fun _ _ _ h => h) (.inl ⟨by kernel_rfl, fun w' hS => by have s_ : w'.cell? ⟨w.heap.size, 3, none⟩ = some (.bool true) := (by rw [← HSM.out]; exact hS.1.2.2.cell' rfl); clear hS; go_simp⟩) hS0 ?_
        refine wpAnyU_take2 (i := 3) (v := .bool true) rfl (by kernel_rfl) (by kernel_rfl) (by kernel_rfl) (by kernel_rfl) (fun _ _ _ h => h) (.inl ⟨by kernel_rfl, fun w' hS => by kernel_rfl⟩) hS0 ?_
        refine wpAnyU_take2 (i := 4) (v := errV q2) rfl (by kernel_rfl) (by kernel_rfl) (by kernel_rfl) (by kernel_rfl) (fun _ _ _ h => h) (.inl ⟨by kernel_rfl, fun w' hS => by kernel_rfl⟩) hS0 ?_
        refine wpAnyU_take2 (i := 5) (v := .bool false) rfl (by kernel_rfl) (by kernel_rfl) (by kernel_rfl) (by kernel_rfl) (fun _ _ _ h => h) (.inl ⟨by kernel_rfl, fun w' hS => by kernel_rfl⟩) hS0 ?_
        refine wpAnyU_take2 (i := 6) (v := .bool false) rfl (by kernel_rfl) (by kernel_rfl) (by kernel_rfl) (by kernel_rfl) (fun _ _ _ h => h) (.inl ⟨by kernel_rfl, fun w' hS => by kernel_rfl⟩) hS0 ?_
        refine wpAnyU_take2 (i := 8) (v := .agg (azA (⟨false, 1, 0, 0, Vw.zero, none, 0⟩ : Az))) rfl (by kernel_rfl) (by kernel_rfl) (by kernel_rfl) (by kernel_rfl) (fun _ _ _ h => h) (.inl ⟨by kernel_rfl, fun w' hS => by kernel_rfl⟩) hS0 ?_
        refine wpAnyU_take2 (i := 9) (v := errV q) rfl (by kernel_rfl) (by kernel_rfl) (by kernel_rfl) (by kernel_rfl) (fun _ _ _ h => h) (.inl ⟨by kernel_rfl, fun w' hS => by kernel_rfl⟩) hS0 ?_
        refine wpAnyU_take2 (i := 10) (v := .bool false) rfl (by kernel_rfl) (by kernel_rfl) (by kernel_rfl) (by kernel_rfl) (fun _ _ _ h => h) (.inl ⟨by kernel_rfl, fun w' hS => by kernel_rfl⟩) hS0 ?_
        clear hS0
        refine wpAnyU_name7 ?_
        intro a_ ha
        have HA := hid_ ha
        clear ha
        refine wpAnyU_one7 (i := 11) rfl rfl (by kernel_rfl) ?_
        refine wp_store_mid 45 (.tmp 2) (.tmp 24) rfl (w.heap.size + 1) 0 (pgZ) (by rw [HA.out]; kernel_rfl) (by rw [HA.out]; kernel_rfl) (B2.out.drew.there7 rfl) page_size (by simp [Value.oneCell']) ?_
        have ov := B2.out.drew.over7 (pgZ).toList rfl
        obtain ⟨w5, hw5⟩ : ∃ z, z = w4.drew.setCells (w.heap.size + 1) 0 (pgZ).toList := ⟨_, rfl⟩
        rw [← hw5] at ov ⊢
        clear hw5
        have OV := hid_ ov
        clear ov
        have S5 := hid_ (And.intro (And.intro (BP.out.drew.fr OV.out.2 (only_ne (by omega))) (And.intro (P4.out.1.drew.fr OV.out.2 (only_ne (by omega))) (BC.out.drew.fr OV.out.2 (only_ne (by omega))))) (F.out.drew.then_only OV.out.2 (.inr (by omega))))
        have C5 := hid_ (B3.out.drew.fr OV.out.2 (only_ne (by omega)))
        refine ⟨.inr S5.out, ?_⟩
        refine wpAnyU_one7 (i := 12) rfl rfl (by kernel_rfl) ?_
        refine wp_store_mid 77 (.tmp 3) (.tmp 32) rfl (w.heap.size + 1 + 1) 0 (azA (⟨false, 1, 0, 0, Vw.zero, none, 0⟩ : Az)) (by rw [HA.out]; kernel_rfl) (by rw [HA.out]; kernel_rfl) (C5.out.there7 rfl) above_size7 (by simp [Value.oneCell']) ?_
        have ov := C5.out.over7 (azA (⟨false, 1, 0, 0, Vw.zero, none, 0⟩ : Az)).toList rfl
        obtain ⟨w6, hw6⟩ : ∃ z, z = w5.setCells (w.heap.size + 1 + 1) 0 (azA (⟨false, 1, 0, 0, Vw.zero, none, 0⟩ : Az)).toList := ⟨_, rfl⟩
        rw [← hw6] at ov ⊢
        clear hw6
        have OW := hid_ ov
        clear ov
        have S6 := hid_ (And.intro (And.intro (S5.out.1.1.fr OW.out.2 (only_ne (by omega))) (And.intro (S5.out.1.2.1.fr OW.out.2 (only_ne (by omega))) (S5.out.1.2.2.fr OW.out.2 (only_ne (by omega))))) (S5.out.2.then_only OW.out.2 (.inr (by omega))))
        have D6 := hid_ (OV.out.1.fr OW.out.2 (only_ne (by omega)))
        refine ⟨.inr S6.out, ?_⟩
        refine wpAnyU_take2 (i := 13) (v := .bool false) rfl (by kernel_rfl) (by kernel_rfl) (by kernel_rfl) (by kernel_rfl) (fun _ _ _ h => h) (.inl ⟨rfl, fun w' hS => by rw [HA.out]; kernel_rfl⟩) S6.out ?_
        refine wpAnyU_name7 ?_
        intro b_ hb
        have HB := hid_ hb
        clear hb
        have Q2 : b_.tmps.getD 2 undef = .pointer (some ⟨w.heap.size + 1, 0, none⟩) := by rw [HB.out, HA.out]; kernel_rfl
        have Q3 : b_.tmps.getD 3 undef = .pointer (some ⟨w.heap.size + 1 + 1, 0, none⟩) := by rw [HB.out, HA.out]; kernel_rfl
        have Q4 : b_.tmps.getD 4 undef = .bool false := by rw [HB.out, HA.out]; kernel_rfl
        have QD : b_.defers = [] := by rw [HB.out, HA.out]; kernel_rfl
        clear HA HB
        refine wpAnyU_done (by kernel_rfl) ?_ _
        go_wp2
        refine bodyPost_ret (results_cell_cell_tmp7 b_.tmps w6 rfl (w.heap.size + 1) 0 (pgZ).toList _ Q2 (Blk.range7 (l := (pgZ).toList) D6.out) Try.underlying45 rfl page_size (w.heap.size + 1 + 1) 0 (azA (⟨false, 1, 0, 0, Vw.zero, none, 0⟩ : Az)).toList _ Q3 (Blk.range7 (l := (azA (⟨false, 1, 0, 0, Vw.zero, none, 0⟩ : Az)).toList) OW.out.1) Try.underlying77 rfl above_size7) QD ⟨pgZ, (⟨false, 1, 0, 0, Vw.zero, none, 0⟩ : Az), false, (by rw [Q4]), rfl, by simp [Value.oneCell'], ?_, (fun h => by cases h), S6.out.2, ?_⟩
        · exact VwIn.zero _
        · exact fun h => by cases h
end Go.Proofs.Ytpjbncbmdfmlpaa
namespace Go.Proofs.Ytpjbncbmdfmlpaa
open Go.RowKit Go.BigFrame
set_option maxRecDepth 100000
set_option linter.unusedVariables false

/-- The last entry ahead of a key, among the first k. -/
def lastTo (L : List Et) (high : ByteArray) (unb : Bool) : Nat → Option Et
  | 0 => none
  | k + 1 => match L[k]? with
    | some p => if (unb || ltS p.1 high) = true then some p else lastTo L high unb k
    | none => lastTo L high unb k
theorem last_hit {L : List Et} {high : ByteArray} {unb : Bool} {k : Nat} {p : Et} (hp : L[k]? = some p) (h : (unb || ltS p.1 high) = true) : lastTo L high unb (k + 1) = some p := by simp [lastTo, hp, h]
theorem last_miss {L : List Et} {high : ByteArray} {unb : Bool} {k : Nat} {p : Et} (hp : L[k]? = some p) (h : (unb || ltS p.1 high) = false) : lastTo L high unb (k + 1) = lastTo L high unb k := by simp [lastTo, hp, h]
noncomputable def backM (P : Pz) (high : ByteArray) (unb helps : Bool) : Pn :=
  if (P.leaf && P.lv.gone) = true then pnK 3
  else if (helps && (!P.leaf && P.iv.held)) = true then ⟨5, 0, nilS, 0, P.iv.hp, P.iv.hl, P.iv.hk⟩
  else if (!P.unb && (unb || ltS P.high high)) = true then ⟨2, P.right, nilS, 0, 0, 0, nilS⟩
  else if P.leaf = true then pnK 10
  else match lastTo P.iv.ents high unb P.iv.ents.length with
  | some p => ⟨1, p.2, nilS, 0, 0, 0, nilS⟩
  | none => pnK 3
end Go.Proofs.Ytpjbncbmdfmlpaa
namespace Go.Proofs.Ytpjbncbmdfmlpaa
open Go.RowKit Go.BigFrame
set_option maxRecDepth 100000
set_option linter.unusedVariables false
theorem bk_a {P : Pz} {high : ByteArray} {unb helps : Bool} (h : (P.leaf && P.lv.gone) = true) : backM P high unb helps = pnK 3 := if_pos h
theorem bk_b {P : Pz} {high : ByteArray} {unb helps : Bool} (h : (P.leaf && P.lv.gone) = false) (h2 : (helps && (!P.leaf && P.iv.held)) = true) : backM P high unb helps = ⟨5, 0, nilS, 0, P.iv.hp, P.iv.hl, P.iv.hk⟩ := by
  unfold backM; rw [if_neg (by rw [h]; decide), if_pos h2]
theorem bk_c {P : Pz} {high : ByteArray} {unb helps : Bool} (h : (P.leaf && P.lv.gone) = false) (h2 : (helps && (!P.leaf && P.iv.held)) = false) (h3 : (!P.unb && (unb || ltS P.high high)) = true) : backM P high unb helps = ⟨2, P.right, nilS, 0, 0, 0, nilS⟩ := by
  unfold backM; rw [if_neg (by rw [h]; decide), if_neg (by rw [h2]; decide), if_pos h3]
theorem bk_d {P : Pz} {high : ByteArray} {unb helps : Bool} (h : (P.leaf && P.lv.gone) = false) (h2 : (helps && (!P.leaf && P.iv.held)) = false) (h3 : (!P.unb && (unb || ltS P.high high)) = false) (h4 : P.leaf = true) : backM P high unb helps = pnK 10 := by
  unfold backM; rw [if_neg (by rw [h]; decide), if_neg (by rw [h2]; decide), if_neg (by rw [h3]; decide), if_pos h4]
theorem bk_e {P : Pz} {high : ByteArray} {unb helps : Bool} (h : (P.leaf && P.lv.gone) = false) (h2 : (helps && (!P.leaf && P.iv.held)) = false) (h3 : (!P.unb && (unb || ltS P.high high)) = false) (h4 : P.leaf = false) (h5 : lastTo P.iv.ents high unb P.iv.ents.length = none) : backM P high unb helps = pnK 3 := by
  unfold backM; rw [if_neg (by rw [h]; decide), if_neg (by rw [h2]; decide), if_neg (by rw [h3]; decide), if_neg (by rw [h4]; decide), h5]
theorem bk_f {P : Pz} {high : ByteArray} {unb helps : Bool} {p : Et} (h : (P.leaf && P.lv.gone) = false) (h2 : (helps && (!P.leaf && P.iv.held)) = false) (h3 : (!P.unb && (unb || ltS P.high high)) = false) (h4 : P.leaf = false) (h5 : lastTo P.iv.ents high unb P.iv.ents.length = some p) : backM P high unb helps = ⟨1, p.2, nilS, 0, 0, 0, nilS⟩ := by
  unfold backM; rw [if_neg (by rw [h]; decide), if_neg (by rw [h2]; decide), if_neg (by rw [h3]; decide), if_neg (by rw [h4]; decide), h5]
set_option maxHeartbeats 8000000 in
theorem back_ok (P : Pz) (high : ByteArray) (unb helps : Bool) (w : World) (h : PzOk w P) (hk : SzOk high) : Calls Try.prog 37 #[.agg (pzA P), .string high, .bool unb, .bool helps] w (RetQ (.agg (pnA (backM P high unb helps))) w) := by
  obtain ⟨w0, hw0⟩ : ∃ z, z = (w.alloc (.cells (pzA P) 45)).alloc (.cells pnZ 81) := ⟨_, rfl⟩
  have f0 : Fr none_ w w0 := by rw [hw0]; exact ((Fr.refl none_ w).alloc _).alloc _
  have B0 : Hid (Blk w0 w.heap.size 45 (pzA P)) := hid_ (by rw [hw0]; exact (Blk.new w _ _).alloc _)
  have BO : Hid (Blk w0 (w.heap.size + 1) 81 pnZ) := hid_ (by rw [hw0]; exact Blk.new7 _ _ (by simp))
  have F0 := hid_ f0
  have HP := hid_ (h.keep f0)
  have HK := hid_ hk
  clear f0 h hk
  go_enter Try.func37, Try.ntmps37
  go_upto_region 1 with fail
  change Code.wp _ _ _ _ ((w.alloc (.cells (pzA P) 45)).alloc (.cells pnZ 81))
  rw [← hw0]
  clear hw0
  go_wp2_with (refine wpList_load_mid rfl 45 (.tmp 4) rfl w.heap.size 0 rfl (pzA P).toList _ (Blk.range7 (l := (pzA P).toList) B0.out) Try.underlying45 rfl page_size ?_)
  refine (bounds_ok P w0).mono ?_
  rintro e w1 ⟨rfl, hf⟩
  replace F0 := hid_ (F0.out.then_none hf)
  replace B0 := hid_ (B0.out.fr hf id)
  replace BO := hid_ (BO.out.fr hf id)
  replace HP := hid_ (HP.out.keep hf)
  clear hf
  have hso := BO.out.lt
  go_upto_region 2 with fail
  go_cut [22] (fun u wq => u = .bool (P.leaf && P.lv.gone) ∧ wq = w1)
  case first =>
    have p5 : w1.cell? ⟨w.heap.size, 5, none⟩ = some (.bool P.leaf) := B0.out.cell' rfl
    have p11 : w1.cell? ⟨w.heap.size, 11, none⟩ = some (.bool P.lv.gone) := B0.out.cell' rfl
    cases hl : P.leaf with
    | false =>
      rw [hl] at p5
      have HL := hid_ hl
      clear hl
      go_wp2_with fail
      go_meet
      case rel => exact ⟨by rw [HL.out]; rfl, rfl⟩
    | true =>
      rw [hl] at p5
      have HL := hid_ hl
      clear hl
      go_wp2_with fail
      go_meet
      case rel => exact ⟨by rw [HL.out]; rfl, rfl⟩
  case rest =>
    obtain ⟨rfl, hwx⟩ := hcut
    subst hwx
    cases hg : (P.leaf && P.lv.gone) with
    | true =>
      have HG := hid_ hg
      clear hg
      go_wp2_with (refine wpList_store_mid rfl 81 (.tmp 8) (.tmp 30) rfl (w.heap.size + 1) 0 (pnA (pnK 3)) rfl rfl (BO.out.there7 rfl) plan_size (by simp [Value.oneCell']) ?_; have ov := BO.out.over7 (pnA (pnK 3)).toList rfl; obtain ⟨w9, hw9⟩ : ∃ z, z = wc.setCells (w.heap.size + 1) 0 (pnA (pnK 3)).toList := ⟨_, rfl⟩; rw [← hw9] at ov; change wpList _ _ _ _ _ (wc.setCells (w.heap.size + 1) 0 (pnA (pnK 3)).toList); rw [← hw9]; have OV := hid_ ov; clear hw9 ov)
      refine bodyPost_ret (results_cell7 _ _ rfl (w.heap.size + 1) 0 (pnA (pnK 3)).toList _ rfl (Blk.range7 (l := (pnA (pnK 3)).toList) OV.out.1) Try.underlying81 rfl plan_size) rfl ⟨?_, F0.out.then_only OV.out.2 (.inr (by omega))⟩
      show Ending.returned (.agg (pnA (pnK 3))) = _
      rw [show backM P high unb helps = _ from bk_a HG.out]
    | false =>
      have HG := hid_ hg
      clear hg
      go_upto_region 4 with fail
      go_cut [31] (fun u wq => u = .bool (helps && (!P.leaf && P.iv.held)) ∧ wq = wc)
      case first =>
        have p5 : wc.cell? ⟨w.heap.size, 5, none⟩ = some (.bool P.leaf) := B0.out.cell' rfl
        have p17 : wc.cell? ⟨w.heap.size, 17, none⟩ = some (.bool P.iv.held) := B0.out.cell' rfl
        cases helps with
        | false =>
          go_wp2_with fail
          go_meet
          case rel => exact ⟨by simp, rfl⟩
        | true =>
          cases hl : P.leaf with
          | true =>
            rw [hl] at p5
            have HL := hid_ hl
            clear hl
            go_wp2_with fail
            go_meet
            case rel => exact ⟨by rw [HL.out]; rfl, rfl⟩
          | false =>
            rw [hl] at p5
            have HL := hid_ hl
            clear hl
            go_wp2_with fail
            go_meet
            case rel => exact ⟨by rw [HL.out]; rfl, rfl⟩
      case rest =>
        obtain ⟨rfl, hwx⟩ := hcut
        subst hwx
        cases hh : (helps && (!P.leaf && P.iv.held)) with
        | true =>
          have HH := hid_ hh
          clear hh
          have p18 : wc.cell? ⟨w.heap.size, 18, none⟩ = some (.int .i64 P.iv.hp) := B0.out.cell' rfl
          have p19 : wc.cell? ⟨w.heap.size, 19, none⟩ = some (.int .i64 P.iv.hl) := B0.out.cell' rfl
          have p20 : wc.cell? ⟨w.heap.size, 20, none⟩ = some (.string P.iv.hk) := B0.out.cell' rfl
          go_wp2_with (refine wpList_store_mid rfl 81 (.tmp 8) (.tmp 46) rfl (w.heap.size + 1) 0 (pnA (⟨5, 0, nilS, 0, P.iv.hp, P.iv.hl, P.iv.hk⟩ : Pn)) rfl rfl (BO.out.there7 rfl) plan_size (by simp [Value.oneCell']) ?_; have ov := BO.out.over7 (pnA (⟨5, 0, nilS, 0, P.iv.hp, P.iv.hl, P.iv.hk⟩ : Pn)).toList rfl; obtain ⟨w9, hw9⟩ : ∃ z, z = wc.setCells (w.heap.size + 1) 0 (pnA (⟨5, 0, nilS, 0, P.iv.hp, P.iv.hl, P.iv.hk⟩ : Pn)).toList := ⟨_, rfl⟩; rw [← hw9] at ov; change wpList _ _ _ _ _ (wc.setCells (w.heap.size + 1) 0 (pnA (⟨5, 0, nilS, 0, P.iv.hp, P.iv.hl, P.iv.hk⟩ : Pn)).toList); rw [← hw9]; have OV := hid_ ov; clear hw9 ov)
          refine bodyPost_ret (results_cell7 _ _ rfl (w.heap.size + 1) 0 (pnA (⟨5, 0, nilS, 0, P.iv.hp, P.iv.hl, P.iv.hk⟩ : Pn)).toList _ rfl (Blk.range7 (l := (pnA (⟨5, 0, nilS, 0, P.iv.hp, P.iv.hl, P.iv.hk⟩ : Pn)).toList) OV.out.1) Try.underlying81 rfl plan_size) rfl ⟨?_, F0.out.then_only OV.out.2 (.inr (by omega))⟩
          show Ending.returned (.agg (pnA (⟨5, 0, nilS, 0, P.iv.hp, P.iv.hl, P.iv.hk⟩ : Pn))) = _
          rw [show backM P high unb helps = _ from bk_b HG.out HH.out]
        | false =>
          have HH := hid_ hh
          clear hh
          obtain ⟨pu, hpu⟩ : ∃ z, P.unb = z := ⟨_, rfl⟩
          go_upto_region 6 with fail
          rw [hpu]
          have HPU := hid_ hpu
          clear hpu
          go_cut [47] (fun u wq => u = .bool (!pu && (unb || ltS P.high high)) ∧ Fr none_ wc wq)
          case first =>
            cases pu with
            | true =>
              go_wp2_with fail
              go_meet
              case rel => exact ⟨by simp, by repeat (first | exact Fr.refl _ _ | apply Fr.drewN | apply Fr.drew)⟩
            | false =>
              cases unb with
              | true =>
                go_wp2_with fail
                go_meet
                case rel => exact ⟨by simp, by repeat (first | exact Fr.refl _ _ | apply Fr.drewN | apply Fr.drew)⟩
              | false =>
                go_wp2_with fail
                refine (compare_ok P.high high wc HP.out.high_.le HK.out.le).mono ?_
                rintro e w2 ⟨rfl, q, hw2⟩
                have hf : Fr none_ wc w2 := by rw [hw2]; exact (Fr.refl none_ wc).drewN q
                have hc := cmp_neg P.high high
                go_wp2_with fail
                go_meet
                case rel => exact ⟨by simp, by repeat (first | exact hf | exact Fr.refl _ _ | apply Fr.drewN | apply Fr.drew)⟩
          case rest =>
            obtain ⟨rfl, hf⟩ := hcut
            rw [← HPU.out]
            obtain ⟨w3, hnw⟩ : ∃ z, z = wc := ⟨_, rfl⟩
            rw [← hnw] at hf ⊢
            clear hnw
            replace F0 := hid_ (F0.out.then_none hf)
            replace B0 := hid_ (B0.out.fr hf id)
            replace BO := hid_ (BO.out.fr hf id)
            replace HP := hid_ (HP.out.keep hf)
            clear hf
            have hso := BO.out.lt
            cases hb : (!P.unb && (unb || ltS P.high high)) with
            | true =>
              have HB := hid_ hb
              clear hb
              go_wp2_with (refine wpList_store_mid rfl 81 (.tmp 8) (.tmp 60) rfl (w.heap.size + 1) 0 (pnA (⟨2, P.right, nilS, 0, 0, 0, nilS⟩ : Pn)) rfl rfl (BO.out.there7 rfl) plan_size (by simp [Value.oneCell']) ?_; have ov := BO.out.over7 (pnA (⟨2, P.right, nilS, 0, 0, 0, nilS⟩ : Pn)).toList rfl; obtain ⟨w9, hw9⟩ : ∃ z, z = w3.setCells (w.heap.size + 1) 0 (pnA (⟨2, P.right, nilS, 0, 0, 0, nilS⟩ : Pn)).toList := ⟨_, rfl⟩; rw [← hw9] at ov; change wpList _ _ _ _ _ (w3.setCells (w.heap.size + 1) 0 (pnA (⟨2, P.right, nilS, 0, 0, 0, nilS⟩ : Pn)).toList); rw [← hw9]; have OV := hid_ ov; clear hw9 ov)
              refine bodyPost_ret (results_cell7 _ _ rfl (w.heap.size + 1) 0 (pnA (⟨2, P.right, nilS, 0, 0, 0, nilS⟩ : Pn)).toList _ rfl (Blk.range7 (l := (pnA (⟨2, P.right, nilS, 0, 0, 0, nilS⟩ : Pn)).toList) OV.out.1) Try.underlying81 rfl plan_size) rfl ⟨?_, F0.out.then_only OV.out.2 (.inr (by omega))⟩
              show Ending.returned (.agg (pnA (⟨2, P.right, nilS, 0, 0, 0, nilS⟩ : Pn))) = _
              rw [show backM P high unb helps = _ from bk_c HG.out HH.out HB.out]
            | false =>
              have HB := hid_ hb
              clear hb
              have p5 : w3.cell? ⟨w.heap.size, 5, none⟩ = some (.bool P.leaf) := B0.out.cell' rfl
              cases hl : P.leaf with
              | true =>
                rw [hl] at p5
                have HL := hid_ hl
                clear hl
                go_wp2_with (refine wpList_store_mid rfl 81 (.tmp 8) (.tmp 64) rfl (w.heap.size + 1) 0 (pnA (pnK 10)) rfl rfl (BO.out.there7 rfl) plan_size (by simp [Value.oneCell']) ?_; have ov := BO.out.over7 (pnA (pnK 10)).toList rfl; obtain ⟨w9, hw9⟩ : ∃ z, z = w3.setCells (w.heap.size + 1) 0 (pnA (pnK 10)).toList := ⟨_, rfl⟩; rw [← hw9] at ov; change wpList _ _ _ _ _ (w3.setCells (w.heap.size + 1) 0 (pnA (pnK 10)).toList); rw [← hw9]; have OV := hid_ ov; clear hw9 ov)
                refine bodyPost_ret (results_cell7 _ _ rfl (w.heap.size + 1) 0 (pnA (pnK 10)).toList _ rfl (Blk.range7 (l := (pnA (pnK 10)).toList) OV.out.1) Try.underlying81 rfl plan_size) rfl ⟨?_, F0.out.then_only OV.out.2 (.inr (by omega))⟩
                show Ending.returned (.agg (pnA (pnK 10))) = _
                rw [show backM P high unb helps = _ from bk_d HG.out HH.out HB.out HL.out]
              | false =>
                rw [hl] at p5
                have HL := hid_ hl
                clear hl
                have hlen : P.iv.ents.length ≤ 1000 := HP.out.iv.ok.ents.1
                have p16 : w3.cell? ⟨w.heap.size, 16, none⟩ = some (.slice P.B P.iv.ents.length P.d) := B0.out.cell' rfl
                go_wp2_with fail
                go_loopw [13] (fun i wr => ∃ k : Nat, k ≤ P.iv.ents.length ∧ i = .int .i64 ((k : Int) - 1) ∧ lastTo P.iv.ents high unb P.iv.ents.length = lastTo P.iv.ents high unb k ∧ Fr none_ w3 wr) (fun i _ => (intOf i + 1).toNat)
                case atStart => exact ⟨P.iv.ents.length, Nat.le_refl _, rfl, rfl, Fr.refl _ _⟩
                case round =>
                  obtain ⟨k, hk, rfl, hall, hfr⟩ := hrel
                  have HA := hid_ hall
                  have FR := hid_ hfr
                  have BR : Hid (Blk wr (w.heap.size + 1) 81 pnZ) := hid_ (BO.out.fr hfr id)
                  have p16 : wr.cell? ⟨w.heap.size, 16, none⟩ = some (.slice P.B P.iv.ents.length P.d) := (B0.out.fr hfr id).cell' rfl
                  have HV := hid_ (HP.out.iv.keep hfr)
                  clear hall hfr
                  rcases Nat.eq_zero_or_pos k with h0 | h0
                  · subst h0
                    have HN : Hid (lastTo P.iv.ents high unb P.iv.ents.length = none) := hid_ HA.out
                    replace F0 := hid_ (F0.out.then_none FR.out)
                    replace BO := hid_ BR.out
                    have hso := BO.out.lt
                    go_wp2_with (refine wpList_store_mid rfl 81 (.tmp 8) (.tmp 91) rfl (w.heap.size + 1) 0 (pnA (pnK 3)) rfl rfl (BO.out.there7 rfl) plan_size (by simp [Value.oneCell']) ?_; have ov := BO.out.over7 (pnA (pnK 3)).toList rfl; obtain ⟨w9, hw9⟩ : ∃ z, z = wr.setCells (w.heap.size + 1) 0 (pnA (pnK 3)).toList := ⟨_, rfl⟩; rw [← hw9] at ov; change wpList _ _ _ _ _ (wr.setCells (w.heap.size + 1) 0 (pnA (pnK 3)).toList); rw [← hw9]; have OV := hid_ ov; clear hw9 ov)
                    refine bodyPost_ret (results_cell7 _ _ rfl (w.heap.size + 1) 0 (pnA (pnK 3)).toList _ rfl (Blk.range7 (l := (pnA (pnK 3)).toList) OV.out.1) Try.underlying81 rfl plan_size) rfl ⟨?_, F0.out.then_only OV.out.2 (.inr (by omega))⟩
                    show Ending.returned (.agg (pnA (pnK 3))) = _
                    rw [show backM P high unb helps = _ from bk_e HG.out HH.out HB.out HL.out HN.out]
                  · obtain ⟨j, rfl⟩ : ∃ j, k = j + 1 := ⟨k - 1, by omega⟩
                    have hj : ((j + 1 : Nat) : Int) - 1 = (j : Int) := by omega
                    rw [hj]
                    clear hj h0
                    have hi0 : (0 : Int) ≤ (j : Int) := Int.natCast_nonneg _
                    have hi1 : (j : Int) < (P.iv.ents.length : Int) := by omega
                    obtain ⟨p, hp⟩ : ∃ p, P.iv.ents[j]? = some p := ⟨_, List.getElem?_eq_getElem (by omega)⟩
                    obtain ⟨eb, eo, hA, heb, c0, c1⟩ := et_at HV.out.rd hp
                    rw [hA] at p16
                    have HPJ := hid_ hp
                    have hz1 : SzOk p.1 := HP.out.iv.ok.ents.2 p (List.mem_of_getElem? hp)
                    have HZ := hid_ hz1
                    clear hp hz1 hA
                    go_upto_region 14 with fail
                    obtain ⟨w4, hw4⟩ : ∃ z, z = wr.alloc (.cells #[.string p.1, .int .i64 p.2] 64) := ⟨_, rfl⟩
                    have f4 : Fr none_ wr w4 := by rw [hw4]; exact (Fr.refl none_ wr).alloc _
                    have BE : Hid (Blk w4 wr.heap.size 64 #[.string p.1, .int .i64 p.2]) := hid_ (by rw [hw4]; exact Blk.new wr _ _)
                    change Code.wp _ _ _ _ (wr.alloc (.cells #[.string p.1, .int .i64 p.2] 64))
                    rw [← hw4]
                    clear hw4 p16 c0 c1
                    replace FR := hid_ (FR.out.then_none f4)
                    replace BR := hid_ (BR.out.fr f4 id)
                    clear f4
                    go_cut [87] (fun u wq => u = .bool (unb || ltS p.1 high) ∧ Fr none_ w4 wq)
                    case first =>
                      have e0 : w4.cell? ⟨wr.heap.size, 0, none⟩ = some (.string p.1) := BE.out.cell' rfl
                      cases unb with
                      | true =>
                        go_wp2_with fail
                        go_meet
                        case rel => exact ⟨by simp, by repeat (first | exact Fr.refl _ _ | apply Fr.drewN | apply Fr.drew)⟩
                      | false =>
                        go_wp2_with fail
                        refine (compare_ok p.1 high w4 HZ.out.le HK.out.le).mono ?_
                        rintro e w5 ⟨rfl, q, hw5⟩
                        have hf : Fr none_ w4 w5 := by rw [hw5]; exact (Fr.refl none_ w4).drewN q
                        have hc := cmp_neg p.1 high
                        go_wp2_with fail
                        go_meet
                        case rel => exact ⟨by simp, by repeat (first | exact hf | exact Fr.refl _ _ | apply Fr.drewN | apply Fr.drew)⟩
                    case rest =>
                    obtain ⟨rfl, hf⟩ := hcut
                    obtain ⟨w6, hnw⟩ : ∃ z, z = wc := ⟨_, rfl⟩
                    rw [← hnw] at hf ⊢
                    clear hnw
                    replace FR := hid_ (FR.out.then_none hf)
                    replace BR := hid_ (BR.out.fr hf id)
                    have e1 : w6.cell? ⟨wr.heap.size, 1, none⟩ = some (.int .i64 p.2) := (BE.out.fr hf id).cell' rfl
                    clear hf
                    have hso := BR.out.lt
                    cases ht : (unb || ltS p.1 high) with
                    | true =>
                      have HN : Hid (lastTo P.iv.ents high unb P.iv.ents.length = some p) := hid_ (by rw [HA.out]; exact last_hit HPJ.out ht)
                      clear ht
                      replace F0 := hid_ (F0.out.then_none FR.out)
                      replace BO := hid_ BR.out
                      go_wp2_with (refine wpList_store_mid rfl 81 (.tmp 8) (.tmp 90) rfl (w.heap.size + 1) 0 (pnA (⟨1, p.2, nilS, 0, 0, 0, nilS⟩ : Pn)) rfl rfl (BO.out.there7 rfl) plan_size (by simp [Value.oneCell']) ?_; have ov := BO.out.over7 (pnA (⟨1, p.2, nilS, 0, 0, 0, nilS⟩ : Pn)).toList rfl; obtain ⟨w9, hw9⟩ : ∃ z, z = w6.setCells (w.heap.size + 1) 0 (pnA (⟨1, p.2, nilS, 0, 0, 0, nilS⟩ : Pn)).toList := ⟨_, rfl⟩; rw [← hw9] at ov; change wpList _ _ _ _ _ (w6.setCells (w.heap.size + 1) 0 (pnA (⟨1, p.2, nilS, 0, 0, 0, nilS⟩ : Pn)).toList); rw [← hw9]; have OV := hid_ ov; clear hw9 ov)
                      refine bodyPost_ret (results_cell7 _ _ rfl (w.heap.size + 1) 0 (pnA (⟨1, p.2, nilS, 0, 0, 0, nilS⟩ : Pn)).toList _ rfl (Blk.range7 (l := (pnA (⟨1, p.2, nilS, 0, 0, 0, nilS⟩ : Pn)).toList) OV.out.1) Try.underlying81 rfl plan_size) rfl ⟨?_, F0.out.then_only OV.out.2 (.inr (by omega))⟩
                      show Ending.returned (.agg (pnA (⟨1, p.2, nilS, 0, 0, 0, nilS⟩ : Pn))) = _
                      rw [show backM P high unb helps = _ from bk_f HG.out HH.out HB.out HL.out HN.out]
                    | false =>
                      have HN : Hid (lastTo P.iv.ents high unb P.iv.ents.length = lastTo P.iv.ents high unb j) := hid_ (by rw [HA.out]; exact last_miss HPJ.out ht)
                      clear ht
                      go_wp2_with fail
                      go_roundw
                      case rel => exact ⟨j, by omega, by go_num, HN.out, FR.out⟩
                      case measure => first | (simp [intOf]; done) | (simp [intOf]; omega)
end Go.Proofs.Ytpjbncbmdfmlpaa
namespace Go.Proofs.Ytpjbncbmdfmlpaa
open Go.RowKit Go.BigFrame
set_option maxRecDepth 100000
set_option linter.unusedVariables false

theorem rplan_size : (Try.prog.info? 94).map (·.size) = some 7 := by kernel_rfl
/-- A younger box is none of a view's entries' rows. -/
theorem VwIn.far11 {w w' : World} {V : Vw} {A : Option Addr} {c X b0 : Nat} (h : VwIn w V A c) (hold : 0 < V.ents.length → ∀ ad, A = some ad → ad.block < b0) (hX : b0 ≤ X) (hf : Fr (only X) w w') : VwIn w' V A c := by
  refine ⟨?_, h.cap, h.capm, h.ok⟩
  rcases Nat.eq_zero_or_pos V.ents.length with h0 | h0
  · exact ⟨h.rd.1, fun hn => absurd hn (by omega)⟩
  · exact h.rd.fr hf fun ad e (e2 : ad.block = X) => by have := hold h0 ad e; omega
abbrev outV (L : List Et) (high : ByteArray) (unb : Bool) (k : Nat) : Pn := match lastTo L high unb k with
  | some p => ⟨1, p.2, nilS, 0, 0, 0, nilS⟩
  | none => pnK 3
set_option maxHeartbeats 8000000 in
theorem rback_ok (P : Pz) (high : ByteArray) (unb helps : Bool) (w : World) (h : PzOk w P) (hk : SzOk high) : Calls Try.prog 40 #[.agg (pzA P), .string high, .bool unb, .bool helps] w (RetQ (.agg (pnA (backM P high unb helps))) w) := by
  obtain ⟨w0, hw0⟩ : ∃ z, z = (w.alloc (.cells (pzA P) 68)).alloc (.cells pnZ 94) := ⟨_, rfl⟩
  have f0 : Fr none_ w w0 := by rw [hw0]; exact ((Fr.refl none_ w).alloc _).alloc _
  have B0 : Hid (Blk w0 w.heap.size 68 (pzA P)) := hid_ (by rw [hw0]; exact (Blk.new w _ _).alloc _)
  have BO : Hid (Blk w0 (w.heap.size + 1) 94 pnZ) := hid_ (by rw [hw0]; exact Blk.new7 _ _ (by simp))
  have F0 := hid_ f0
  have HP := hid_ (h.keep f0)
  have HK := hid_ hk
  have hle := h.iv.ok.ents.1
  have HOLD : Hid (0 < P.iv.ents.length → ∀ ad, P.B = some ad → ad.block < w.heap.size) := hid_ (fun hn => h.iv.rd.old (by omega) hn)
  have hsz0 := BO.out.lt
  clear f0 h hk
  go_enter Try.func40, Try.ntmps40
  go_upto_region 1 with fail
  change Code.wp _ _ _ _ ((w.alloc (.cells (pzA P) 68)).alloc (.cells pnZ 94))
  rw [← hw0]
  clear hw0
  (try go_frame)
  go_cut [20] (fun v wq => v = .bool (P.leaf && P.lv.gone) ∧ wq = w0)
  case first =>
    have p5 : w0.cell? ⟨w.heap.size, 5, none⟩ = some (.bool P.leaf) := B0.out.cell' rfl
    have p11 : w0.cell? ⟨w.heap.size, 11, none⟩ = some (.bool P.lv.gone) := B0.out.cell' rfl
    cases hl : P.leaf with
    | false =>
      rw [hl] at p5
      have HL := hid_ hl
      clear hl
      go_wp2_with fail
      go_meet
      case rel => exact ⟨by simp [HL.out], rfl⟩
    | true =>
      rw [hl] at p5
      have HL := hid_ hl
      clear hl
      go_wp2_with fail
      go_meet
      case rel => exact ⟨by simp [HL.out], rfl⟩
  case rest =>
  obtain ⟨rfl, hwc⟩ := hcut
  subst hwc
  obtain ⟨w0, rfl⟩ : ∃ z : World, z = wc := ⟨_, rfl⟩
  cases hg : (P.leaf && P.lv.gone) with
  | true =>
    have HG := hid_ hg
    clear hg
    go_wp2_with (refine wpList_store_mid rfl 94 (.tmp 8) (.tmp 21) rfl (w.heap.size + 1) 0 (pnA (pnK 3)) rfl rfl (BO.out.there7 rfl) rplan_size (by simp [Value.oneCell']) ?_; have ov := BO.out.over7 (pnA (pnK 3)).toList rfl; obtain ⟨w9, hw9⟩ : ∃ z, z = w0.setCells (w.heap.size + 1) 0 (pnA (pnK 3)).toList := ⟨_, rfl⟩; rw [← hw9] at ov; change wpList _ _ _ _ _ (w0.setCells (w.heap.size + 1) 0 (pnA (pnK 3)).toList); rw [← hw9]; have OV := hid_ ov; clear hw9 ov)
    refine bodyPost_ret (results_cell7 _ _ rfl (w.heap.size + 1) 0 (pnA (pnK 3)).toList _ rfl (Blk.range7 (l := (pnA (pnK 3)).toList) OV.out.1) Try.underlying94 rfl rplan_size) rfl ⟨by rw [bk_a HG.out], F0.out.then_only OV.out.2 (.inr (by omega))⟩
  | false =>
  have HG := hid_ hg
  clear hg
  go_upto_region 3 with fail
  (try go_frame)
  go_cut [32] (fun v wq => v = .bool (helps && (!P.leaf && P.iv.held)) ∧ wq = w0)
  case first =>
    have p5 : w0.cell? ⟨w.heap.size, 5, none⟩ = some (.bool P.leaf) := B0.out.cell' rfl
    have p17 : w0.cell? ⟨w.heap.size, 17, none⟩ = some (.bool P.iv.held) := B0.out.cell' rfl
    cases helps with
    | false =>
      go_wp2_with fail
      go_meet
      case rel => exact ⟨rfl, rfl⟩
    | true =>
      cases hl : P.leaf with
      | false =>
        rw [hl] at p5
        have HL := hid_ hl
        clear hl
        go_wp2_with fail
        go_meet
        case rel => exact ⟨by simp [HL.out], rfl⟩
      | true =>
        rw [hl] at p5
        have HL := hid_ hl
        clear hl
        go_wp2_with fail
        go_meet
        case rel => exact ⟨by simp [HL.out], rfl⟩
  case rest =>
  obtain ⟨rfl, hwc⟩ := hcut
  subst hwc
  obtain ⟨w0, rfl⟩ : ∃ z : World, z = wc := ⟨_, rfl⟩
  cases hh : (helps && (!P.leaf && P.iv.held)) with
  | true =>
    have HH := hid_ hh
    clear hh
    have p18 : w0.cell? ⟨w.heap.size, 18, none⟩ = some (.int .i64 P.iv.hp) := B0.out.cell' rfl
    have p19 : w0.cell? ⟨w.heap.size, 19, none⟩ = some (.int .i64 P.iv.hl) := B0.out.cell' rfl
    have p20 : w0.cell? ⟨w.heap.size, 20, none⟩ = some (.string P.iv.hk) := B0.out.cell' rfl
    go_wp2_with (refine wpList_store_mid rfl 94 (.tmp 8) (.tmp 36) rfl (w.heap.size + 1) 0 (pnA ⟨5, 0, nilS, 0, P.iv.hp, P.iv.hl, P.iv.hk⟩) rfl rfl (BO.out.there7 rfl) rplan_size (by simp [Value.oneCell']) ?_; have ov := BO.out.over7 (pnA ⟨5, 0, nilS, 0, P.iv.hp, P.iv.hl, P.iv.hk⟩).toList rfl; obtain ⟨w9, hw9⟩ : ∃ z, z = w0.setCells (w.heap.size + 1) 0 (pnA ⟨5, 0, nilS, 0, P.iv.hp, P.iv.hl, P.iv.hk⟩).toList := ⟨_, rfl⟩; rw [← hw9] at ov; change wpList _ _ _ _ _ (w0.setCells (w.heap.size + 1) 0 (pnA ⟨5, 0, nilS, 0, P.iv.hp, P.iv.hl, P.iv.hk⟩).toList); rw [← hw9]; have OV := hid_ ov; clear hw9 ov)
    refine bodyPost_ret (results_cell7 _ _ rfl (w.heap.size + 1) 0 (pnA ⟨5, 0, nilS, 0, P.iv.hp, P.iv.hl, P.iv.hk⟩).toList _ rfl (Blk.range7 (l := (pnA ⟨5, 0, nilS, 0, P.iv.hp, P.iv.hl, P.iv.hk⟩).toList) OV.out.1) Try.underlying94 rfl rplan_size) rfl ⟨by rw [bk_b HG.out HH.out], F0.out.then_only OV.out.2 (.inr (by omega))⟩
  | false =>
  have HH := hid_ hh
  clear hh
  have p5 : w0.cell? ⟨w.heap.size, 5, none⟩ = some (.bool P.leaf) := B0.out.cell' rfl
  have p7 : w0.cell? ⟨w.heap.size, 7, none⟩ = some (.string P.lv.high) := B0.out.cell' rfl
  have p8 : w0.cell? ⟨w.heap.size, 8, none⟩ = some (.bool P.lv.unb) := B0.out.cell' rfl
  have p9 : w0.cell? ⟨w.heap.size, 9, none⟩ = some (.int .i64 P.lv.right) := B0.out.cell' rfl
  have p13 : w0.cell? ⟨w.heap.size, 13, none⟩ = some (.string P.iv.high) := B0.out.cell' rfl
  have p14 : w0.cell? ⟨w.heap.size, 14, none⟩ = some (.bool P.iv.unb) := B0.out.cell' rfl
  have p15 : w0.cell? ⟨w.heap.size, 15, none⟩ = some (.int .i64 P.iv.right) := B0.out.cell' rfl
  go_upto_if 47 with fail
  (try go_frame)
  go_cut [9, 10, 11] (fun a b c wq => a = .string P.high ∧ b = .bool P.unb ∧ c = .int .i64 P.right ∧ wq = w0)
  case first =>
    cases hl : P.leaf with
    | false =>
      rw [hl] at p5
      have HL := hid_ hl
      clear hl
      go_wp2_with fail
      go_meet
      case rel => exact ⟨by simp [Pz.high, HL.out], by simp [Pz.unb, HL.out], by simp [Pz.right, HL.out], rfl⟩
    | true =>
      rw [hl] at p5
      have HL := hid_ hl
      clear hl
      go_wp2_with fail
      go_meet
      case rel => exact ⟨by simp [Pz.high, HL.out], by simp [Pz.unb, HL.out], by simp [Pz.right, HL.out], rfl⟩
  case rest =>
  obtain ⟨rfl, rfl, rfl, hwc⟩ := hcut
  subst hwc
  obtain ⟨w0, rfl⟩ : ∃ z : World, z = wc := ⟨_, rfl⟩
  clear p5 p7 p8 p9 p13 p14 p15
  obtain ⟨pu, hpu⟩ : ∃ z, z = P.unb := ⟨_, rfl⟩
  rw [← hpu]
  have HPU := hid_ hpu
  clear hpu
  go_upto_region 12 with fail
  (try go_frame)
  go_cut [66] (fun v wq => v = .bool (!pu && (unb || ltS P.high high)) ∧ Fr none_ w0 wq)
  case first =>
    cases pu with
    | true =>
      go_wp2_with fail
      go_meet
      case rel => exact ⟨rfl, Fr.refl _ _⟩
    | false =>
      cases unb with
      | true =>
        go_wp2_with fail
        go_meet
        case rel => exact ⟨rfl, Fr.refl _ _⟩
      | false =>
        go_wp2_with fail
        refine (before_ok P.high high w0 HP.out.high_.le HK.out.le).mono ?_
        rintro e w1 ⟨rfl, q, rfl⟩
        go_wp2_with fail
        go_meet
        case rel => exact ⟨by simp, (Fr.refl none_ w0).drewN q⟩
  case rest =>
  obtain ⟨rfl, hf⟩ := hcut
  obtain ⟨w1, rfl⟩ : ∃ z : World, z = wc := ⟨_, rfl⟩
  have B1 := hid_ (B0.out.fr hf id)
  have BO1 := hid_ (BO.out.fr hf id)
  have F1 := hid_ (F0.out.then_none hf)
  have HP1 := hid_ (HP.out.keep hf)
  have hsz1 := hf.size
  clear hf B0 BO F0 HP
  rw [HPU.out]
  clear HPU
  cases hb : (!P.unb && (unb || ltS P.high high)) with
  | true =>
    have HB := hid_ hb
    clear hb
    go_wp2_with (refine wpList_store_mid rfl 94 (.tmp 8) (.tmp 68) rfl (w.heap.size + 1) 0 (pnA ⟨2, P.right, nilS, 0, 0, 0, nilS⟩) rfl rfl (BO1.out.there7 rfl) rplan_size (by simp [Value.oneCell']) ?_; have ov := BO1.out.over7 (pnA ⟨2, P.right, nilS, 0, 0, 0, nilS⟩).toList rfl; obtain ⟨w9, hw9⟩ : ∃ z, z = w1.setCells (w.heap.size + 1) 0 (pnA ⟨2, P.right, nilS, 0, 0, 0, nilS⟩).toList := ⟨_, rfl⟩; rw [← hw9] at ov; change wpList _ _ _ _ _ (w1.setCells (w.heap.size + 1) 0 (pnA ⟨2, P.right, nilS, 0, 0, 0, nilS⟩).toList); rw [← hw9]; have OV := hid_ ov; clear hw9 ov)
    refine bodyPost_ret (results_cell7 _ _ rfl (w.heap.size + 1) 0 (pnA ⟨2, P.right, nilS, 0, 0, 0, nilS⟩).toList _ rfl (Blk.range7 (l := (pnA ⟨2, P.right, nilS, 0, 0, 0, nilS⟩).toList) OV.out.1) Try.underlying94 rfl rplan_size) rfl ⟨by rw [bk_c HG.out HH.out HB.out], F1.out.then_only OV.out.2 (.inr (by omega))⟩
  | false =>
  have HB := hid_ hb
  clear hb
  cases hl : P.leaf with
  | true =>
    have HL := hid_ hl
    have p5 : w1.cell? ⟨w.heap.size, 5, none⟩ = some (.bool P.leaf) := B1.out.cell' rfl
    rw [hl] at p5
    clear hl
    go_wp2_with (refine wpList_store_mid rfl 94 (.tmp 8) (.tmp 71) rfl (w.heap.size + 1) 0 (pnA (pnK 10)) rfl rfl (BO1.out.there7 rfl) rplan_size (by simp [Value.oneCell']) ?_; have ov := BO1.out.over7 (pnA (pnK 10)).toList rfl; obtain ⟨w9, hw9⟩ : ∃ z, z = w1.setCells (w.heap.size + 1) 0 (pnA (pnK 10)).toList := ⟨_, rfl⟩; rw [← hw9] at ov; change wpList _ _ _ _ _ (w1.setCells (w.heap.size + 1) 0 (pnA (pnK 10)).toList); rw [← hw9]; have OV := hid_ ov; clear hw9 ov)
    refine bodyPost_ret (results_cell7 _ _ rfl (w.heap.size + 1) 0 (pnA (pnK 10)).toList _ rfl (Blk.range7 (l := (pnA (pnK 10)).toList) OV.out.1) Try.underlying94 rfl rplan_size) rfl ⟨by rw [bk_d HG.out HH.out HB.out HL.out], F1.out.then_only OV.out.2 (.inr (by omega))⟩
  | false =>
  have HL := hid_ hl
  have p5 : w1.cell? ⟨w.heap.size, 5, none⟩ = some (.bool P.leaf) := B1.out.cell' rfl
  rw [hl] at p5
  clear hl
  go_upto_region 17 with (refine wpList_store_mid rfl 94 (.tmp 12) (.tmp 72) rfl w1.heap.size 0 (pnA (pnK 3)) rfl rfl (new_there w1 _ pnZ) rplan_size (by simp [Value.oneCell']) ?_; obtain ⟨w2, hw2⟩ : ∃ w2, w2 = (w1.alloc (.cells pnZ 94)).setCells w1.heap.size 0 (pnA (pnK 3)).toList := ⟨_, rfl⟩; change wpList _ _ _ _ _ ((w1.alloc (.cells pnZ 94)).setCells w1.heap.size 0 (pnA (pnK 3)).toList); rw [← hw2]; have P2 : Hid (Blk w2 w1.heap.size 94 (pnA (pnK 3)) ∧ Fr none_ w1 w2) := hid_ (by rw [hw2]; exact new_copy w1 _ pnZ _ rfl); clear hw2)
  have B2 := hid_ (B1.out.fr P2.out.2 id)
  have BO2 := hid_ (BO1.out.fr P2.out.2 id)
  have F2 := hid_ (F1.out.then_none P2.out.2)
  have HP2 := hid_ (HP1.out.keep P2.out.2)
  have PX := hid_ P2.out.1
  obtain ⟨X, hX⟩ : ∃ X, X = w1.heap.size := ⟨_, rfl⟩
  rw [← hX] at PX
  rw [← hX]
  have hXw : w.heap.size + 1 < X := by omega
  clear hX P2 B1 BO1 F1 HP1 p5
  go_wp2_with fail
  go_loopw [13] (fun i wr => ∃ k : Nat, k ≤ P.iv.ents.length ∧ i = .int .i64 k ∧ Blk wr X 94 (pnA (outV P.iv.ents high unb k)) ∧ Blk wr w.heap.size 68 (pzA P) ∧ Blk wr (w.heap.size + 1) 94 pnZ ∧ Fr (only X) w2 wr ∧ VwIn wr P.iv P.B P.d) (fun i _ => P.iv.ents.length - (intOf i).toNat)
  case atStart => exact ⟨0, Nat.zero_le _, rfl, PX.out, B2.out, BO2.out, Fr.refl _ _, HP2.out.iv⟩
  case round =>
    obtain ⟨k, hk, rfl, hx, hp, ho, hfr, hvi⟩ := hrel
    have BX := hid_ hx
    have BP := hid_ hp
    have BO3 := hid_ ho
    have F3 := hid_ hfr
    have VI := hid_ hvi
    have hi0 : (0 : Int) ≤ (k : Int) := Int.natCast_nonneg _
    have p16 : wr.cell? ⟨w.heap.size, 16, none⟩ = some (.slice P.B P.iv.ents.length P.d) := hp.cell' rfl
    clear hx hp ho hfr hvi
    by_cases hlt : k < P.iv.ents.length
    · have hi1 : (k : Int) < (P.iv.ents.length : Int) := by omega
      obtain ⟨p, hpp⟩ : ∃ p, P.iv.ents[k]? = some p := ⟨_, List.getElem?_eq_getElem hlt⟩
      obtain ⟨b, off, hA, hb, c0, c1⟩ := et_at VI.out.rd hpp
      rw [hA] at p16
      have HPP := hid_ hpp
      have hps := VI.out.ok.ents.2 p (List.mem_of_getElem? hpp)
      have HPS := hid_ hps
      clear hpp hA hps
      go_upto_region 20 with fail
      (try go_frame)
      go_cut [92] (fun v wq => v = .bool (unb || ltS p.1 high) ∧ Fr none_ wr wq)
      case first =>
        cases unb with
        | true =>
          go_wp2_with fail
          go_meet
          case rel => exact ⟨rfl, Fr.refl _ _⟩
        | false =>
          go_wp2_with fail
          refine (before_ok p.1 high wr HPS.out.le HK.out.le).mono ?_
          rintro e w4 ⟨rfl, q, rfl⟩
          go_wp2_with fail
          go_meet
          case rel => exact ⟨by simp, (Fr.refl none_ wr).drewN q⟩
      case rest =>
      obtain ⟨rfl, hf⟩ := hcut
      obtain ⟨w4, rfl⟩ : ∃ z : World, z = wc := ⟨_, rfl⟩
      have BX4 := hid_ (BX.out.fr hf id)
      have BP4 := hid_ (BP.out.fr hf id)
      have BO4 := hid_ (BO3.out.fr hf id)
      have F4 := hid_ (F3.out.then_none hf)
      have VI4 := hid_ (VI.out.keep hf)
      have d1 := cellFr c1 hf
      have q16 := cellFr p16 hf
      clear hf BX BP BO3 F3 VI c0 c1 p16
      cases hc : (unb || ltS p.1 high) with
      | false =>
        have HO : Hid (outV P.iv.ents high unb (k + 1) = outV P.iv.ents high unb k) := hid_ (by unfold outV; rw [last_miss HPP.out hc])
        clear hc
        go_wp2_with fail
        go_roundw
        case rel => exact ⟨k + 1, by omega, by go_num, by rw [HO.out]; exact BX4.out, BP4.out, BO4.out, F4.out, VI4.out⟩
        case measure => simp [intOf]; omega
      | true =>
        have HO : Hid (outV P.iv.ents high unb (k + 1) = ⟨1, p.2, nilS, 0, 0, 0, nilS⟩) := hid_ (by unfold outV; rw [last_hit HPP.out hc])
        clear hc
        go_wp2_with (refine wpList_store_mid rfl 94 (.tmp 12) (.tmp 100) rfl X 0 (pnA ⟨1, p.2, nilS, 0, 0, 0, nilS⟩) rfl rfl (BX4.out.there7 rfl) rplan_size (by simp [Value.oneCell']) ?_; have ov := BX4.out.over7 (pnA ⟨1, p.2, nilS, 0, 0, 0, nilS⟩).toList rfl; obtain ⟨w9, hw9⟩ : ∃ z, z = w4.setCells X 0 (pnA ⟨1, p.2, nilS, 0, 0, 0, nilS⟩).toList := ⟨_, rfl⟩; rw [← hw9] at ov; change wpList _ _ _ _ _ (w4.setCells X 0 (pnA ⟨1, p.2, nilS, 0, 0, 0, nilS⟩).toList); rw [← hw9]; have OV := hid_ ov; clear hw9 ov)
        go_roundw
        case rel => exact ⟨k + 1, by omega, by go_num, by rw [HO.out]; exact OV.out.1, BP4.out.fr OV.out.2 (only_ne (by omega)), BO4.out.fr OV.out.2 (only_ne (by omega)), F4.out.then_only OV.out.2 (.inl rfl), VI4.out.far11 HOLD.out (by omega) OV.out.2⟩
        case measure => simp [intOf]; omega
    · obtain rfl : k = P.iv.ents.length := by omega
      obtain ⟨pn, hpn⟩ : ∃ pn, pn = outV P.iv.ents high unb P.iv.ents.length := ⟨_, rfl⟩
      rw [← hpn] at BX
      have hbk : backM P high unb helps = pn := by
        rw [hpn]
        unfold outV
        cases hlt : lastTo P.iv.ents high unb P.iv.ents.length with
        | none => exact bk_e HG.out HH.out HB.out HL.out hlt
        | some p => exact bk_f HG.out HH.out HB.out HL.out hlt
      have HBK := hid_ hbk
      clear hpn hbk hlt
      go_wp2_with (first | (refine wpList_load_mid rfl 94 (.tmp 12) rfl X 0 rfl (pnA pn).toList _ (Blk.range7 (l := (pnA pn).toList) BX.out) Try.underlying94 rfl rplan_size ?_) | (refine wpList_store_mid rfl 94 (.tmp 8) (.tmp 101) rfl (w.heap.size + 1) 0 (pnA pn) rfl rfl (BO3.out.there7 rfl) rplan_size (by simp [Value.oneCell']) ?_; have ov := BO3.out.over7 (pnA pn).toList rfl; obtain ⟨w9, hw9⟩ : ∃ z, z = wr.setCells (w.heap.size + 1) 0 (pnA pn).toList := ⟨_, rfl⟩; rw [← hw9] at ov; change wpList _ _ _ _ _ (wr.setCells (w.heap.size + 1) 0 (pnA pn).toList); rw [← hw9]; have OV := hid_ ov; clear hw9 ov))
      refine bodyPost_ret (results_cell7 _ _ rfl (w.heap.size + 1) 0 (pnA pn).toList _ rfl (Blk.range7 (l := (pnA pn).toList) OV.out.1) Try.underlying94 rfl rplan_size) rfl ⟨by rw [HBK.out], (F2.out.then_only F3.out (.inr (by omega))).then_only OV.out.2 (.inr (by omega))⟩
end Go.Proofs.Ytpjbncbmdfmlpaa
namespace Go.Proofs.Ytpjbncbmdfmlpaa
open Go.RowKit
set_option linter.unusedVariables false
section
variable {P : Program} {md : Region.Mode} {ops : Array Oper} {Q : Exit → Act → World → Prop} {S : World → Prop} {m fuel : Nat} {listed : Array Bool} {a : Act} {w : World} {oi oj ok : Oper}
theorem u_three (i j k : Nat) (hi : ops[i]? = some oi) (hj : ops[j]? = some oj) (hk : ops[k]? = some ok) (wi : Region.wanted oi (yielded ops a.tmps) = true) (wj : Region.wanted oj (yielded ops a.tmps) = true) (wk : Region.wanted ok (yielded ops a.tmps) = true) (hr : Region.ready md ops listed = [i, j, k])
    (h1 : Oper.wp P oi a w (fun a' w' => (m ≤ i ∨ S w') ∧ UwA P md ops Q S m fuel (listed.setIfInBounds i true) a' w') Q)
    (h2 : Oper.wp P oj a w (fun a' w' => (m ≤ j ∨ S w') ∧ UwA P md ops Q S m fuel (listed.setIfInBounds j true) a' w') Q)
    (h3 : Oper.wp P ok a w (fun a' w' => (m ≤ k ∨ S w') ∧ UwA P md ops Q S m fuel (listed.setIfInBounds k true) a' w') Q) : UwA P md ops Q S m (fuel + 1) listed a w := by
  refine ⟨wpAnyU_all hr (by simp) (fun q hq => ?_)⟩
  have hq' : q = i ∨ q = j ∨ q = k := by simpa using hq
  rcases hq' with rfl | rfl | rfl
  · unfold wpOp
    simp only [hi, wi, if_true]
    exact .inl (Oper.wp_mono (fun a' w' h' => ⟨h'.1, h'.2.h⟩) h1)
  · unfold wpOp
    simp only [hj, wj, if_true]
    exact .inl (Oper.wp_mono (fun a' w' h' => ⟨h'.1, h'.2.h⟩) h2)
  · unfold wpOp
    simp only [hk, wk, if_true]
    exact .inl (Oper.wp_mono (fun a' w' h' => ⟨h'.1, h'.2.h⟩) h3)
theorem wp_callK {K : Act → World → Prop} (f : FuncId) (vs : Array Value) (v : Value) (F : World → Prop) (hx : (execOp a.eval oi).run P w = .ok (.enter f vs) w) (hc : Calls P f vs w (fun e w' => e = .returned v ∧ F w'))
    (h : ∀ w', F w' → K (a.put oi.dst v) w') : Oper.wp P oi a w K Q := by
  unfold Oper.wp
  rw [hx, Oper.upon_enter]
  refine hc.mono ?_
  rintro e w' ⟨rfl, hF⟩
  exact h w' hF
end
end Go.Proofs.Ytpjbncbmdfmlpaa
namespace Go.Proofs.Ytpjbncbmdfmlpaa
open Go.RowKit Go.BigFrame
set_option maxRecDepth 100000
set_option linter.unusedVariables false
theorem backM_congr {P Q : Pz} {high : ByteArray} {unb helps : Bool} (h : (P.leaf, P.lv, P.iv) = (Q.leaf, Q.lv, Q.iv)) : backM P high unb helps = backM Q high unb helps := by
  have h1 : P.leaf = Q.leaf := congrArg (fun x => x.1) h
  have h2 : P.lv = Q.lv := congrArg (fun x => x.2.1) h
  have h3 : P.iv = Q.iv := congrArg (fun x => x.2.2) h
  unfold backM Pz.unb Pz.high Pz.right
  rw [h1, h2, h3]
theorem backM_entry (P : Pz) (high : ByteArray) (unb helps : Bool) : ∃ (k t h l : Int) (q : ByteArray), backM P high unb helps = ⟨k, t, nilS, 0, h, l, q⟩ := by
  unfold backM
  split
  · exact ⟨_, _, _, _, _, rfl⟩
  split
  · exact ⟨_, _, _, _, _, rfl⟩
  split
  · exact ⟨_, _, _, _, _, rfl⟩
  split
  · exact ⟨_, _, _, _, _, rfl⟩
  split <;> exact ⟨_, _, _, _, _, rfl⟩
set_option maxHeartbeats 8000000 in
theorem backs11_law (c : Cz) (unb : Bool) (L1 L2 : List Ch) (w : World) (h : CzIn w c L1 L2) (hcp : RwCap L1) : Calls Try.prog 11 #[.agg (czA c), .bool unb] w (RetQ (.bool true) w) := by
  obtain ⟨w0, hw0⟩ : ∃ z, z = w.alloc (.cells (czA c) 75) := ⟨_, rfl⟩
  have f0 : Fr none_ w w0 := by rw [hw0]; exact (Fr.refl none_ w).alloc _
  have BC := hid_ (show Blk w0 w.heap.size 75 (czA c) by rw [hw0]; exact Blk.new w _ _)
  have F := hid_ f0
  have H := hid_ (h.keep f0)
  have HCP := hid_ hcp
  clear f0 h hcp
  go_enter Try.func11, Try.ntmps11
  go_upto_region 1 with fail
  change Code.wp _ _ _ _ (w.alloc (.cells (czA c) 75))
  rw [← hw0]
  clear hw0
  go_wp2_with (refine wpList_load_mid rfl 75 (.tmp 2) rfl w.heap.size 0 rfl (czA c).toList _ (Blk.range7 (l := (czA c).toList) BC.out) Try.underlying75 rfl case_size ?_)
  refine (cfew_ok c L1 L2 w0 H.out).mono ?_
  rintro e w1 ⟨b, rfl, hb, hf⟩
  have G0 := hid_ hb
  replace F := hid_ (F.out.then_none hf)
  replace BC := hid_ (BC.out.fr hf id)
  replace H := hid_ (H.out.keep hf)
  clear hb hf
  cases b with
  | false =>
    go_wp2_with fail
    refine (awake11_ok w1).mono ?_
    rintro e w2 ⟨rfl, hf⟩
    go_wp2
    go_ret
    exact ⟨rfl, F.out.then_none hf⟩
  | true =>
    have HF := hid_ (G0.out rfl)
    clear G0
    go_wp2_with (refine wpList_load_mid rfl 75 (.tmp 2) rfl w.heap.size 0 rfl (czA c).toList _ (Blk.range7 (l := (czA c).toList) BC.out) Try.underlying75 rfl case_size ?_)
    refine (made11_ok c L1 L2 w1 H.out HF.out).mono ?_
    rintro e w2 ⟨pv, a, ok, rfl, hsz, hoc, hvi, hfu, hf, hok⟩
    have VI := hid_ hvi
    have FU := hid_ hfu
    have HOK := hid_ hok
    have HSZ := hid_ hsz
    have HOC := hid_ hoc
    replace F := hid_ (F.out.then_none hf)
    replace BC := hid_ (BC.out.fr hf id)
    replace H := hid_ (H.out.keep hf)
    have hsw := BC.out.lt
    clear hf hvi hfu hok hsz hoc
    have hwB : Hid (w.heap.size ≤ w2.heap.size ∧ w.heap.size ≤ w2.heap.size + 1) := hid_ (by omega)
    go_upto_region 4 with (first | (obtain ⟨w3, hw3⟩ : ∃ z, z = ((w2.alloc (.cells pgZ 45)).alloc (.cells azZ 77)) := ⟨_, rfl⟩; have BZ : Hid (Blk w3 w2.heap.size 45 pgZ ∧ Blk w3 (w2.heap.size + 1) 77 azZ ∧ Fr none_ w2 w3) := hid_ (by rw [hw3]; exact ⟨(Blk.new w2 _ _).alloc _, Blk.new7 _ _ (by simp), ((Fr.refl none_ w2).alloc _).alloc _⟩); change wpList _ _ _ _ _ ((w2.alloc (.cells pgZ 45)).alloc (.cells azZ 77)); rw [← hw3]; clear hw3; refine wpList_store_mid rfl 45 (.tmp 5) (.tmp 19) rfl w2.heap.size 0 pv rfl rfl (by rw [HSZ.out]; exact BZ.out.1.there7 rfl) (by rw [HSZ.out]; exact page_size) HOC.out ?_; have ov := BZ.out.1.over7 pv.toList (by rw [Array.length_toList, HSZ.out]; rfl); obtain ⟨w4, hw4⟩ : ∃ z, z = w3.setCells w2.heap.size 0 pv.toList := ⟨_, rfl⟩; change wpList _ _ _ _ _ (w3.setCells w2.heap.size 0 pv.toList); rw [← hw4] at ov ⊢; clear hw4; have OV := hid_ ov; clear ov) | (refine wpList_store_mid rfl 77 (.tmp 6) (.tmp 20) rfl (w2.heap.size + 1) 0 (azA a) rfl rfl ((BZ.out.2.1.fr OV.out.2 (only_ne (by omega))).there7 rfl) above_size7 (by simp [Value.oneCell']) ?_; have ow := (BZ.out.2.1.fr OV.out.2 (only_ne (by omega))).over7 (azA a).toList rfl; obtain ⟨w5, hw5⟩ : ∃ z, z = w4.setCells (w2.heap.size + 1) 0 (azA a).toList := ⟨_, rfl⟩; change wpList _ _ _ _ _ (w4.setCells (w2.heap.size + 1) 0 (azA a).toList); rw [← hw5] at ow ⊢; clear hw5; have OW := hid_ ow; clear ow))
    have F5 : Hid (Fr none_ w w5) := hid_ (((F.out.then_none BZ.out.2.2).then_only OV.out.2 (.inr hwB.out.1)).then_only OW.out.2 (.inr hwB.out.2))
    have BA := hid_ OW.out.1
    have BP := hid_ (OV.out.1.fr OW.out.2 (only_ne (by omega)))
    have B5 := hid_ (((BC.out.fr BZ.out.2.2 id).fr OV.out.2 (only_ne (by omega))).fr OW.out.2 (only_ne (by omega)))
    have V5 : Hid (VwIn w5 a.V a.B a.d) := hid_ (((VI.out.keep BZ.out.2.2).farZ BZ.out.1 OV.out.2).farA (BZ.out.2.1.fr OV.out.2 (only_ne (by omega))) OW.out.2)
    clear hwB
    have f25 : Fr none_ w2 w5 := (BZ.out.2.2.then_only OV.out.2 (.inr (Nat.le_refl _))).then_only OW.out.2 (.inr (by omega))
    have H5 := hid_ (H.out.keep f25)
    clear f25
    cases ok with
    | false =>
      clear BZ OV OW
      go_wp2_with fail
      refine (awake11_ok w5).mono ?_
      rintro e w6 ⟨rfl, hf⟩
      go_wp2
      go_ret
      exact ⟨rfl, F5.out.then_none hf⟩
    | true =>
      obtain ⟨P, hpe, hpo, hpn, hpc, hpof⟩ := HOK.out rfl
      have HPE := hid_ hpe
      have PO := hid_ hpo
      have HOF := hid_ (And.intro hpn (And.intro hpc hpof))
      clear hpe hpo hpn hpc hpof
      have P5 : Hid (PzOk w5 P) := hid_ (by have h4 := PO.out; exact ⟨h4.low, h4.high, h4.rows, ((h4.iv.keep BZ.out.2.2).farZ BZ.out.1 OV.out.2).farA (BZ.out.2.1.fr OV.out.2 (only_ne (by omega))) OW.out.2, h4.nc⟩)
      have K5 := hid_ (H.out.key)
      rw [HPE.out] at BP
      have hlw2 := BP.out.lt
      have hlw3 := BA.out.lt
      clear BZ OV OW V5 VI FU HOK HSZ HOC PO
      go_wp2_with (refine wpList_load_mid rfl 75 (.tmp 2) rfl w.heap.size 0 rfl (czA c).toList _ (Blk.range7 (l := (czA c).toList) B5.out) Try.underlying75 rfl case_size ?_)
      refine (known_ok c L1 L2 w5 H5.out HF.out HCP.out (by rw [HOF.out.2.2]; simp)).mono ?_
      rintro e w6 ⟨Q, a', rfl, hQ, hvr, hQn, hQc, hQof, hV', -, -, hf6⟩
      have HQO : Hid ((P.leaf, P.lv, P.iv) = (Q.leaf, Q.lv, Q.iv)) := hid_ (by have h := HOF.out.2.2; rw [hQof] at h; exact (Option.some.inj h).symm)
      have Q6 := hid_ hQ
      replace BP := hid_ (BP.out.fr hf6 id)
      replace B5 := hid_ (B5.out.fr hf6 id)
      replace P5 := hid_ (P5.out.keep hf6)
      replace F5 := hid_ (F5.out.then_none hf6)
      have hsz6 := hf6.size
      clear hQ hQn hQc hQof hV' hf6 H5 BA
      have hcw := B5.out.lt
      go_upto_region 7 with (first | (obtain ⟨w7, hw7⟩ : ∃ z, z = ((w6.alloc (.cells pgZ 68)).alloc (.cells azZ 91)) := ⟨_, rfl⟩; have BZ : Hid (Blk w7 w6.heap.size 68 pgZ ∧ Blk w7 (w6.heap.size + 1) 91 azZ ∧ Fr none_ w6 w7) := hid_ (by rw [hw7]; exact ⟨(Blk.new w6 _ _).alloc _, Blk.new7 _ _ (by simp), ((Fr.refl none_ w6).alloc _).alloc _⟩); change wpList _ _ _ _ _ ((w6.alloc (.cells pgZ 68)).alloc (.cells azZ 91)); rw [← hw7]; clear hw7; refine wpList_store_mid rfl 68 (.tmp 8) (.tmp 28) rfl w6.heap.size 0 (pzA Q) rfl rfl (BZ.out.1.there7 rfl) rpage_size (by simp [Value.oneCell']; exact hvr) ?_; have ov := BZ.out.1.over7 (pzA Q).toList rfl; obtain ⟨w8, hw8⟩ : ∃ z, z = w7.setCells w6.heap.size 0 (pzA Q).toList := ⟨_, rfl⟩; change wpList _ _ _ _ _ (w7.setCells w6.heap.size 0 (pzA Q).toList); rw [← hw8] at ov ⊢; clear hw8; have OV := hid_ ov; clear ov) | (refine wpList_store_mid rfl 91 (.tmp 9) (.tmp 29) rfl (w6.heap.size + 1) 0 (azA a') rfl rfl ((BZ.out.2.1.fr OV.out.2 (only_ne (by omega))).there7 rfl) rabove_size (by simp [Value.oneCell']) ?_; have ow := (BZ.out.2.1.fr OV.out.2 (only_ne (by omega))).over7 (azA a').toList rfl; obtain ⟨w9, hw9⟩ : ∃ z, z = w8.setCells (w6.heap.size + 1) 0 (azA a').toList := ⟨_, rfl⟩; change wpList _ _ _ _ _ (w8.setCells (w6.heap.size + 1) 0 (azA a').toList); rw [← hw9] at ow ⊢; clear hw9; have OW := hid_ ow; clear ow))
      have f69 : Fr none_ w6 w9 := (BZ.out.2.2.then_only OV.out.2 (.inr (Nat.le_refl _))).then_only OW.out.2 (.inr (by omega))
      have BQ := hid_ (OV.out.1.fr OW.out.2 (only_ne (by omega)))
      replace BP := hid_ (BP.out.fr f69 id)
      replace B5 := hid_ (B5.out.fr f69 id)
      replace P5 := hid_ (P5.out.keep f69)
      replace Q6 := hid_ (Q6.out.keep f69)
      replace F5 := hid_ (F5.out.then_none f69)
      clear f69 BZ OV OW
      obtain ⟨pk, pt, ph, pl, pq, hpn⟩ := backM_entry P c.key unb c.writes
      have HPN := hid_ hpn.symm
      have HQN : Hid (backM Q c.key unb c.writes = (⟨pk, pt, nilS, 0, ph, pl, pq⟩ : Pn)) := hid_ (by rw [← hpn]; exact (backM_congr HQO.out).symm)
      clear hpn
      obtain ⟨gp, hgp⟩ : ∃ g, g = w2.heap.size := ⟨_, rfl⟩
      obtain ⟨gq, hgq⟩ : ∃ g, g = w6.heap.size := ⟨_, rfl⟩
      rw [← hgp] at BP
      rw [← hgq] at BQ
      rw [← hgp, ← hgq]
      clear hgp hgq
      (try go_frame)
      go_cut [10, 11] (fun u v wq => ∃ g1 g2, u = .pointer (some ⟨g1, 0, none⟩) ∧ v = .pointer (some ⟨g2, 0, none⟩) ∧ Blk wq g1 81 (pnA (⟨pk, pt, nilS, 0, ph, pl, pq⟩ : Pn)) ∧ Blk wq g2 94 (pnA (⟨pk, pt, nilS, 0, ph, pl, pq⟩ : Pn)) ∧ Fr none_ w9 wq)
      case first =>
        have hS0 : (fun w' : World => Fr none_ w9 w') w9.drew := (Fr.refl none_ w9).drew
        refine wp_region_u 18 (fun w' : World => Fr none_ w9 w') (by kernel_rfl) ?_
        have k4 : w9.cell? ⟨w.heap.size, 4, none⟩ = some (.string c.key) := B5.out.cell' rfl
        have k11 : w9.cell? ⟨w.heap.size, 11, none⟩ = some (.bool c.writes) := B5.out.cell' rfl
        refine u_take 0 (some 30) (.agg (pzA P)) rfl rfl (by kernel_rfl) (by kernel_rfl) (by kernel_rfl) (by kernel_rfl) (fun _ _ _ h => h) (yieldsIf_load_mid (by kernel_rfl) 45 (.tmp 5) rfl gp 0 (by kernel_rfl) (pzA P).toList _ (fun w' hS => Blk.range7 (l := (pzA P).toList) (BP.out.fr hS id)) Try.underlying45 rfl page_size) hS0 ?_
        go_frame
        refine u_take 1 (some 31) (.pointer (some ⟨w.heap.size, 4, none⟩)) rfl rfl (by kernel_rfl) (by kernel_rfl) (by kernel_rfl) (by kernel_rfl) (fun _ _ _ h => h) (y_val (by kernel_rfl) (fun w' hS => by kernel_rfl)) hS0 ?_
        go_frame
        refine u_take 2 (some 32) (.string c.key) rfl rfl (by kernel_rfl) (by kernel_rfl) (by kernel_rfl) (by kernel_rfl) (fun _ _ _ h => h) (y_cell 9 (.tmp 31) ⟨w.heap.size, 4, none⟩ _ (by kernel_rfl) rfl (by kernel_rfl) (fun w' hS => cellFr k4 hS) Try.underlying9 rfl) hS0 ?_
        go_frame
        refine u_take 3 (some 33) (.bool unb) rfl rfl (by kernel_rfl) (by kernel_rfl) (by kernel_rfl) (by kernel_rfl) (fun _ _ _ h => h) (y_val (by kernel_rfl) (fun w' hS => by kernel_rfl)) hS0 ?_
        go_frame
        refine u_take 4 (some 34) (.pointer (some ⟨w.heap.size, 11, none⟩)) rfl rfl (by kernel_rfl) (by kernel_rfl) (by kernel_rfl) (by kernel_rfl) (fun _ _ _ h => h) (y_val (by kernel_rfl) (fun w' hS => by kernel_rfl)) hS0 ?_
        go_frame
        refine u_take 5 (some 35) (.bool c.writes) rfl rfl (by kernel_rfl) (by kernel_rfl) (by kernel_rfl) (by kernel_rfl) (fun _ _ _ h => h) (y_cell 4 (.tmp 34) ⟨w.heap.size, 11, none⟩ _ (by kernel_rfl) rfl (by kernel_rfl) (fun w' hS => cellFr k11 hS) Try.underlying4 rfl) hS0 ?_
        go_frame
        refine u_take 7 (some 37) (.agg (pzA Q)) rfl rfl (by kernel_rfl) (by kernel_rfl) (by kernel_rfl) (by kernel_rfl) (fun _ _ _ h => h) (yieldsIf_load_mid (by kernel_rfl) 68 (.tmp 8) rfl gq 0 (by kernel_rfl) (pzA Q).toList _ (fun w' hS => Blk.range7 (l := (pzA Q).toList) (BQ.out.fr hS id)) Try.underlying68 rfl rpage_size) hS0 ?_
        go_frame
        refine u_take 8 (some 38) (.pointer (some ⟨w.heap.size, 4, none⟩)) rfl rfl (by kernel_rfl) (by kernel_rfl) (by kernel_rfl) (by kernel_rfl) (fun _ _ _ h => h) (y_val (by kernel_rfl) (fun w' hS => by kernel_rfl)) hS0 ?_
        go_frame
        refine u_take 9 (some 39) (.string c.key) rfl rfl (by kernel_rfl) (by kernel_rfl) (by kernel_rfl) (by kernel_rfl) (fun _ _ _ h => h) (y_cell 9 (.tmp 38) ⟨w.heap.size, 4, none⟩ _ (by kernel_rfl) rfl (by kernel_rfl) (fun w' hS => cellFr k4 hS) Try.underlying9 rfl) hS0 ?_
        go_frame
        refine u_take 10 (some 40) (.bool unb) rfl rfl (by kernel_rfl) (by kernel_rfl) (by kernel_rfl) (by kernel_rfl) (fun _ _ _ h => h) (y_val (by kernel_rfl) (fun w' hS => by kernel_rfl)) hS0 ?_
        go_frame
        refine u_take 11 (some 41) (.pointer (some ⟨w.heap.size, 11, none⟩)) rfl rfl (by kernel_rfl) (by kernel_rfl) (by kernel_rfl) (by kernel_rfl) (fun _ _ _ h => h) (y_val (by kernel_rfl) (fun w' hS => by kernel_rfl)) hS0 ?_
        go_frame
        refine u_take 12 (some 42) (.bool c.writes) rfl rfl (by kernel_rfl) (by kernel_rfl) (by kernel_rfl) (by kernel_rfl) (fun _ _ _ h => h) (y_cell 4 (.tmp 41) ⟨w.heap.size, 11, none⟩ _ (by kernel_rfl) rfl (by kernel_rfl) (fun w' hS => cellFr k11 hS) Try.underlying4 rfl) hS0 ?_
        go_frame
        clear k4 k11 hS0
        obtain ⟨y0, hy0⟩ : ∃ z, z = w9.drew := ⟨_, rfl⟩
        have F0a : Hid (Fr none_ w9 y0) := hid_ (by rw [hy0]; exact (Fr.refl none_ w9).drew)
        rw [← hy0]
        clear hy0
        refine u_three 6 14 15 rfl rfl rfl (by kernel_rfl) (by kernel_rfl) (by kernel_rfl) (by kernel_rfl) ?_ ?_ ?_
        · skip
          refine wp_callK 37 #[.agg (pzA P), .string c.key, .bool unb, .bool c.writes] (.agg (pnA (⟨pk, pt, nilS, 0, ph, pl, pq⟩ : Pn))) (Fr none_ y0) (by kernel_rfl) ((back_ok P c.key unb c.writes y0 (P5.out.keep F0a.out) K5.out).mono (fun e w' h => ⟨by rw [h.1, ← HPN.out], h.2⟩)) ?_
          intro y1 hf
          have sy1 := hf.size
          have F2 := hid_ (F0a.out.then_none hf)
          clear hf
          refine ⟨.inr F2.out, ?_⟩
          go_frame
          refine u_three 13 14 15 rfl rfl rfl (by kernel_rfl) (by kernel_rfl) (by kernel_rfl) (by kernel_rfl) ?_ ?_ ?_
          · skip
            refine wp_callK 40 #[.agg (pzA Q), .string c.key, .bool unb, .bool c.writes] (.agg (pnA (⟨pk, pt, nilS, 0, ph, pl, pq⟩ : Pn))) (Fr none_ y1) (by kernel_rfl) ((rback_ok Q c.key unb c.writes y1 (Q6.out.keep F2.out) K5.out).mono (fun e w' h => ⟨by rw [h.1, HQN.out], h.2⟩)) ?_
            intro y3 hf
            have sy3 := hf.size
            have F4 := hid_ (F2.out.then_none hf)
            clear hf
            refine ⟨.inr F4.out, ?_⟩
            go_frame
            refine u_two 14 15 rfl rfl (by kernel_rfl) (by kernel_rfl) (by kernel_rfl) ?_ ?_
            · skip
              refine wp_known (.pointer (some ⟨y3.heap.size, 0, none⟩)) (y3.alloc (.cells pnZ 81)) (by kernel_rfl) ⟨.inr (F4.out.alloc _), ?_⟩
              go_frame
              obtain ⟨y5, hy5⟩ : ∃ z, z = y3.alloc (.cells pnZ 81) := ⟨_, rfl⟩
              have sy5 : y3.heap.size < y5.heap.size := by rw [hy5]; simp [World.size_alloc]
              have f6 : Fr none_ y3 y5 := by rw [hy5]; exact (Fr.refl none_ _).alloc _
              have B8 : Hid (Blk y5 y3.heap.size 81 pnZ) := hid_ (by rw [hy5]; exact Blk.new _ _ _)
              have F7 := hid_ (F4.out.then_none f6)
              rw [← hy5]
              clear hy5 f6
              refine u_run 15 (some 11) (.pointer (some ⟨y5.heap.size, 0, none⟩)) (y5.alloc (.cells pnZ 94)) rfl rfl (by kernel_rfl) (by kernel_rfl) (by kernel_rfl) (.inr (F7.out.alloc _)) ?_
              go_frame
              obtain ⟨y9, hy9⟩ : ∃ z, z = y5.alloc (.cells pnZ 94) := ⟨_, rfl⟩
              have sy9 : y5.heap.size < y9.heap.size := by rw [hy9]; simp [World.size_alloc]
              have f10 : Fr none_ y5 y9 := by rw [hy9]; exact (Fr.refl none_ _).alloc _
              replace B8 := hid_ (B8.out.fr f10 id)
              have B12 : Hid (Blk y9 y5.heap.size 94 pnZ) := hid_ (by rw [hy9]; exact Blk.new _ _ _)
              have F11 := hid_ (F7.out.then_none f10)
              rw [← hy9]
              clear hy9 f10
              refine u_store 16 81 (.tmp 10) (.tmp 36) (y3.heap.size) 0 (pnA (⟨pk, pt, nilS, 0, ph, pl, pq⟩ : Pn)) rfl rfl (by kernel_rfl) (by kernel_rfl) rfl (by kernel_rfl) (by kernel_rfl) (B8.out.there7 rfl) plan_size (by simp [Value.oneCell']) ?_
              intro y13 hy13
              have ov := B8.out.over7 (pnA (⟨pk, pt, nilS, 0, ph, pl, pq⟩ : Pn)).toList rfl
              rw [← hy13] at ov
              have B15 := hid_ ov.1
              replace B12 := hid_ (B12.out.fr ov.2 (only_ne (by omega)))
              have hge := F4.out.size
              have F14 := hid_ (F11.out.then_only ov.2 (.inr (by omega)))
              clear hy13 ov hge
              refine ⟨F14.out, ?_⟩
              refine u_store 17 94 (.tmp 11) (.tmp 43) (y5.heap.size) 0 (pnA (⟨pk, pt, nilS, 0, ph, pl, pq⟩ : Pn)) rfl rfl (by kernel_rfl) (by kernel_rfl) rfl (by kernel_rfl) (by kernel_rfl) (B12.out.there7 rfl) rplan_size (by simp [Value.oneCell']) ?_
              intro y16 hy16
              have ov := B12.out.over7 (pnA (⟨pk, pt, nilS, 0, ph, pl, pq⟩ : Pn)).toList rfl
              rw [← hy16] at ov
              have B18 := hid_ ov.1
              replace B15 := hid_ (B15.out.fr ov.2 (only_ne (by omega)))
              have hge := F7.out.size
              have F17 := hid_ (F14.out.then_only ov.2 (.inr (by omega)))
              clear hy16 ov hge
              refine ⟨F17.out, ?_⟩
              refine u_done (by kernel_rfl) ?_
              (try simp only [Exit.then])
              (try go_frame)
              (first | (rename_i hKm; refine hKm _ _ ?_) | (rename_i hKm _; refine hKm _ _ ?_) | (rename_i hKm _ _; refine hKm _ _ ?_) | (rename_i hKm _ _ _; refine hKm _ _ ?_))
              go_meet
              case rel => exact ⟨_, _, rfl, rfl, B15.out, B18.out, F17.out⟩
            · skip
              refine wp_known (.pointer (some ⟨y3.heap.size, 0, none⟩)) (y3.alloc (.cells pnZ 94)) (by kernel_rfl) ⟨.inr (F4.out.alloc _), ?_⟩
              go_frame
              obtain ⟨y19, hy19⟩ : ∃ z, z = y3.alloc (.cells pnZ 94) := ⟨_, rfl⟩
              have sy19 : y3.heap.size < y19.heap.size := by rw [hy19]; simp [World.size_alloc]
              have f20 : Fr none_ y3 y19 := by rw [hy19]; exact (Fr.refl none_ _).alloc _
              have B22 : Hid (Blk y19 y3.heap.size 94 pnZ) := hid_ (by rw [hy19]; exact Blk.new _ _ _)
              have F21 := hid_ (F4.out.then_none f20)
              rw [← hy19]
              clear hy19 f20
              refine u_run 14 (some 10) (.pointer (some ⟨y19.heap.size, 0, none⟩)) (y19.alloc (.cells pnZ 81)) rfl rfl (by kernel_rfl) (by kernel_rfl) (by kernel_rfl) (.inr (F21.out.alloc _)) ?_
              go_frame
              obtain ⟨y23, hy23⟩ : ∃ z, z = y19.alloc (.cells pnZ 81) := ⟨_, rfl⟩
              have sy23 : y19.heap.size < y23.heap.size := by rw [hy23]; simp [World.size_alloc]
              have f24 : Fr none_ y19 y23 := by rw [hy23]; exact (Fr.refl none_ _).alloc _
              replace B22 := hid_ (B22.out.fr f24 id)
              have B26 : Hid (Blk y23 y19.heap.size 81 pnZ) := hid_ (by rw [hy23]; exact Blk.new _ _ _)
              have F25 := hid_ (F21.out.then_none f24)
              rw [← hy23]
              clear hy23 f24
              refine u_store 16 81 (.tmp 10) (.tmp 36) (y19.heap.size) 0 (pnA (⟨pk, pt, nilS, 0, ph, pl, pq⟩ : Pn)) rfl rfl (by kernel_rfl) (by kernel_rfl) rfl (by kernel_rfl) (by kernel_rfl) (B26.out.there7 rfl) plan_size (by simp [Value.oneCell']) ?_
              intro y27 hy27
              have ov := B26.out.over7 (pnA (⟨pk, pt, nilS, 0, ph, pl, pq⟩ : Pn)).toList rfl
              rw [← hy27] at ov
              have B29 := hid_ ov.1
              replace B22 := hid_ (B22.out.fr ov.2 (only_ne (by omega)))
              have hge := F21.out.size
              have F28 := hid_ (F25.out.then_only ov.2 (.inr (by omega)))
              clear hy27 ov hge
              refine ⟨F28.out, ?_⟩
              refine u_store 17 94 (.tmp 11) (.tmp 43) (y3.heap.size) 0 (pnA (⟨pk, pt, nilS, 0, ph, pl, pq⟩ : Pn)) rfl rfl (by kernel_rfl) (by kernel_rfl) rfl (by kernel_rfl) (by kernel_rfl) (B22.out.there7 rfl) rplan_size (by simp [Value.oneCell']) ?_
              intro y30 hy30
              have ov := B22.out.over7 (pnA (⟨pk, pt, nilS, 0, ph, pl, pq⟩ : Pn)).toList rfl
              rw [← hy30] at ov
              have B32 := hid_ ov.1
              replace B29 := hid_ (B29.out.fr ov.2 (only_ne (by omega)))
              have hge := F4.out.size
              have F31 := hid_ (F28.out.then_only ov.2 (.inr (by omega)))
              clear hy30 ov hge
              refine ⟨F31.out, ?_⟩
              refine u_done (by kernel_rfl) ?_
              (try simp only [Exit.then])
              (try go_frame)
              (first | (rename_i hKm; refine hKm _ _ ?_) | (rename_i hKm _; refine hKm _ _ ?_) | (rename_i hKm _ _; refine hKm _ _ ?_) | (rename_i hKm _ _ _; refine hKm _ _ ?_))
              go_meet
              case rel => exact ⟨_, _, rfl, rfl, B29.out, B32.out, F31.out⟩
          · skip
            refine wp_known (.pointer (some ⟨y1.heap.size, 0, none⟩)) (y1.alloc (.cells pnZ 81)) (by kernel_rfl) ⟨.inr (F2.out.alloc _), ?_⟩
            go_frame
            obtain ⟨y33, hy33⟩ : ∃ z, z = y1.alloc (.cells pnZ 81) := ⟨_, rfl⟩
            have sy33 : y1.heap.size < y33.heap.size := by rw [hy33]; simp [World.size_alloc]
            have f34 : Fr none_ y1 y33 := by rw [hy33]; exact (Fr.refl none_ _).alloc _
            have B36 : Hid (Blk y33 y1.heap.size 81 pnZ) := hid_ (by rw [hy33]; exact Blk.new _ _ _)
            have F35 := hid_ (F2.out.then_none f34)
            rw [← hy33]
            clear hy33 f34
            refine u_two 13 15 rfl rfl (by kernel_rfl) (by kernel_rfl) (by kernel_rfl) ?_ ?_
            · skip
              refine wp_callK 40 #[.agg (pzA Q), .string c.key, .bool unb, .bool c.writes] (.agg (pnA (⟨pk, pt, nilS, 0, ph, pl, pq⟩ : Pn))) (Fr none_ y33) (by kernel_rfl) ((rback_ok Q c.key unb c.writes y33 (Q6.out.keep F35.out) K5.out).mono (fun e w' h => ⟨by rw [h.1, HQN.out], h.2⟩)) ?_
              intro y37 hf
              have sy37 := hf.size
              replace B36 := hid_ (B36.out.fr hf id)
              have F38 := hid_ (F35.out.then_none hf)
              clear hf
              refine ⟨.inr F38.out, ?_⟩
              go_frame
              refine u_run 15 (some 11) (.pointer (some ⟨y37.heap.size, 0, none⟩)) (y37.alloc (.cells pnZ 94)) rfl rfl (by kernel_rfl) (by kernel_rfl) (by kernel_rfl) (.inr (F38.out.alloc _)) ?_
              go_frame
              obtain ⟨y39, hy39⟩ : ∃ z, z = y37.alloc (.cells pnZ 94) := ⟨_, rfl⟩
              have sy39 : y37.heap.size < y39.heap.size := by rw [hy39]; simp [World.size_alloc]
              have f40 : Fr none_ y37 y39 := by rw [hy39]; exact (Fr.refl none_ _).alloc _
              replace B36 := hid_ (B36.out.fr f40 id)
              have B42 : Hid (Blk y39 y37.heap.size 94 pnZ) := hid_ (by rw [hy39]; exact Blk.new _ _ _)
              have F41 := hid_ (F38.out.then_none f40)
              rw [← hy39]
              clear hy39 f40
              refine u_store 16 81 (.tmp 10) (.tmp 36) (y1.heap.size) 0 (pnA (⟨pk, pt, nilS, 0, ph, pl, pq⟩ : Pn)) rfl rfl (by kernel_rfl) (by kernel_rfl) rfl (by kernel_rfl) (by kernel_rfl) (B36.out.there7 rfl) plan_size (by simp [Value.oneCell']) ?_
              intro y43 hy43
              have ov := B36.out.over7 (pnA (⟨pk, pt, nilS, 0, ph, pl, pq⟩ : Pn)).toList rfl
              rw [← hy43] at ov
              have B45 := hid_ ov.1
              replace B42 := hid_ (B42.out.fr ov.2 (only_ne (by omega)))
              have hge := F2.out.size
              have F44 := hid_ (F41.out.then_only ov.2 (.inr (by omega)))
              clear hy43 ov hge
              refine ⟨F44.out, ?_⟩
              refine u_store 17 94 (.tmp 11) (.tmp 43) (y37.heap.size) 0 (pnA (⟨pk, pt, nilS, 0, ph, pl, pq⟩ : Pn)) rfl rfl (by kernel_rfl) (by kernel_rfl) rfl (by kernel_rfl) (by kernel_rfl) (B42.out.there7 rfl) rplan_size (by simp [Value.oneCell']) ?_
              intro y46 hy46
              have ov := B42.out.over7 (pnA (⟨pk, pt, nilS, 0, ph, pl, pq⟩ : Pn)).toList rfl
              rw [← hy46] at ov
              have B48 := hid_ ov.1
              replace B45 := hid_ (B45.out.fr ov.2 (only_ne (by omega)))
              have hge := F38.out.size
              have F47 := hid_ (F44.out.then_only ov.2 (.inr (by omega)))
              clear hy46 ov hge
              refine ⟨F47.out, ?_⟩
              refine u_done (by kernel_rfl) ?_
              (try simp only [Exit.then])
              (try go_frame)
              (first | (rename_i hKm; refine hKm _ _ ?_) | (rename_i hKm _; refine hKm _ _ ?_) | (rename_i hKm _ _; refine hKm _ _ ?_) | (rename_i hKm _ _ _; refine hKm _ _ ?_))
              go_meet
              case rel => exact ⟨_, _, rfl, rfl, B45.out, B48.out, F47.out⟩
            · skip
              refine wp_known (.pointer (some ⟨y33.heap.size, 0, none⟩)) (y33.alloc (.cells pnZ 94)) (by kernel_rfl) ⟨.inr (F35.out.alloc _), ?_⟩
              go_frame
              obtain ⟨y49, hy49⟩ : ∃ z, z = y33.alloc (.cells pnZ 94) := ⟨_, rfl⟩
              have sy49 : y33.heap.size < y49.heap.size := by rw [hy49]; simp [World.size_alloc]
              have f50 : Fr none_ y33 y49 := by rw [hy49]; exact (Fr.refl none_ _).alloc _
              replace B36 := hid_ (B36.out.fr f50 id)
              have B52 : Hid (Blk y49 y33.heap.size 94 pnZ) := hid_ (by rw [hy49]; exact Blk.new _ _ _)
              have F51 := hid_ (F35.out.then_none f50)
              rw [← hy49]
              clear hy49 f50
              refine u_call 13 (some 43) 40 #[.agg (pzA Q), .string c.key, .bool unb, .bool c.writes] (.agg (pnA (⟨pk, pt, nilS, 0, ph, pl, pq⟩ : Pn))) (Fr none_ y49) rfl rfl (by kernel_rfl) (by kernel_rfl) (by kernel_rfl) ((rback_ok Q c.key unb c.writes y49 (Q6.out.keep F51.out) K5.out).mono (fun e w' h => ⟨by rw [h.1, HQN.out], h.2⟩)) ?_
              intro y53 hf
              have sy53 := hf.size
              replace B36 := hid_ (B36.out.fr hf id)
              replace B52 := hid_ (B52.out.fr hf id)
              have F54 := hid_ (F51.out.then_none hf)
              clear hf
              refine ⟨F54.out, ?_⟩
              go_frame
              refine u_store 16 81 (.tmp 10) (.tmp 36) (y1.heap.size) 0 (pnA (⟨pk, pt, nilS, 0, ph, pl, pq⟩ : Pn)) rfl rfl (by kernel_rfl) (by kernel_rfl) rfl (by kernel_rfl) (by kernel_rfl) (B36.out.there7 rfl) plan_size (by simp [Value.oneCell']) ?_
              intro y55 hy55
              have ov := B36.out.over7 (pnA (⟨pk, pt, nilS, 0, ph, pl, pq⟩ : Pn)).toList rfl
              rw [← hy55] at ov
              have B57 := hid_ ov.1
              replace B52 := hid_ (B52.out.fr ov.2 (only_ne (by omega)))
              have hge := F2.out.size
              have F56 := hid_ (F54.out.then_only ov.2 (.inr (by omega)))
              clear hy55 ov hge
              refine ⟨F56.out, ?_⟩
              refine u_store 17 94 (.tmp 11) (.tmp 43) (y33.heap.size) 0 (pnA (⟨pk, pt, nilS, 0, ph, pl, pq⟩ : Pn)) rfl rfl (by kernel_rfl) (by kernel_rfl) rfl (by kernel_rfl) (by kernel_rfl) (B52.out.there7 rfl) rplan_size (by simp [Value.oneCell']) ?_
              intro y58 hy58
              have ov := B52.out.over7 (pnA (⟨pk, pt, nilS, 0, ph, pl, pq⟩ : Pn)).toList rfl
              rw [← hy58] at ov
              have B60 := hid_ ov.1
              replace B57 := hid_ (B57.out.fr ov.2 (only_ne (by omega)))
              have hge := F35.out.size
              have F59 := hid_ (F56.out.then_only ov.2 (.inr (by omega)))
              clear hy58 ov hge
              refine ⟨F59.out, ?_⟩
              refine u_done (by kernel_rfl) ?_
              (try simp only [Exit.then])
              (try go_frame)
              (first | (rename_i hKm; refine hKm _ _ ?_) | (rename_i hKm _; refine hKm _ _ ?_) | (rename_i hKm _ _; refine hKm _ _ ?_) | (rename_i hKm _ _ _; refine hKm _ _ ?_))
              go_meet
              case rel => exact ⟨_, _, rfl, rfl, B57.out, B60.out, F59.out⟩
          · skip
            refine wp_known (.pointer (some ⟨y1.heap.size, 0, none⟩)) (y1.alloc (.cells pnZ 94)) (by kernel_rfl) ⟨.inr (F2.out.alloc _), ?_⟩
            go_frame
            obtain ⟨y61, hy61⟩ : ∃ z, z = y1.alloc (.cells pnZ 94) := ⟨_, rfl⟩
            have sy61 : y1.heap.size < y61.heap.size := by rw [hy61]; simp [World.size_alloc]
            have f62 : Fr none_ y1 y61 := by rw [hy61]; exact (Fr.refl none_ _).alloc _
            have B64 : Hid (Blk y61 y1.heap.size 94 pnZ) := hid_ (by rw [hy61]; exact Blk.new _ _ _)
            have F63 := hid_ (F2.out.then_none f62)
            rw [← hy61]
            clear hy61 f62
            refine u_two 13 14 rfl rfl (by kernel_rfl) (by kernel_rfl) (by kernel_rfl) ?_ ?_
            · skip
              refine wp_callK 40 #[.agg (pzA Q), .string c.key, .bool unb, .bool c.writes] (.agg (pnA (⟨pk, pt, nilS, 0, ph, pl, pq⟩ : Pn))) (Fr none_ y61) (by kernel_rfl) ((rback_ok Q c.key unb c.writes y61 (Q6.out.keep F63.out) K5.out).mono (fun e w' h => ⟨by rw [h.1, HQN.out], h.2⟩)) ?_
              intro y65 hf
              have sy65 := hf.size
              replace B64 := hid_ (B64.out.fr hf id)
              have F66 := hid_ (F63.out.then_none hf)
              clear hf
              refine ⟨.inr F66.out, ?_⟩
              go_frame
              refine u_run 14 (some 10) (.pointer (some ⟨y65.heap.size, 0, none⟩)) (y65.alloc (.cells pnZ 81)) rfl rfl (by kernel_rfl) (by kernel_rfl) (by kernel_rfl) (.inr (F66.out.alloc _)) ?_
              go_frame
              obtain ⟨y67, hy67⟩ : ∃ z, z = y65.alloc (.cells pnZ 81) := ⟨_, rfl⟩
              have sy67 : y65.heap.size < y67.heap.size := by rw [hy67]; simp [World.size_alloc]
              have f68 : Fr none_ y65 y67 := by rw [hy67]; exact (Fr.refl none_ _).alloc _
              replace B64 := hid_ (B64.out.fr f68 id)
              have B70 : Hid (Blk y67 y65.heap.size 81 pnZ) := hid_ (by rw [hy67]; exact Blk.new _ _ _)
              have F69 := hid_ (F66.out.then_none f68)
              rw [← hy67]
              clear hy67 f68
              refine u_store 16 81 (.tmp 10) (.tmp 36) (y65.heap.size) 0 (pnA (⟨pk, pt, nilS, 0, ph, pl, pq⟩ : Pn)) rfl rfl (by kernel_rfl) (by kernel_rfl) rfl (by kernel_rfl) (by kernel_rfl) (B70.out.there7 rfl) plan_size (by simp [Value.oneCell']) ?_
              intro y71 hy71
              have ov := B70.out.over7 (pnA (⟨pk, pt, nilS, 0, ph, pl, pq⟩ : Pn)).toList rfl
              rw [← hy71] at ov
              have B73 := hid_ ov.1
              replace B64 := hid_ (B64.out.fr ov.2 (only_ne (by omega)))
              have hge := F66.out.size
              have F72 := hid_ (F69.out.then_only ov.2 (.inr (by omega)))
              clear hy71 ov hge
              refine ⟨F72.out, ?_⟩
              refine u_store 17 94 (.tmp 11) (.tmp 43) (y1.heap.size) 0 (pnA (⟨pk, pt, nilS, 0, ph, pl, pq⟩ : Pn)) rfl rfl (by kernel_rfl) (by kernel_rfl) rfl (by kernel_rfl) (by kernel_rfl) (B64.out.there7 rfl) rplan_size (by simp [Value.oneCell']) ?_
              intro y74 hy74
              have ov := B64.out.over7 (pnA (⟨pk, pt, nilS, 0, ph, pl, pq⟩ : Pn)).toList rfl
              rw [← hy74] at ov
              have B76 := hid_ ov.1
              replace B73 := hid_ (B73.out.fr ov.2 (only_ne (by omega)))
              have hge := F2.out.size
              have F75 := hid_ (F72.out.then_only ov.2 (.inr (by omega)))
              clear hy74 ov hge
              refine ⟨F75.out, ?_⟩
              refine u_done (by kernel_rfl) ?_
              (try simp only [Exit.then])
              (try go_frame)
              (first | (rename_i hKm; refine hKm _ _ ?_) | (rename_i hKm _; refine hKm _ _ ?_) | (rename_i hKm _ _; refine hKm _ _ ?_) | (rename_i hKm _ _ _; refine hKm _ _ ?_))
              go_meet
              case rel => exact ⟨_, _, rfl, rfl, B73.out, B76.out, F75.out⟩
            · skip
              refine wp_known (.pointer (some ⟨y61.heap.size, 0, none⟩)) (y61.alloc (.cells pnZ 81)) (by kernel_rfl) ⟨.inr (F63.out.alloc _), ?_⟩
              go_frame
              obtain ⟨y77, hy77⟩ : ∃ z, z = y61.alloc (.cells pnZ 81) := ⟨_, rfl⟩
              have sy77 : y61.heap.size < y77.heap.size := by rw [hy77]; simp [World.size_alloc]
              have f78 : Fr none_ y61 y77 := by rw [hy77]; exact (Fr.refl none_ _).alloc _
              replace B64 := hid_ (B64.out.fr f78 id)
              have B80 : Hid (Blk y77 y61.heap.size 81 pnZ) := hid_ (by rw [hy77]; exact Blk.new _ _ _)
              have F79 := hid_ (F63.out.then_none f78)
              rw [← hy77]
              clear hy77 f78
              refine u_call 13 (some 43) 40 #[.agg (pzA Q), .string c.key, .bool unb, .bool c.writes] (.agg (pnA (⟨pk, pt, nilS, 0, ph, pl, pq⟩ : Pn))) (Fr none_ y77) rfl rfl (by kernel_rfl) (by kernel_rfl) (by kernel_rfl) ((rback_ok Q c.key unb c.writes y77 (Q6.out.keep F79.out) K5.out).mono (fun e w' h => ⟨by rw [h.1, HQN.out], h.2⟩)) ?_
              intro y81 hf
              have sy81 := hf.size
              replace B64 := hid_ (B64.out.fr hf id)
              replace B80 := hid_ (B80.out.fr hf id)
              have F82 := hid_ (F79.out.then_none hf)
              clear hf
              refine ⟨F82.out, ?_⟩
              go_frame
              refine u_store 16 81 (.tmp 10) (.tmp 36) (y61.heap.size) 0 (pnA (⟨pk, pt, nilS, 0, ph, pl, pq⟩ : Pn)) rfl rfl (by kernel_rfl) (by kernel_rfl) rfl (by kernel_rfl) (by kernel_rfl) (B80.out.there7 rfl) plan_size (by simp [Value.oneCell']) ?_
              intro y83 hy83
              have ov := B80.out.over7 (pnA (⟨pk, pt, nilS, 0, ph, pl, pq⟩ : Pn)).toList rfl
              rw [← hy83] at ov
              have B85 := hid_ ov.1
              replace B64 := hid_ (B64.out.fr ov.2 (only_ne (by omega)))
              have hge := F63.out.size
              have F84 := hid_ (F82.out.then_only ov.2 (.inr (by omega)))
              clear hy83 ov hge
              refine ⟨F84.out, ?_⟩
              refine u_store 17 94 (.tmp 11) (.tmp 43) (y1.heap.size) 0 (pnA (⟨pk, pt, nilS, 0, ph, pl, pq⟩ : Pn)) rfl rfl (by kernel_rfl) (by kernel_rfl) rfl (by kernel_rfl) (by kernel_rfl) (B64.out.there7 rfl) rplan_size (by simp [Value.oneCell']) ?_
              intro y86 hy86
              have ov := B64.out.over7 (pnA (⟨pk, pt, nilS, 0, ph, pl, pq⟩ : Pn)).toList rfl
              rw [← hy86] at ov
              have B88 := hid_ ov.1
              replace B85 := hid_ (B85.out.fr ov.2 (only_ne (by omega)))
              have hge := F2.out.size
              have F87 := hid_ (F84.out.then_only ov.2 (.inr (by omega)))
              clear hy86 ov hge
              refine ⟨F87.out, ?_⟩
              refine u_done (by kernel_rfl) ?_
              (try simp only [Exit.then])
              (try go_frame)
              (first | (rename_i hKm; refine hKm _ _ ?_) | (rename_i hKm _; refine hKm _ _ ?_) | (rename_i hKm _ _; refine hKm _ _ ?_) | (rename_i hKm _ _ _; refine hKm _ _ ?_))
              go_meet
              case rel => exact ⟨_, _, rfl, rfl, B85.out, B88.out, F87.out⟩
        · skip
          refine wp_known (.pointer (some ⟨y0.heap.size, 0, none⟩)) (y0.alloc (.cells pnZ 81)) (by kernel_rfl) ⟨.inr (F0a.out.alloc _), ?_⟩
          go_frame
          obtain ⟨y89, hy89⟩ : ∃ z, z = y0.alloc (.cells pnZ 81) := ⟨_, rfl⟩
          have sy89 : y0.heap.size < y89.heap.size := by rw [hy89]; simp [World.size_alloc]
          have f90 : Fr none_ y0 y89 := by rw [hy89]; exact (Fr.refl none_ _).alloc _
          have B92 : Hid (Blk y89 y0.heap.size 81 pnZ) := hid_ (by rw [hy89]; exact Blk.new _ _ _)
          have F91 := hid_ (F0a.out.then_none f90)
          rw [← hy89]
          clear hy89 f90
          refine u_two 6 15 rfl rfl (by kernel_rfl) (by kernel_rfl) (by kernel_rfl) ?_ ?_
          · skip
            refine wp_callK 37 #[.agg (pzA P), .string c.key, .bool unb, .bool c.writes] (.agg (pnA (⟨pk, pt, nilS, 0, ph, pl, pq⟩ : Pn))) (Fr none_ y89) (by kernel_rfl) ((back_ok P c.key unb c.writes y89 (P5.out.keep F91.out) K5.out).mono (fun e w' h => ⟨by rw [h.1, ← HPN.out], h.2⟩)) ?_
            intro y93 hf
            have sy93 := hf.size
            replace B92 := hid_ (B92.out.fr hf id)
            have F94 := hid_ (F91.out.then_none hf)
            clear hf
            refine ⟨.inr F94.out, ?_⟩
            go_frame
            refine u_two 13 15 rfl rfl (by kernel_rfl) (by kernel_rfl) (by kernel_rfl) ?_ ?_
            · skip
              refine wp_callK 40 #[.agg (pzA Q), .string c.key, .bool unb, .bool c.writes] (.agg (pnA (⟨pk, pt, nilS, 0, ph, pl, pq⟩ : Pn))) (Fr none_ y93) (by kernel_rfl) ((rback_ok Q c.key unb c.writes y93 (Q6.out.keep F94.out) K5.out).mono (fun e w' h => ⟨by rw [h.1, HQN.out], h.2⟩)) ?_
              intro y95 hf
              have sy95 := hf.size
              replace B92 := hid_ (B92.out.fr hf id)
              have F96 := hid_ (F94.out.then_none hf)
              clear hf
              refine ⟨.inr F96.out, ?_⟩
              go_frame
              refine u_run 15 (some 11) (.pointer (some ⟨y95.heap.size, 0, none⟩)) (y95.alloc (.cells pnZ 94)) rfl rfl (by kernel_rfl) (by kernel_rfl) (by kernel_rfl) (.inr (F96.out.alloc _)) ?_
              go_frame
              obtain ⟨y97, hy97⟩ : ∃ z, z = y95.alloc (.cells pnZ 94) := ⟨_, rfl⟩
              have sy97 : y95.heap.size < y97.heap.size := by rw [hy97]; simp [World.size_alloc]
              have f98 : Fr none_ y95 y97 := by rw [hy97]; exact (Fr.refl none_ _).alloc _
              replace B92 := hid_ (B92.out.fr f98 id)
              have B100 : Hid (Blk y97 y95.heap.size 94 pnZ) := hid_ (by rw [hy97]; exact Blk.new _ _ _)
              have F99 := hid_ (F96.out.then_none f98)
              rw [← hy97]
              clear hy97 f98
              refine u_store 16 81 (.tmp 10) (.tmp 36) (y0.heap.size) 0 (pnA (⟨pk, pt, nilS, 0, ph, pl, pq⟩ : Pn)) rfl rfl (by kernel_rfl) (by kernel_rfl) rfl (by kernel_rfl) (by kernel_rfl) (B92.out.there7 rfl) plan_size (by simp [Value.oneCell']) ?_
              intro y101 hy101
              have ov := B92.out.over7 (pnA (⟨pk, pt, nilS, 0, ph, pl, pq⟩ : Pn)).toList rfl
              rw [← hy101] at ov
              have B103 := hid_ ov.1
              replace B100 := hid_ (B100.out.fr ov.2 (only_ne (by omega)))
              have hge := F0a.out.size
              have F102 := hid_ (F99.out.then_only ov.2 (.inr (by omega)))
              clear hy101 ov hge
              refine ⟨F102.out, ?_⟩
              refine u_store 17 94 (.tmp 11) (.tmp 43) (y95.heap.size) 0 (pnA (⟨pk, pt, nilS, 0, ph, pl, pq⟩ : Pn)) rfl rfl (by kernel_rfl) (by kernel_rfl) rfl (by kernel_rfl) (by kernel_rfl) (B100.out.there7 rfl) rplan_size (by simp [Value.oneCell']) ?_
              intro y104 hy104
              have ov := B100.out.over7 (pnA (⟨pk, pt, nilS, 0, ph, pl, pq⟩ : Pn)).toList rfl
              rw [← hy104] at ov
              have B106 := hid_ ov.1
              replace B103 := hid_ (B103.out.fr ov.2 (only_ne (by omega)))
              have hge := F96.out.size
              have F105 := hid_ (F102.out.then_only ov.2 (.inr (by omega)))
              clear hy104 ov hge
              refine ⟨F105.out, ?_⟩
              refine u_done (by kernel_rfl) ?_
              (try simp only [Exit.then])
              (try go_frame)
              (first | (rename_i hKm; refine hKm _ _ ?_) | (rename_i hKm _; refine hKm _ _ ?_) | (rename_i hKm _ _; refine hKm _ _ ?_) | (rename_i hKm _ _ _; refine hKm _ _ ?_))
              go_meet
              case rel => exact ⟨_, _, rfl, rfl, B103.out, B106.out, F105.out⟩
            · skip
              refine wp_known (.pointer (some ⟨y93.heap.size, 0, none⟩)) (y93.alloc (.cells pnZ 94)) (by kernel_rfl) ⟨.inr (F94.out.alloc _), ?_⟩
              go_frame
              obtain ⟨y107, hy107⟩ : ∃ z, z = y93.alloc (.cells pnZ 94) := ⟨_, rfl⟩
              have sy107 : y93.heap.size < y107.heap.size := by rw [hy107]; simp [World.size_alloc]
              have f108 : Fr none_ y93 y107 := by rw [hy107]; exact (Fr.refl none_ _).alloc _
              replace B92 := hid_ (B92.out.fr f108 id)
              have B110 : Hid (Blk y107 y93.heap.size 94 pnZ) := hid_ (by rw [hy107]; exact Blk.new _ _ _)
              have F109 := hid_ (F94.out.then_none f108)
              rw [← hy107]
              clear hy107 f108
              refine u_call 13 (some 43) 40 #[.agg (pzA Q), .string c.key, .bool unb, .bool c.writes] (.agg (pnA (⟨pk, pt, nilS, 0, ph, pl, pq⟩ : Pn))) (Fr none_ y107) rfl rfl (by kernel_rfl) (by kernel_rfl) (by kernel_rfl) ((rback_ok Q c.key unb c.writes y107 (Q6.out.keep F109.out) K5.out).mono (fun e w' h => ⟨by rw [h.1, HQN.out], h.2⟩)) ?_
              intro y111 hf
              have sy111 := hf.size
              replace B92 := hid_ (B92.out.fr hf id)
              replace B110 := hid_ (B110.out.fr hf id)
              have F112 := hid_ (F109.out.then_none hf)
              clear hf
              refine ⟨F112.out, ?_⟩
              go_frame
              refine u_store 16 81 (.tmp 10) (.tmp 36) (y0.heap.size) 0 (pnA (⟨pk, pt, nilS, 0, ph, pl, pq⟩ : Pn)) rfl rfl (by kernel_rfl) (by kernel_rfl) rfl (by kernel_rfl) (by kernel_rfl) (B92.out.there7 rfl) plan_size (by simp [Value.oneCell']) ?_
              intro y113 hy113
              have ov := B92.out.over7 (pnA (⟨pk, pt, nilS, 0, ph, pl, pq⟩ : Pn)).toList rfl
              rw [← hy113] at ov
              have B115 := hid_ ov.1
              replace B110 := hid_ (B110.out.fr ov.2 (only_ne (by omega)))
              have hge := F0a.out.size
              have F114 := hid_ (F112.out.then_only ov.2 (.inr (by omega)))
              clear hy113 ov hge
              refine ⟨F114.out, ?_⟩
              refine u_store 17 94 (.tmp 11) (.tmp 43) (y93.heap.size) 0 (pnA (⟨pk, pt, nilS, 0, ph, pl, pq⟩ : Pn)) rfl rfl (by kernel_rfl) (by kernel_rfl) rfl (by kernel_rfl) (by kernel_rfl) (B110.out.there7 rfl) rplan_size (by simp [Value.oneCell']) ?_
              intro y116 hy116
              have ov := B110.out.over7 (pnA (⟨pk, pt, nilS, 0, ph, pl, pq⟩ : Pn)).toList rfl
              rw [← hy116] at ov
              have B118 := hid_ ov.1
              replace B115 := hid_ (B115.out.fr ov.2 (only_ne (by omega)))
              have hge := F94.out.size
              have F117 := hid_ (F114.out.then_only ov.2 (.inr (by omega)))
              clear hy116 ov hge
              refine ⟨F117.out, ?_⟩
              refine u_done (by kernel_rfl) ?_
              (try simp only [Exit.then])
              (try go_frame)
              (first | (rename_i hKm; refine hKm _ _ ?_) | (rename_i hKm _; refine hKm _ _ ?_) | (rename_i hKm _ _; refine hKm _ _ ?_) | (rename_i hKm _ _ _; refine hKm _ _ ?_))
              go_meet
              case rel => exact ⟨_, _, rfl, rfl, B115.out, B118.out, F117.out⟩
          · skip
            refine wp_known (.pointer (some ⟨y89.heap.size, 0, none⟩)) (y89.alloc (.cells pnZ 94)) (by kernel_rfl) ⟨.inr (F91.out.alloc _), ?_⟩
            go_frame
            obtain ⟨y119, hy119⟩ : ∃ z, z = y89.alloc (.cells pnZ 94) := ⟨_, rfl⟩
            have sy119 : y89.heap.size < y119.heap.size := by rw [hy119]; simp [World.size_alloc]
            have f120 : Fr none_ y89 y119 := by rw [hy119]; exact (Fr.refl none_ _).alloc _
            replace B92 := hid_ (B92.out.fr f120 id)
            have B122 : Hid (Blk y119 y89.heap.size 94 pnZ) := hid_ (by rw [hy119]; exact Blk.new _ _ _)
            have F121 := hid_ (F91.out.then_none f120)
            rw [← hy119]
            clear hy119 f120
            refine u_call 6 (some 36) 37 #[.agg (pzA P), .string c.key, .bool unb, .bool c.writes] (.agg (pnA (⟨pk, pt, nilS, 0, ph, pl, pq⟩ : Pn))) (Fr none_ y119) rfl rfl (by kernel_rfl) (by kernel_rfl) (by kernel_rfl) ((back_ok P c.key unb c.writes y119 (P5.out.keep F121.out) K5.out).mono (fun e w' h => ⟨by rw [h.1, ← HPN.out], h.2⟩)) ?_
            intro y123 hf
            have sy123 := hf.size
            replace B92 := hid_ (B92.out.fr hf id)
            replace B122 := hid_ (B122.out.fr hf id)
            have F124 := hid_ (F121.out.then_none hf)
            clear hf
            refine ⟨F124.out, ?_⟩
            go_frame
            refine u_call 13 (some 43) 40 #[.agg (pzA Q), .string c.key, .bool unb, .bool c.writes] (.agg (pnA (⟨pk, pt, nilS, 0, ph, pl, pq⟩ : Pn))) (Fr none_ y123) rfl rfl (by kernel_rfl) (by kernel_rfl) (by kernel_rfl) ((rback_ok Q c.key unb c.writes y123 (Q6.out.keep F124.out) K5.out).mono (fun e w' h => ⟨by rw [h.1, HQN.out], h.2⟩)) ?_
            intro y125 hf
            have sy125 := hf.size
            replace B92 := hid_ (B92.out.fr hf id)
            replace B122 := hid_ (B122.out.fr hf id)
            have F126 := hid_ (F124.out.then_none hf)
            clear hf
            refine ⟨F126.out, ?_⟩
            go_frame
            refine u_store 16 81 (.tmp 10) (.tmp 36) (y0.heap.size) 0 (pnA (⟨pk, pt, nilS, 0, ph, pl, pq⟩ : Pn)) rfl rfl (by kernel_rfl) (by kernel_rfl) rfl (by kernel_rfl) (by kernel_rfl) (B92.out.there7 rfl) plan_size (by simp [Value.oneCell']) ?_
            intro y127 hy127
            have ov := B92.out.over7 (pnA (⟨pk, pt, nilS, 0, ph, pl, pq⟩ : Pn)).toList rfl
            rw [← hy127] at ov
            have B129 := hid_ ov.1
            replace B122 := hid_ (B122.out.fr ov.2 (only_ne (by omega)))
            have hge := F0a.out.size
            have F128 := hid_ (F126.out.then_only ov.2 (.inr (by omega)))
            clear hy127 ov hge
            refine ⟨F128.out, ?_⟩
            refine u_store 17 94 (.tmp 11) (.tmp 43) (y89.heap.size) 0 (pnA (⟨pk, pt, nilS, 0, ph, pl, pq⟩ : Pn)) rfl rfl (by kernel_rfl) (by kernel_rfl) rfl (by kernel_rfl) (by kernel_rfl) (B122.out.there7 rfl) rplan_size (by simp [Value.oneCell']) ?_
            intro y130 hy130
            have ov := B122.out.over7 (pnA (⟨pk, pt, nilS, 0, ph, pl, pq⟩ : Pn)).toList rfl
            rw [← hy130] at ov
            have B132 := hid_ ov.1
            replace B129 := hid_ (B129.out.fr ov.2 (only_ne (by omega)))
            have hge := F91.out.size
            have F131 := hid_ (F128.out.then_only ov.2 (.inr (by omega)))
            clear hy130 ov hge
            refine ⟨F131.out, ?_⟩
            refine u_done (by kernel_rfl) ?_
            (try simp only [Exit.then])
            (try go_frame)
            (first | (rename_i hKm; refine hKm _ _ ?_) | (rename_i hKm _; refine hKm _ _ ?_) | (rename_i hKm _ _; refine hKm _ _ ?_) | (rename_i hKm _ _ _; refine hKm _ _ ?_))
            go_meet
            case rel => exact ⟨_, _, rfl, rfl, B129.out, B132.out, F131.out⟩
        · skip
          refine wp_known (.pointer (some ⟨y0.heap.size, 0, none⟩)) (y0.alloc (.cells pnZ 94)) (by kernel_rfl) ⟨.inr (F0a.out.alloc _), ?_⟩
          go_frame
          obtain ⟨y133, hy133⟩ : ∃ z, z = y0.alloc (.cells pnZ 94) := ⟨_, rfl⟩
          have sy133 : y0.heap.size < y133.heap.size := by rw [hy133]; simp [World.size_alloc]
          have f134 : Fr none_ y0 y133 := by rw [hy133]; exact (Fr.refl none_ _).alloc _
          have B136 : Hid (Blk y133 y0.heap.size 94 pnZ) := hid_ (by rw [hy133]; exact Blk.new _ _ _)
          have F135 := hid_ (F0a.out.then_none f134)
          rw [← hy133]
          clear hy133 f134
          refine u_two 6 14 rfl rfl (by kernel_rfl) (by kernel_rfl) (by kernel_rfl) ?_ ?_
          · skip
            refine wp_callK 37 #[.agg (pzA P), .string c.key, .bool unb, .bool c.writes] (.agg (pnA (⟨pk, pt, nilS, 0, ph, pl, pq⟩ : Pn))) (Fr none_ y133) (by kernel_rfl) ((back_ok P c.key unb c.writes y133 (P5.out.keep F135.out) K5.out).mono (fun e w' h => ⟨by rw [h.1, ← HPN.out], h.2⟩)) ?_
            intro y137 hf
            have sy137 := hf.size
            replace B136 := hid_ (B136.out.fr hf id)
            have F138 := hid_ (F135.out.then_none hf)
            clear hf
            refine ⟨.inr F138.out, ?_⟩
            go_frame
            refine u_two 13 14 rfl rfl (by kernel_rfl) (by kernel_rfl) (by kernel_rfl) ?_ ?_
            · skip
              refine wp_callK 40 #[.agg (pzA Q), .string c.key, .bool unb, .bool c.writes] (.agg (pnA (⟨pk, pt, nilS, 0, ph, pl, pq⟩ : Pn))) (Fr none_ y137) (by kernel_rfl) ((rback_ok Q c.key unb c.writes y137 (Q6.out.keep F138.out) K5.out).mono (fun e w' h => ⟨by rw [h.1, HQN.out], h.2⟩)) ?_
              intro y139 hf
              have sy139 := hf.size
              replace B136 := hid_ (B136.out.fr hf id)
              have F140 := hid_ (F138.out.then_none hf)
              clear hf
              refine ⟨.inr F140.out, ?_⟩
              go_frame
              refine u_run 14 (some 10) (.pointer (some ⟨y139.heap.size, 0, none⟩)) (y139.alloc (.cells pnZ 81)) rfl rfl (by kernel_rfl) (by kernel_rfl) (by kernel_rfl) (.inr (F140.out.alloc _)) ?_
              go_frame
              obtain ⟨y141, hy141⟩ : ∃ z, z = y139.alloc (.cells pnZ 81) := ⟨_, rfl⟩
              have sy141 : y139.heap.size < y141.heap.size := by rw [hy141]; simp [World.size_alloc]
              have f142 : Fr none_ y139 y141 := by rw [hy141]; exact (Fr.refl none_ _).alloc _
              replace B136 := hid_ (B136.out.fr f142 id)
              have B144 : Hid (Blk y141 y139.heap.size 81 pnZ) := hid_ (by rw [hy141]; exact Blk.new _ _ _)
              have F143 := hid_ (F140.out.then_none f142)
              rw [← hy141]
              clear hy141 f142
              refine u_store 16 81 (.tmp 10) (.tmp 36) (y139.heap.size) 0 (pnA (⟨pk, pt, nilS, 0, ph, pl, pq⟩ : Pn)) rfl rfl (by kernel_rfl) (by kernel_rfl) rfl (by kernel_rfl) (by kernel_rfl) (B144.out.there7 rfl) plan_size (by simp [Value.oneCell']) ?_
              intro y145 hy145
              have ov := B144.out.over7 (pnA (⟨pk, pt, nilS, 0, ph, pl, pq⟩ : Pn)).toList rfl
              rw [← hy145] at ov
              have B147 := hid_ ov.1
              replace B136 := hid_ (B136.out.fr ov.2 (only_ne (by omega)))
              have hge := F140.out.size
              have F146 := hid_ (F143.out.then_only ov.2 (.inr (by omega)))
              clear hy145 ov hge
              refine ⟨F146.out, ?_⟩
              refine u_store 17 94 (.tmp 11) (.tmp 43) (y0.heap.size) 0 (pnA (⟨pk, pt, nilS, 0, ph, pl, pq⟩ : Pn)) rfl rfl (by kernel_rfl) (by kernel_rfl) rfl (by kernel_rfl) (by kernel_rfl) (B136.out.there7 rfl) rplan_size (by simp [Value.oneCell']) ?_
              intro y148 hy148
              have ov := B136.out.over7 (pnA (⟨pk, pt, nilS, 0, ph, pl, pq⟩ : Pn)).toList rfl
              rw [← hy148] at ov
              have B150 := hid_ ov.1
              replace B147 := hid_ (B147.out.fr ov.2 (only_ne (by omega)))
              have hge := F0a.out.size
              have F149 := hid_ (F146.out.then_only ov.2 (.inr (by omega)))
              clear hy148 ov hge
              refine ⟨F149.out, ?_⟩
              refine u_done (by kernel_rfl) ?_
              (try simp only [Exit.then])
              (try go_frame)
              (first | (rename_i hKm; refine hKm _ _ ?_) | (rename_i hKm _; refine hKm _ _ ?_) | (rename_i hKm _ _; refine hKm _ _ ?_) | (rename_i hKm _ _ _; refine hKm _ _ ?_))
              go_meet
              case rel => exact ⟨_, _, rfl, rfl, B147.out, B150.out, F149.out⟩
            · skip
              refine wp_known (.pointer (some ⟨y137.heap.size, 0, none⟩)) (y137.alloc (.cells pnZ 81)) (by kernel_rfl) ⟨.inr (F138.out.alloc _), ?_⟩
              go_frame
              obtain ⟨y151, hy151⟩ : ∃ z, z = y137.alloc (.cells pnZ 81) := ⟨_, rfl⟩
              have sy151 : y137.heap.size < y151.heap.size := by rw [hy151]; simp [World.size_alloc]
              have f152 : Fr none_ y137 y151 := by rw [hy151]; exact (Fr.refl none_ _).alloc _
              replace B136 := hid_ (B136.out.fr f152 id)
              have B154 : Hid (Blk y151 y137.heap.size 81 pnZ) := hid_ (by rw [hy151]; exact Blk.new _ _ _)
              have F153 := hid_ (F138.out.then_none f152)
              rw [← hy151]
              clear hy151 f152
              refine u_call 13 (some 43) 40 #[.agg (pzA Q), .string c.key, .bool unb, .bool c.writes] (.agg (pnA (⟨pk, pt, nilS, 0, ph, pl, pq⟩ : Pn))) (Fr none_ y151) rfl rfl (by kernel_rfl) (by kernel_rfl) (by kernel_rfl) ((rback_ok Q c.key unb c.writes y151 (Q6.out.keep F153.out) K5.out).mono (fun e w' h => ⟨by rw [h.1, HQN.out], h.2⟩)) ?_
              intro y155 hf
              have sy155 := hf.size
              replace B136 := hid_ (B136.out.fr hf id)
              replace B154 := hid_ (B154.out.fr hf id)
              have F156 := hid_ (F153.out.then_none hf)
              clear hf
              refine ⟨F156.out, ?_⟩
              go_frame
              refine u_store 16 81 (.tmp 10) (.tmp 36) (y137.heap.size) 0 (pnA (⟨pk, pt, nilS, 0, ph, pl, pq⟩ : Pn)) rfl rfl (by kernel_rfl) (by kernel_rfl) rfl (by kernel_rfl) (by kernel_rfl) (B154.out.there7 rfl) plan_size (by simp [Value.oneCell']) ?_
              intro y157 hy157
              have ov := B154.out.over7 (pnA (⟨pk, pt, nilS, 0, ph, pl, pq⟩ : Pn)).toList rfl
              rw [← hy157] at ov
              have B159 := hid_ ov.1
              replace B136 := hid_ (B136.out.fr ov.2 (only_ne (by omega)))
              have hge := F138.out.size
              have F158 := hid_ (F156.out.then_only ov.2 (.inr (by omega)))
              clear hy157 ov hge
              refine ⟨F158.out, ?_⟩
              refine u_store 17 94 (.tmp 11) (.tmp 43) (y0.heap.size) 0 (pnA (⟨pk, pt, nilS, 0, ph, pl, pq⟩ : Pn)) rfl rfl (by kernel_rfl) (by kernel_rfl) rfl (by kernel_rfl) (by kernel_rfl) (B136.out.there7 rfl) rplan_size (by simp [Value.oneCell']) ?_
              intro y160 hy160
              have ov := B136.out.over7 (pnA (⟨pk, pt, nilS, 0, ph, pl, pq⟩ : Pn)).toList rfl
              rw [← hy160] at ov
              have B162 := hid_ ov.1
              replace B159 := hid_ (B159.out.fr ov.2 (only_ne (by omega)))
              have hge := F0a.out.size
              have F161 := hid_ (F158.out.then_only ov.2 (.inr (by omega)))
              clear hy160 ov hge
              refine ⟨F161.out, ?_⟩
              refine u_done (by kernel_rfl) ?_
              (try simp only [Exit.then])
              (try go_frame)
              (first | (rename_i hKm; refine hKm _ _ ?_) | (rename_i hKm _; refine hKm _ _ ?_) | (rename_i hKm _ _; refine hKm _ _ ?_) | (rename_i hKm _ _ _; refine hKm _ _ ?_))
              go_meet
              case rel => exact ⟨_, _, rfl, rfl, B159.out, B162.out, F161.out⟩
          · skip
            refine wp_known (.pointer (some ⟨y133.heap.size, 0, none⟩)) (y133.alloc (.cells pnZ 81)) (by kernel_rfl) ⟨.inr (F135.out.alloc _), ?_⟩
            go_frame
            obtain ⟨y163, hy163⟩ : ∃ z, z = y133.alloc (.cells pnZ 81) := ⟨_, rfl⟩
            have sy163 : y133.heap.size < y163.heap.size := by rw [hy163]; simp [World.size_alloc]
            have f164 : Fr none_ y133 y163 := by rw [hy163]; exact (Fr.refl none_ _).alloc _
            replace B136 := hid_ (B136.out.fr f164 id)
            have B166 : Hid (Blk y163 y133.heap.size 81 pnZ) := hid_ (by rw [hy163]; exact Blk.new _ _ _)
            have F165 := hid_ (F135.out.then_none f164)
            rw [← hy163]
            clear hy163 f164
            refine u_call 6 (some 36) 37 #[.agg (pzA P), .string c.key, .bool unb, .bool c.writes] (.agg (pnA (⟨pk, pt, nilS, 0, ph, pl, pq⟩ : Pn))) (Fr none_ y163) rfl rfl (by kernel_rfl) (by kernel_rfl) (by kernel_rfl) ((back_ok P c.key unb c.writes y163 (P5.out.keep F165.out) K5.out).mono (fun e w' h => ⟨by rw [h.1, ← HPN.out], h.2⟩)) ?_
            intro y167 hf
            have sy167 := hf.size
            replace B136 := hid_ (B136.out.fr hf id)
            replace B166 := hid_ (B166.out.fr hf id)
            have F168 := hid_ (F165.out.then_none hf)
            clear hf
            refine ⟨F168.out, ?_⟩
            go_frame
            refine u_call 13 (some 43) 40 #[.agg (pzA Q), .string c.key, .bool unb, .bool c.writes] (.agg (pnA (⟨pk, pt, nilS, 0, ph, pl, pq⟩ : Pn))) (Fr none_ y167) rfl rfl (by kernel_rfl) (by kernel_rfl) (by kernel_rfl) ((rback_ok Q c.key unb c.writes y167 (Q6.out.keep F168.out) K5.out).mono (fun e w' h => ⟨by rw [h.1, HQN.out], h.2⟩)) ?_
            intro y169 hf
            have sy169 := hf.size
            replace B136 := hid_ (B136.out.fr hf id)
            replace B166 := hid_ (B166.out.fr hf id)
            have F170 := hid_ (F168.out.then_none hf)
            clear hf
            refine ⟨F170.out, ?_⟩
            go_frame
            refine u_store 16 81 (.tmp 10) (.tmp 36) (y133.heap.size) 0 (pnA (⟨pk, pt, nilS, 0, ph, pl, pq⟩ : Pn)) rfl rfl (by kernel_rfl) (by kernel_rfl) rfl (by kernel_rfl) (by kernel_rfl) (B166.out.there7 rfl) plan_size (by simp [Value.oneCell']) ?_
            intro y171 hy171
            have ov := B166.out.over7 (pnA (⟨pk, pt, nilS, 0, ph, pl, pq⟩ : Pn)).toList rfl
            rw [← hy171] at ov
            have B173 := hid_ ov.1
            replace B136 := hid_ (B136.out.fr ov.2 (only_ne (by omega)))
            have hge := F135.out.size
            have F172 := hid_ (F170.out.then_only ov.2 (.inr (by omega)))
            clear hy171 ov hge
            refine ⟨F172.out, ?_⟩
            refine u_store 17 94 (.tmp 11) (.tmp 43) (y0.heap.size) 0 (pnA (⟨pk, pt, nilS, 0, ph, pl, pq⟩ : Pn)) rfl rfl (by kernel_rfl) (by kernel_rfl) rfl (by kernel_rfl) (by kernel_rfl) (B136.out.there7 rfl) rplan_size (by simp [Value.oneCell']) ?_
            intro y174 hy174
            have ov := B136.out.over7 (pnA (⟨pk, pt, nilS, 0, ph, pl, pq⟩ : Pn)).toList rfl
            rw [← hy174] at ov
            have B176 := hid_ ov.1
            replace B173 := hid_ (B173.out.fr ov.2 (only_ne (by omega)))
            have hge := F0a.out.size
            have F175 := hid_ (F172.out.then_only ov.2 (.inr (by omega)))
            clear hy174 ov hge
            refine ⟨F175.out, ?_⟩
            refine u_done (by kernel_rfl) ?_
            (try simp only [Exit.then])
            (try go_frame)
            (first | (rename_i hKm; refine hKm _ _ ?_) | (rename_i hKm _; refine hKm _ _ ?_) | (rename_i hKm _ _; refine hKm _ _ ?_) | (rename_i hKm _ _ _; refine hKm _ _ ?_))
            go_meet
            case rel => exact ⟨_, _, rfl, rfl, B173.out, B176.out, F175.out⟩
      case rest =>
      obtain ⟨g1, g2, rfl, rfl, hx, hy, hf⟩ := hcut
      obtain ⟨w10, rfl⟩ : ∃ z : World, z = wc := ⟨_, rfl⟩
      have BX := hid_ hx
      have BY := hid_ hy
      have F10 := hid_ (F5.out.then_none hf)
      clear hx hy hf
      have y0 : w10.cell? ⟨g2, 0, none⟩ = some (.int .i64 pk) := BY.out.cell' rfl
      have y1 : w10.cell? ⟨g2, 1, none⟩ = some (.int .i64 pt) := BY.out.cell' rfl
      have y4 : w10.cell? ⟨g2, 4, none⟩ = some (.int .i64 ph) := BY.out.cell' rfl
      have y5 : w10.cell? ⟨g2, 5, none⟩ = some (.int .i64 pl) := BY.out.cell' rfl
      have y6 : w10.cell? ⟨g2, 6, none⟩ = some (.string pq) := BY.out.cell' rfl
      go_wp2_with (refine wpList_load_mid rfl 81 (.tmp 10) rfl g1 0 rfl (pnA (⟨pk, pt, nilS, 0, ph, pl, pq⟩ : Pn)).toList _ (Blk.range7 (l := (pnA (⟨pk, pt, nilS, 0, ph, pl, pq⟩ : Pn)).toList) BX.out) Try.underlying81 rfl plan_size ?_)
      refine (awake11_ok w10).mono ?_
      rintro e w11 ⟨rfl, hf⟩
      go_wp2
      go_ret
      exact ⟨rfl, F10.out.then_none hf⟩
end Go.Proofs.Ytpjbncbmdfmlpaa
namespace Go.Proofs.Ytpjbncbmdfmlpaa
open Go.RowKit Go.BigFrame Go.ChangeShapes Go.WideShapes
set_option maxRecDepth 100000
set_option linter.unusedVariables false

set_option maxHeartbeats 1000000 in
theorem ins_of3 {H : Type} {enc : TypeId × Value → H} {w : World} {A : Option Addr} {n : Nat} (h : RecordAt enc w A n) : ∃ L, InReads w A n L ∧ RwIn L ∧ RwCap L := by
  rcases Nat.eq_zero_or_pos n with h0 | h0
  · subst h0; exact ⟨[], ⟨rfl, fun h => absurd h (by omega)⟩, (fun C hC => by simp at hC), fun C hC => by simp at hC⟩
  · obtain ⟨b, off, hA, hb, hc⟩ := h h0
    obtain ⟨L, hl, hL⟩ := choose_list (α := Ch) (P := fun k C => (w.rangeAt b (off + k * 15) (recL C) ∧ ChIn w C) ∧ ((SzOk C.R.val ∧ ∀ p ∈ C.R.rows, SzOk p.1 ∧ SzOk p.2) ∧ C.R.rows.length ≤ C.c ∧ C.c ≤ maxLen)) n (fun k hk => by
      obtain ⟨x0, x1, x2, x3, x4, x5, x6, x7, x8, x9, x10, x11, x12, x13, x14, w0, w1, w2, w4, w5, w6, w7, w8, w9, w10, w11, w12, w13, w14, h0, h1, h2, h3, h4, h5, h6, h7, h8, h9, h10, h11, h12, h13, h14⟩ := hc k hk
      obtain ⟨A5, n5, c5, L5, rfl, q1, q2, r5⟩ := rows_conf2 w5
      obtain ⟨A6, n6, c6, L6, rfl, p1, p2, -, r6⟩ := ents_conf w6
      have ks : ∀ p ∈ L6, SzOk p.1 := fun p hp => by
        obtain ⟨j, hj⟩ := List.mem_iff_getElem?.1 hp
        obtain ⟨_, _, _, _, hc⟩ := r6.2 (by have := (List.getElem?_eq_some_iff.1 hj).1; have := r6.1; omega)
        exact szOk_of (hc j p hj).1.1
      have kr : ∀ p ∈ L5, SzOk p.1 ∧ SzOk p.2 := fun p hp => by
        obtain ⟨j, hj⟩ := List.mem_iff_getElem?.1 hp
        obtain ⟨_, _, _, _, hc⟩ := r5.2 (by have := (List.getElem?_eq_some_iff.1 hj).1; have := r5.1; omega)
        exact ⟨szOk_of (hc j p hj).1.1, szOk_of (hc j p hj).1.2⟩
      obtain rfl := r5.1
      obtain rfl := r6.1
      refine ⟨⟨⟨x0, x1, x2, x3, x4, L5, L6, x7, x8, x9, x10, x11, x12, x13, x14⟩, A5, c5, A6, c6⟩, ⟨fun j v hv => ?_, ⟨r5.reads, r6.reads⟩, szOk_of w1, szOk_of w2, szOk_of w7, szOk_of w12, ks, p1, p2, by show L5.length ≤ _; omega⟩, ⟨szOk_of w8, kr⟩, (by show L5.length ≤ c5; exact q1), (by show c5 ≤ maxLen; unfold maxLen; omega)⟩
      match j, hv with
      | 0, hv => have e : some (.int .i64 x0) = some v := hv; rw [← Option.some.inj e]; exact h0
      | 1, hv => have e : some (.string x1) = some v := hv; rw [← Option.some.inj e]; exact h1
      | 2, hv => have e : some (.string x2) = some v := hv; rw [← Option.some.inj e]; exact h2
      | 3, hv => have e : some (.bool x3) = some v := hv; rw [← Option.some.inj e]; exact h3
      | 4, hv => have e : some (.int .i64 x4) = some v := hv; rw [← Option.some.inj e]; exact h4
      | 5, hv => have e : some (.slice A5 L5.length c5) = some v := hv; rw [← Option.some.inj e]; exact h5
      | 6, hv => have e : some (.slice A6 L6.length c6) = some v := hv; rw [← Option.some.inj e]; exact h6
      | 7, hv => have e : some (.string x7) = some v := hv; rw [← Option.some.inj e]; exact h7
      | 8, hv => have e : some (.string x8) = some v := hv; rw [← Option.some.inj e]; exact h8
      | 9, hv => have e : some (.int .i64 x9) = some v := hv; rw [← Option.some.inj e]; exact h9
      | 10, hv => have e : some (.int .i64 x10) = some v := hv; rw [← Option.some.inj e]; exact h10
      | 11, hv => have e : some (.int .i64 x11) = some v := hv; rw [← Option.some.inj e]; exact h11
      | 12, hv => have e : some (.string x12) = some v := hv; rw [← Option.some.inj e]; exact h12
      | 13, hv => have e : some (.int .i64 x13) = some v := hv; rw [← Option.some.inj e]; exact h13
      | 14, hv => have e : some (.int .i64 x14) = some v := hv; rw [← Option.some.inj e]; exact h14
      | j + 15, hv => simp at hv)
    exact ⟨L, ⟨hl, fun _ => ⟨b, off, hA, hb, fun k C hC => (hL k C hC).1⟩⟩, fun C hC => by obtain ⟨k, hk⟩ := List.mem_iff_getElem?.1 hC; exact (hL k C hk).2.1, fun C hC => by obtain ⟨k, hk⟩ := List.mem_iff_getElem?.1 hC; exact (hL k C hk).2.2⟩
theorem recs_conf3 {H : Type} {enc : TypeId × Value → H} {w : World} {v : Value} (h : Conf enc Try.prog w (.slice 34) v) : ∃ A n c L, v = .slice A n c ∧ n ≤ c ∧ c ≤ maxLen ∧ InReads w A n L ∧ RwIn L ∧ RwCap L := by
  obtain ⟨fuel, d, ps, ht, hlt, hwt⟩ := h
  obtain ⟨A, n, c, rfl, h1, h2, h3, h4, h5⟩ := open_list 6 Try.underlying34 ht hlt hwt (by rw [leaves_Record]; rfl) (by rw [leaves_Record, cells_Record]; rfl)
  obtain ⟨L, hL⟩ := ins_of3 (Record_at h5)
  exact ⟨A, n, c, L, rfl, h1, h2, hL.1, hL.2.1, hL.2.2⟩

theorem caseb11_i {H : Type} {enc : TypeId × Value → H} {f : FuncId} (law : ∀ (c : Cz) (u : Bool) (L1 L2 : List Ch) (w : World), CzIn w c L1 L2 → RwCap L1 → Calls Try.prog f #[.agg (czA c), .bool u] w (RetQ (.bool true) w))
    (x0 : Int) (x1 x2 : Value) (x3 : Bool) (x4 : ByteArray) (x5 x6 x7 x8 x9 x10 : Int) (x11 : Bool) (u : Bool) (w : World) (h1 : Conf enc Try.prog w (.slice 34) x1) (h2 : Conf enc Try.prog w (.slice 34) x2) (h4 : x4.size ≤ reachBytes) :
    Calls Try.prog f #[.agg #[.int .i64 x0, x1, x2, .bool x3, .string x4, .int .i64 x5, .int .i64 x6, .int .i64 x7, .int .i64 x8, .int .i64 x9, .int .i64 x10, .bool x11], .bool u] w fun e w' => e = .returned (.bool true) ∧ Fr none_ w w' := by
  obtain ⟨A1, n1, c1, L1, rfl, a1, b1, i1, r1, p1⟩ := recs_conf3 h1
  obtain ⟨A2, n2, c2, L2, rfl, a2, b2, i2, r2, -⟩ := recs_conf3 h2
  exact law ⟨x0, A1, n1, c1, A2, n2, c2, x3, x4, ⟨x5, x6, x7, x8, x9, x10⟩, x11⟩ u L1 L2 w ⟨i1, r1, Nat.le_trans a1 b1, i2, r2, Nat.le_trans a2 b2, szOk_of h4⟩ p1
end Go.Proofs.Ytpjbncbmdfmlpaa

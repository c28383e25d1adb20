/- Texts of one proof, merged: Rof10, Types11, Known11, Reads11, UpkF7, Rback11. -/
import Derived.Test.YtpjbncbmdfmlpaaMkA
import Derived.Test.YtpjbncbmdfmlpaaMkE
import Derived.Test.YtpjbncbmdfmlpaaMkF
import Derived.Test.YtpjbncbmdfmlpaaMkG
import Derived.Test.YtpjbncbmdfmlpaaMkH
import Derived.Test.YtpjbncbmdfmlpaaMkI
namespace Go.Proofs.Ytpjbncbmdfmlpaa
open Go.RowKit Go.BigFrame
set_option maxRecDepth 100000
set_option linter.unusedVariables false

theorem rpage_size : (Try.prog.info? 68).map (·.size) = some 21 := by kernel_rfl
theorem LwRd.zero (b0 : Nat) (w : World) : LwRd b0 w Lw.zero none 0 := ⟨Reads.nil_, Nat.le_refl _, by simp, ⟨SzOk.nil, SzOk.nil, by show (0:Nat) ≤ 300000; omega, fun p hp => by simp [Lw.zero] at hp⟩, .inl fun h => by simp [Lw.zero] at h⟩
/-- Why a chain is no page. -/
def CodeOf (l : List Rc) (k : Int) : Prop := ofM l = none ∧ ((leafB l = true ∧ ((k = 9 ∧ ∃ R ∈ l, ¬ KindL R) ∨ (k = 10 ∧ ∀ R ∈ l, KindL R))) ∨ (leafB l = false ∧ ((k = 9 ∧ ∃ R ∈ l, ¬ KindOk R) ∨ (k = 10 ∧ ∀ R ∈ l, KindOk R))))
theorem VwIn.farR {w w' : World} {V : Vw} {A : Option Addr} {c X : Nat} {n hs hg : Int} {vc vr sl si : Value} {leaf : Bool} {lv : Lw} {iv : Vw} (h : VwIn w V A c) (hX : Blk w X 68 (pgA n hs hg vc vr leaf lv sl iv si)) (hsl : ∃ A n c, sl = .slice A n c) (hsi : ∃ A n c, si = .slice A n c) (hvr : ∃ A n c, vr = .slice A n c) (hf : Fr (only X) w w') : VwIn w' V A c := by
  refine ⟨?_, h.cap, h.capm, h.ok⟩
  rcases Nat.eq_zero_or_pos V.ents.length with h0 | h0
  · exact ⟨h.rd.1, fun hn => absurd hn (by omega)⟩
  · obtain ⟨p, hp⟩ : ∃ p, V.ents[0]? = some p := ⟨_, List.getElem?_eq_getElem h0⟩
    obtain ⟨b, off, rfl, hb, c0, c1⟩ := et_at h.rd hp
    refine h.rd.fr hf (fun ad e => ?_)
    cases e
    intro e
    have e' : b = X := e
    subst e'
    rw [hX.cell] at c0 c1
    simp only [Nat.zero_mul, Nat.add_zero] at c0 c1
    obtain ⟨_, _, _, rfl⟩ := hsl
    obtain ⟨_, _, _, rfl⟩ := hsi
    obtain ⟨_, _, _, rfl⟩ := hvr
    match off, c0, c1 with
    | 0, c0, c1 => simp at c0
    | 1, c0, c1 => simp at c0
    | 2, c0, c1 => simp at c0
    | 3, c0, c1 => simp at c1
    | 4, c0, c1 => simp at c0
    | 5, c0, c1 => simp at c0
    | 6, c0, c1 => simp at c1
    | 7, c0, c1 => simp at c1
    | 8, c0, c1 => simp at c0
    | 9, c0, c1 => simp at c0
    | 10, c0, c1 => simp at c0
    | 11, c0, c1 => simp at c0
    | 12, c0, c1 => simp at c1
    | 13, c0, c1 => simp at c1
    | 14, c0, c1 => simp at c0
    | 15, c0, c1 => simp at c0
    | 16, c0, c1 => simp at c0
    | 17, c0, c1 => simp at c0
    | 18, c0, c1 => simp at c0
    | 19, c0, c1 => simp at c0
    | 20, c0, c1 => simp at c1
    | k + 21, c0, c1 => simp at c0
theorem VwIn.farZR {w w' : World} {V : Vw} {A : Option Addr} {c X : Nat} (h : VwIn w V A c) (hX : Blk w X 68 pgZ) (hf : Fr (only X) w w') : VwIn w' V A c :=
  h.farR (n := 0) (hs := 0) (hg := 0) (vc := .slice none 0 0) (vr := .slice none 0 0) (leaf := false) (lv := Lw.zero) (sl := .slice none 0 0) (iv := Vw.zero) (si := .slice none 0 0) hX ⟨_, _, _, rfl⟩ ⟨_, _, _, rfl⟩ ⟨_, _, _, rfl⟩ hf
def ROfPost (n hs hg : Int) (vc vr : Value) (l : List Rc) (w : World) (e : Ending) (w' : World) : Prop :=
  (∃ leaf lv iv A c B d, ofM l = some (leaf, lv, iv) ∧ e = .returned (.tuple #[.agg (pgA n hs hg vc vr leaf lv (.slice A lv.rows.length c) iv (.slice B iv.ents.length d)), .int .i64 0]) ∧ lv.Ok ∧ VwIn w' iv B d ∧ Fr none_ w w') ∨
  (∃ k : Int, CodeOf l k ∧ e = .returned (.tuple #[.agg pgZ, .int .i64 k]) ∧ Fr none_ w w')
theorem codeL {l : List Rc} {k : Int} (hb : leafB l = true) (h : (k = 9 ∧ ∃ R ∈ l, ¬ KindL R) ∨ (k = 10 ∧ (∀ R ∈ l, KindL R) ∧ foldL l = none)) : CodeOf l k := by
  have hn : foldL l = none := by rcases h with h | h; exact foldL_bad h.2; exact h.2.2
  exact ⟨by unfold ofM; rw [if_pos hb, hn]; rfl, .inl ⟨hb, h.imp id fun h => ⟨h.1, h.2.1⟩⟩⟩
theorem codeU {l : List Rc} {k : Int} (hb : leafB l = false) (h : (k = 9 ∧ ∃ R ∈ l, ¬ KindOk R) ∨ (k = 10 ∧ (∀ R ∈ l, KindOk R) ∧ foldU l = none)) : CodeOf l k := by
  have hn : foldU l = none := by
    rcases h with ⟨_, R, hR, hk⟩ | h
    · exact foldU_no fun ha => absurd (ha R hR) hk
    · exact h.2.2
  exact ⟨by unfold ofM; rw [if_neg (by rw [hb]; decide), hn]; rfl, .inr ⟨hb, h.imp id fun h => ⟨h.1, h.2.1⟩⟩⟩
set_option maxHeartbeats 8000000 in
theorem rof_ok (n hs hg : Int) (A : Option Addr) (m cap : Nat) (L : List Ch) (RA : Option Addr) (rn rc : Nat) (w : World) (h : ChReads w A m L) (hn : m ≤ 400) (hs7 : RwOkL L) (hcp : RwCap L) (he : ∀ C ∈ L, C.R.ents.length ≤ 500) :
    Calls Try.prog 25 #[.int .i64 n, .agg #[.int .i64 hs, .int .i64 hg], .slice A m cap, .slice RA rn rc] w (ROfPost n hs hg (.slice A m cap) (.slice RA rn rc) (L.map (·.R)) w) := by
  have hln := h.1
  obtain ⟨w0, hw0⟩ : ∃ z, z = (w.alloc (.cells #[.int .i64 hs, .int .i64 hg] 33)).alloc (.cells pgZ 68) := ⟨_, rfl⟩
  have f0 : Fr none_ w w0 := by rw [hw0]; exact ((Fr.refl none_ w).alloc _).alloc _
  have BR : Hid (Blk w0 w.heap.size 33 #[.int .i64 hs, .int .i64 hg]) := hid_ (by rw [hw0]; exact (Blk.new w _ _).alloc _)
  have BO : Hid (Blk w0 (w.heap.size + 1) 68 pgZ) := hid_ (by rw [hw0]; exact Blk.new7 _ _ (by simp))
  have F0 := hid_ f0
  have H := hid_ h
  have HS := hid_ (And.intro hs7 (And.intro hcp he))
  have hsz0 : w.heap.size + 1 < w0.heap.size := BO.out.lt
  clear h f0 hs7 hcp he
  go_enter Try.func25, Try.ntmps25
  go_upto_region 1 with fail
  change Code.wp _ _ _ _ ((w.alloc (.cells #[.int .i64 hs, .int .i64 hg] 33)).alloc (.cells pgZ 68))
  rw [← hw0]
  clear hw0
  have c0 : w0.cell? ⟨w.heap.size, 0, none⟩ = some (.int .i64 hs) := BR.out.cell' rfl
  have c1 : w0.cell? ⟨w.heap.size, 1, none⟩ = some (.int .i64 hg) := BR.out.cell' rfl
  go_upto_region 2 with (refine wpList_store_mid rfl 68 (.tmp 10) (.tmp 19) rfl w0.heap.size 0 (pgA n hs hg (.slice A m cap) (.slice RA rn rc) false Lw.zero (.slice none 0 0) Vw.zero (.slice none 0 0)) rfl rfl (new_there w0 _ pgZ) rpage_size (by simp [Value.oneCell']) ?_; obtain ⟨w1, hw1⟩ : ∃ w1, w1 = (w0.alloc (.cells pgZ 68)).setCells w0.heap.size 0 (pgA n hs hg (.slice A m cap) (.slice RA rn rc) false Lw.zero (.slice none 0 0) Vw.zero (.slice none 0 0)).toList := ⟨_, rfl⟩; change wpList _ _ _ _ _ ((w0.alloc (.cells pgZ 68)).setCells w0.heap.size 0 (pgA n hs hg (.slice A m cap) (.slice RA rn rc) false Lw.zero (.slice none 0 0) Vw.zero (.slice none 0 0)).toList); rw [← hw1]; have P1 : Hid (Blk w1 w0.heap.size 68 (pgA n hs hg (.slice A m cap) (.slice RA rn rc) false Lw.zero (.slice none 0 0) Vw.zero (.slice none 0 0)) ∧ Fr none_ w0 w1) := hid_ (by rw [hw1]; exact new_copy w0 _ pgZ _ rfl); clear hw1)
  clear c0 c1
  have BO1 := hid_ (BO.out.fr P1.out.2 id)
  have F1 := hid_ (F0.out.then_none P1.out.2)
  have BX := hid_ P1.out.1
  have hsz1 := P1.out.2.size
  obtain ⟨X, hX⟩ : ∃ X, X = w0.heap.size := ⟨_, rfl⟩
  rw [← hX] at BX
  rw [← hX]
  have hXw : w.heap.size + 1 < X := by omega
  clear hX P1 BO F0 BR
  (try go_frame)
  go_cut [32] (fun v wq => v = .bool (leafB (L.map (·.R))) ∧ wq = w1)
  case first =>
    rcases Nat.eq_zero_or_pos m with h0 | h0
    · subst h0
      obtain rfl : L = [] := List.eq_nil_of_length_eq_zero hln
      go_wp2_with fail
      go_meet
      case rel => exact ⟨rfl, rfl⟩
    · obtain ⟨q, rfl⟩ : ∃ q, m = q + 1 := ⟨m - 1, by omega⟩
      obtain ⟨D, hD⟩ : ∃ D, L[q]? = some D := ⟨_, List.getElem?_eq_getElem (by omega)⟩
      obtain ⟨b, off, rfl, hb, hR, hO⟩ := (H.out.keep F1.out).at_ hD
      have k0 : w1.cell? ⟨b, off + q * 15, none⟩ = some (.int .i64 D.R.kind) := hR 0 _ rfl
      have hlf : leafB (L.map (·.R)) = (D.R.kind == 1) := by
        unfold leafB
        rw [show (L.map (·.R))[(L.map (·.R)).length - 1]? = some D.R by rw [List.length_map, hln, show q + 1 - 1 = q from rfl]; exact ch_at hD]
        by_cases h : D.R.kind = 1 <;> simp [h]
      have HLF := hid_ hlf
      have hi0 : (0 : Int) ≤ (q : Int) := Int.natCast_nonneg _
      have hi2 : (q : Int) < (q : Int) + 1 := by omega
      have hw1 : IntKind.i64.wrap ((q : Int) + 1 - 1) = (q : Int) := by rw [show (q : Int) + 1 - 1 = (q : Int) by omega]; exact IntWalk.i64_in _ (by omega)
      have hg0 : decide ((0 : Int) < (q : Int) + 1) = true := decide_eq_true (by omega)
      clear hlf hD hR hO
      go_wp2_with fail
      go_meet
      case rel => exact ⟨by rw [HLF.out], rfl⟩
  case rest =>
  obtain ⟨rfl, rfl⟩ := hcut
  obtain ⟨w1, rfl⟩ : ∃ z : World, z = wc := ⟨_, rfl⟩
  cases hB : leafB (L.map (·.R)) with
  | true =>
    have HB := hid_ hB
    clear hB
    go_wp2_with fail
    refine (rfoldL_ok A m cap L w1 (H.out.keep F1.out) hn HS.out.1 HS.out.2.1).mono ?_
    rintro e w2 (⟨V, A', c', hkd, hfo, rfl, hvin, hf2⟩ | ⟨q, hq, rfl, hf2⟩)
    · have VI := hid_ hvin
      have HOF : Hid (ofM (L.map (·.R)) = some (true, V, Vw.zero)) := hid_ (by unfold ofM; rw [if_pos HB.out, hfo]; rfl)
      clear hvin hfo hkd
      have F2 := hid_ (F1.out.then_none hf2)
      have BX2 := hid_ (BX.out.fr hf2 id)
      have BO2 := hid_ (BO1.out.fr hf2 id)
      have hsz2 := hf2.size
      have hbx2 := BX.out.lt
      go_upto_region 4 with (refine wpList_store_mid rfl 65 (.tmp 11) (.tmp 36) rfl w2.heap.size 0 (lwA V (.slice A' V.rows.length c')) rfl rfl (new_there w2 _ lwZ) rview_size7 (by simp [Value.oneCell']) ?_; obtain ⟨w3, hw3⟩ : ∃ z, z = (w2.alloc (.cells lwZ 65)).setCells w2.heap.size 0 (lwA V (.slice A' V.rows.length c')).toList := ⟨_, rfl⟩; change wpList _ _ _ _ _ ((w2.alloc (.cells lwZ 65)).setCells w2.heap.size 0 (lwA V (.slice A' V.rows.length c')).toList); rw [← hw3]; have P3 : Hid (Blk w3 w2.heap.size 65 (lwA V (.slice A' V.rows.length c')) ∧ Fr none_ w2 w3) := hid_ (by rw [hw3]; exact new_copy w2 _ lwZ _ rfl); clear hw3)
      have F3 := hid_ (F2.out.then_none P3.out.2)
      have BX3 := hid_ (BX2.out.fr P3.out.2 id)
      have BO3 := hid_ (BO2.out.fr P3.out.2 id)
      clear BX2 BO2 F2
      have x5 : w3.cell? ⟨X, 5, none⟩ = some (.bool false) := BX3.out.cell' rfl
      have y5 := BX3.out.frozen 5
      go_upto_region 7 with fail
      obtain ⟨w4, hw4⟩ : ∃ z, z = w3.setCell ⟨X, 5, none⟩ (.bool true) := ⟨_, rfl⟩
      have f4 : Fr (only X) w3 w4 := by rw [hw4]; exact Fr.only1 w3 ⟨X, 5, none⟩ _
      have BX4 : Hid (Blk w4 X 68 (pgA n hs hg (.slice A m cap) (.slice RA rn rc) true Lw.zero (.slice none 0 0) Vw.zero (.slice none 0 0))) := hid_ (by rw [hw4]; exact BX3.out.set_ 5 _)
      change Code.wp _ _ _ _ (w3.setCell ⟨X, 5, none⟩ (.bool true))
      rw [← hw4]
      clear hw4 x5 y5
      have PV := hid_ (P3.out.1.fr f4 (only_ne (by omega)))
      have a0 : w4.cell? ⟨w2.heap.size, 0, none⟩ = some (.string V.low) := PV.out.cell' rfl
      have a1 : w4.cell? ⟨w2.heap.size, 1, none⟩ = some (.string V.high) := PV.out.cell' rfl
      have a2 : w4.cell? ⟨w2.heap.size, 2, none⟩ = some (.bool V.unb) := PV.out.cell' rfl
      have a3 : w4.cell? ⟨w2.heap.size, 3, none⟩ = some (.int .i64 V.right) := PV.out.cell' rfl
      have a4 : w4.cell? ⟨w2.heap.size, 4, none⟩ = some (.slice A' V.rows.length c') := PV.out.cell' rfl
      have a5 : w4.cell? ⟨w2.heap.size, 5, none⟩ = some (.bool V.gone) := PV.out.cell' rfl
      have x6 : w4.cell? ⟨X, 6, none⟩ = some (.string nilS) := BX4.out.cell' rfl
      have zx6 := BX4.out.frozen 6
      have x7 : w4.cell? ⟨X, 7, none⟩ = some (.string nilS) := BX4.out.cell' rfl
      have zx7 := BX4.out.frozen 7
      have x8 : w4.cell? ⟨X, 8, none⟩ = some (.bool false) := BX4.out.cell' rfl
      have zx8 := BX4.out.frozen 8
      have x9 : w4.cell? ⟨X, 9, none⟩ = some (.int .i64 0) := BX4.out.cell' rfl
      have zx9 := BX4.out.frozen 9
      have x10 : w4.cell? ⟨X, 10, none⟩ = some (.slice none 0 0) := BX4.out.cell' rfl
      have zx10 := BX4.out.frozen 10
      have x11 : w4.cell? ⟨X, 11, none⟩ = some (.bool false) := BX4.out.cell' rfl
      have zx11 := BX4.out.frozen 11
      go_upto_region 8 with fail
      obtain ⟨w5, hw5⟩ : ∃ z, z = ((((((w4.setCell ⟨X, 6, none⟩ (.string V.low)).setCell ⟨X, 7, none⟩ (.string V.high)).setCell ⟨X, 8, none⟩ (.bool V.unb)).setCell ⟨X, 9, none⟩ (.int .i64 V.right)).setCell ⟨X, 10, none⟩ (.slice A' V.rows.length c')).setCell ⟨X, 11, none⟩ (.bool V.gone)) := ⟨_, rfl⟩
      have f5 : Fr (only X) w4 w5 := by rw [hw5]; exact frOnly7 (frOnly7 (frOnly7 (frOnly7 (frOnly7 (frOnly7 (Fr.refl (only X) w4) _) _) _) _) _) _
      have BX5 : Hid (Blk w5 X 68 (pgA n hs hg (.slice A m cap) (.slice RA rn rc) true V (.slice A' V.rows.length c') Vw.zero (.slice none 0 0))) := hid_ (by
        rw [hw5]
        have e := ((((((BX4.out.set_ 6 (.string V.low)).set_ 7 (.string V.high)).set_ 8 (.bool V.unb)).set_ 9 (.int .i64 V.right)).set_ 10 (.slice A' V.rows.length c')).set_ 11 (.bool V.gone))
        simp only [List.setIfInBounds_toArray, List.set_cons_zero, List.set_cons_succ] at e
        exact e)
      change Code.wp _ _ _ _ (((((((w4.setCell ⟨X, 6, none⟩ (.string V.low)).setCell ⟨X, 7, none⟩ (.string V.high)).setCell ⟨X, 8, none⟩ (.bool V.unb)).setCell ⟨X, 9, none⟩ (.int .i64 V.right)).setCell ⟨X, 10, none⟩ (.slice A' V.rows.length c')).setCell ⟨X, 11, none⟩ (.bool V.gone)))
      rw [← hw5]
      clear hw5 a0 a1 a2 a3 a4 a5 x6 zx6 x7 zx7 x8 zx8 x9 zx9 x10 zx10 x11 zx11
      have hf35 : Fr (only X) w3 w5 := f4.then_only f5 (.inl rfl)
      have BO5 := hid_ (BO3.out.fr hf35 (only_ne (by omega)))
      have F5 := hid_ (F3.out.then_only hf35 (.inr (by omega)))
      clear f4 f5 hf35
      go_wp2_with (first | (refine wpList_load_mid rfl 68 (.tmp 10) rfl X 0 rfl (pgA n hs hg (.slice A m cap) (.slice RA rn rc) true V (.slice A' V.rows.length c') Vw.zero (.slice none 0 0)).toList _ (Blk.range7 (l := (pgA n hs hg (.slice A m cap) (.slice RA rn rc) true V (.slice A' V.rows.length c') Vw.zero (.slice none 0 0)).toList) BX5.out) Try.underlying68 rfl rpage_size ?_) | (refine wpList_store_mid rfl 68 (.tmp 8) (.tmp 45) rfl (w.heap.size + 1) 0 (pgA n hs hg (.slice A m cap) (.slice RA rn rc) true V (.slice A' V.rows.length c') Vw.zero (.slice none 0 0)) rfl rfl (BO5.out.there7 rfl) rpage_size (by simp [Value.oneCell']) ?_; have ov := BO5.out.over7 (pgA n hs hg (.slice A m cap) (.slice RA rn rc) true V (.slice A' V.rows.length c') Vw.zero (.slice none 0 0)).toList rfl; obtain ⟨w9, hw9⟩ : ∃ z, z = w5.setCells (w.heap.size + 1) 0 (pgA n hs hg (.slice A m cap) (.slice RA rn rc) true V (.slice A' V.rows.length c') Vw.zero (.slice none 0 0)).toList := ⟨_, rfl⟩; rw [← hw9] at ov; change wpList _ _ _ _ _ (w5.setCells (w.heap.size + 1) 0 (pgA n hs hg (.slice A m cap) (.slice RA rn rc) true V (.slice A' V.rows.length c') Vw.zero (.slice none 0 0)).toList); rw [← hw9]; have OV := hid_ ov; clear hw9 ov))
      refine bodyPost_ret (results_cell_tmp7 _ _ rfl (w.heap.size + 1) 0 (pgA n hs hg (.slice A m cap) (.slice RA rn rc) true V (.slice A' V.rows.length c') Vw.zero (.slice none 0 0)).toList _ rfl (Blk.range7 (l := (pgA n hs hg (.slice A m cap) (.slice RA rn rc) true V (.slice A' V.rows.length c') Vw.zero (.slice none 0 0)).toList) OV.out.1) Try.underlying68 rfl rpage_size) rfl (.inl ⟨true, V, Vw.zero, A', c', none, 0, HOF.out, rfl, VI.out.ok, VwIn.zero _, F5.out.then_only OV.out.2 (.inr (by omega))⟩)
    · have HCO := hid_ (codeL HB.out hq)
      have hq0 : q = 9 ∨ q = 10 := hq.imp (fun h => h.1) (fun h => h.1)
      clear hq
      have F2 := hid_ (F1.out.then_none hf2)
      have BX2 := hid_ (BX.out.fr hf2 id)
      have BO2 := hid_ (BO1.out.fr hf2 id)
      have hsz2 := hf2.size
      have hbx2 := BX.out.lt
      go_upto_region 4 with (refine wpList_store_mid rfl 65 (.tmp 11) (.tmp 36) rfl w2.heap.size 0 (lwA Lw.zero (.slice none 0 0)) rfl rfl (new_there w2 _ lwZ) rview_size7 (by simp [Value.oneCell']) ?_; obtain ⟨w3, hw3⟩ : ∃ z, z = (w2.alloc (.cells lwZ 65)).setCells w2.heap.size 0 (lwA Lw.zero (.slice none 0 0)).toList := ⟨_, rfl⟩; change wpList _ _ _ _ _ ((w2.alloc (.cells lwZ 65)).setCells w2.heap.size 0 (lwA Lw.zero (.slice none 0 0)).toList); rw [← hw3]; have P3 : Hid (Blk w3 w2.heap.size 65 (lwA Lw.zero (.slice none 0 0)) ∧ Fr none_ w2 w3) := hid_ (by rw [hw3]; exact new_copy w2 _ lwZ _ rfl); clear hw3)
      have F3 := hid_ (F2.out.then_none P3.out.2)
      have BX3 := hid_ (BX2.out.fr P3.out.2 id)
      have BO3 := hid_ (BO2.out.fr P3.out.2 id)
      clear BX2 BO2 F2
      rcases hq0 with rfl | rfl
      · skip
        go_wp2_with (refine wpList_store_mid rfl 68 (.tmp 8) (.tmp 40) rfl (w.heap.size + 1) 0 pgZ rfl rfl (BO3.out.there7 rfl) rpage_size (by simp [Value.oneCell']) ?_; have ov := BO3.out.over7 (pgZ).toList rfl; obtain ⟨w9, hw9⟩ : ∃ z, z = w3.setCells (w.heap.size + 1) 0 (pgZ).toList := ⟨_, rfl⟩; rw [← hw9] at ov; change wpList _ _ _ _ _ (w3.setCells (w.heap.size + 1) 0 (pgZ).toList); rw [← hw9]; have OV := hid_ ov; clear hw9 ov)
        refine bodyPost_ret (results_cell_tmp7 _ _ rfl (w.heap.size + 1) 0 (pgZ).toList _ rfl (Blk.range7 (l := (pgZ).toList) OV.out.1) Try.underlying68 rfl rpage_size) rfl (.inr ⟨_, HCO.out, rfl, F3.out.then_only OV.out.2 (.inr (by omega))⟩)
      · skip
        go_wp2_with (refine wpList_store_mid rfl 68 (.tmp 8) (.tmp 40) rfl (w.heap.size + 1) 0 pgZ rfl rfl (BO3.out.there7 rfl) rpage_size (by simp [Value.oneCell']) ?_; have ov := BO3.out.over7 (pgZ).toList rfl; obtain ⟨w9, hw9⟩ : ∃ z, z = w3.setCells (w.heap.size + 1) 0 (pgZ).toList := ⟨_, rfl⟩; rw [← hw9] at ov; change wpList _ _ _ _ _ (w3.setCells (w.heap.size + 1) 0 (pgZ).toList); rw [← hw9]; have OV := hid_ ov; clear hw9 ov)
        refine bodyPost_ret (results_cell_tmp7 _ _ rfl (w.heap.size + 1) 0 (pgZ).toList _ rfl (Blk.range7 (l := (pgZ).toList) OV.out.1) Try.underlying68 rfl rpage_size) rfl (.inr ⟨_, HCO.out, rfl, F3.out.then_only OV.out.2 (.inr (by omega))⟩)
  | false =>
    have HB := hid_ hB
    clear hB
    go_wp2_with fail
    refine (rfoldU_ok A m cap L w1 (H.out.keep F1.out) hn HS.out.2.2).mono ?_
    rintro e w2 (⟨V, A', c', hkd, hfo, rfl, hvin, hf2⟩ | ⟨q, hq, rfl, hf2⟩)
    · have VI := hid_ hvin
      have HOF : Hid (ofM (L.map (·.R)) = some (false, Lw.zero, V)) := hid_ (by unfold ofM; rw [if_neg (by rw [HB.out]; decide), hfo]; rfl)
      clear hvin hfo hkd
      have F2 := hid_ (F1.out.then_none hf2)
      have BX2 := hid_ (BX.out.fr hf2 id)
      have BO2 := hid_ (BO1.out.fr hf2 id)
      have hsz2 := hf2.size
      have hbx2 := BX.out.lt
      go_upto_region 10 with (refine wpList_store_mid rfl 66 (.tmp 13) (.tmp 49) rfl w2.heap.size 0 (vwA V (.slice A' V.ents.length c')) rfl rfl (new_there w2 _ vwZ8) rvw_size8 (by simp [Value.oneCell']) ?_; obtain ⟨w3, hw3⟩ : ∃ z, z = (w2.alloc (.cells vwZ8 66)).setCells w2.heap.size 0 (vwA V (.slice A' V.ents.length c')).toList := ⟨_, rfl⟩; change wpList _ _ _ _ _ ((w2.alloc (.cells vwZ8 66)).setCells w2.heap.size 0 (vwA V (.slice A' V.ents.length c')).toList); rw [← hw3]; have P3 : Hid (Blk w3 w2.heap.size 66 (vwA V (.slice A' V.ents.length c')) ∧ Fr none_ w2 w3) := hid_ (by rw [hw3]; exact new_copy w2 _ vwZ8 _ rfl); clear hw3)
      have F3 := hid_ (F2.out.then_none P3.out.2)
      have BX3 := hid_ (BX2.out.fr P3.out.2 id)
      have BO3 := hid_ (BO2.out.fr P3.out.2 id)
      clear BX2 BO2 F2
      have x12 : w3.cell? ⟨X, 12, none⟩ = some (.string nilS) := BX3.out.cell' rfl
      have zx12 := BX3.out.frozen 12
      have x13 : w3.cell? ⟨X, 13, none⟩ = some (.string nilS) := BX3.out.cell' rfl
      have zx13 := BX3.out.frozen 13
      have x14 : w3.cell? ⟨X, 14, none⟩ = some (.bool false) := BX3.out.cell' rfl
      have zx14 := BX3.out.frozen 14
      have x15 : w3.cell? ⟨X, 15, none⟩ = some (.int .i64 0) := BX3.out.cell' rfl
      have zx15 := BX3.out.frozen 15
      have x16 : w3.cell? ⟨X, 16, none⟩ = some (.slice none 0 0) := BX3.out.cell' rfl
      have zx16 := BX3.out.frozen 16
      have x17 : w3.cell? ⟨X, 17, none⟩ = some (.bool false) := BX3.out.cell' rfl
      have zx17 := BX3.out.frozen 17
      have x18 : w3.cell? ⟨X, 18, none⟩ = some (.int .i64 0) := BX3.out.cell' rfl
      have zx18 := BX3.out.frozen 18
      have x19 : w3.cell? ⟨X, 19, none⟩ = some (.int .i64 0) := BX3.out.cell' rfl
      have zx19 := BX3.out.frozen 19
      have x20 : w3.cell? ⟨X, 20, none⟩ = some (.string nilS) := BX3.out.cell' rfl
      have zx20 := BX3.out.frozen 20
      go_upto_region 13 with (refine wpList_load_mid rfl 66 (.tmp 13) rfl w2.heap.size 0 rfl (vwA V (.slice A' V.ents.length c')).toList _ (Blk.range7 (l := (vwA V (.slice A' V.ents.length c')).toList) P3.out.1) Try.underlying66 rfl rvw_size8 ?_)
      obtain ⟨w5, hw5⟩ : ∃ z, z = (((((((((w3.setCell ⟨X, 12, none⟩ (.string V.low)).setCell ⟨X, 13, none⟩ (.string V.high)).setCell ⟨X, 14, none⟩ (.bool V.unb)).setCell ⟨X, 15, none⟩ (.int .i64 V.right)).setCell ⟨X, 16, none⟩ (.slice A' V.ents.length c')).setCell ⟨X, 17, none⟩ (.bool V.held)).setCell ⟨X, 18, none⟩ (.int .i64 V.hp)).setCell ⟨X, 19, none⟩ (.int .i64 V.hl)).setCell ⟨X, 20, none⟩ (.string V.hk)) := ⟨_, rfl⟩
      have f5 : Fr (only X) w3 w5 := by rw [hw5]; exact frOnly7 (frOnly7 (frOnly7 (frOnly7 (frOnly7 (frOnly7 (frOnly7 (frOnly7 (frOnly7 (Fr.refl (only X) w3) _) _) _) _) _) _) _) _) _
      have BX5 : Hid (Blk w5 X 68 (pgA n hs hg (.slice A m cap) (.slice RA rn rc) false Lw.zero (.slice none 0 0) V (.slice A' V.ents.length c'))) := hid_ (by
        rw [hw5]
        have e := (((((((((BX3.out.set_ 12 (.string V.low)).set_ 13 (.string V.high)).set_ 14 (.bool V.unb)).set_ 15 (.int .i64 V.right)).set_ 16 (.slice A' V.ents.length c')).set_ 17 (.bool V.held)).set_ 18 (.int .i64 V.hp)).set_ 19 (.int .i64 V.hl)).set_ 20 (.string V.hk))
        simp only [List.setIfInBounds_toArray, List.set_cons_zero, List.set_cons_succ] at e
        exact e)
      change Code.wp _ _ _ _ ((((((((((w3.setCell ⟨X, 12, none⟩ (.string V.low)).setCell ⟨X, 13, none⟩ (.string V.high)).setCell ⟨X, 14, none⟩ (.bool V.unb)).setCell ⟨X, 15, none⟩ (.int .i64 V.right)).setCell ⟨X, 16, none⟩ (.slice A' V.ents.length c')).setCell ⟨X, 17, none⟩ (.bool V.held)).setCell ⟨X, 18, none⟩ (.int .i64 V.hp)).setCell ⟨X, 19, none⟩ (.int .i64 V.hl)).setCell ⟨X, 20, none⟩ (.string V.hk)))
      rw [← hw5]
      clear hw5 x12 zx12 x13 zx13 x14 zx14 x15 zx15 x16 zx16 x17 zx17 x18 zx18 x19 zx19 x20 zx20
      have BO5 := hid_ (BO3.out.fr f5 (only_ne (by omega)))
      have VI5 : Hid (VwIn w5 V A' c') := hid_ ((VI.out.keep P3.out.2).farR BX3.out ⟨_, _, _, rfl⟩ ⟨_, _, _, rfl⟩ ⟨_, _, _, rfl⟩ f5)
      have F5 := hid_ (F3.out.then_only f5 (.inr (by omega)))
      clear f5
      go_wp2_with (first | (refine wpList_load_mid rfl 68 (.tmp 10) rfl X 0 rfl (pgA n hs hg (.slice A m cap) (.slice RA rn rc) false Lw.zero (.slice none 0 0) V (.slice A' V.ents.length c')).toList _ (Blk.range7 (l := (pgA n hs hg (.slice A m cap) (.slice RA rn rc) false Lw.zero (.slice none 0 0) V (.slice A' V.ents.length c')).toList) BX5.out) Try.underlying68 rfl rpage_size ?_) | (refine wpList_store_mid rfl 68 (.tmp 8) (.tmp 57) rfl (w.heap.size + 1) 0 (pgA n hs hg (.slice A m cap) (.slice RA rn rc) false Lw.zero (.slice none 0 0) V (.slice A' V.ents.length c')) rfl rfl (BO5.out.there7 rfl) rpage_size (by simp [Value.oneCell']) ?_; have ov := BO5.out.over7 (pgA n hs hg (.slice A m cap) (.slice RA rn rc) false Lw.zero (.slice none 0 0) V (.slice A' V.ents.length c')).toList rfl; obtain ⟨w9, hw9⟩ : ∃ z, z = w5.setCells (w.heap.size + 1) 0 (pgA n hs hg (.slice A m cap) (.slice RA rn rc) false Lw.zero (.slice none 0 0) V (.slice A' V.ents.length c')).toList := ⟨_, rfl⟩; rw [← hw9] at ov; change wpList _ _ _ _ _ (w5.setCells (w.heap.size + 1) 0 (pgA n hs hg (.slice A m cap) (.slice RA rn rc) false Lw.zero (.slice none 0 0) V (.slice A' V.ents.length c')).toList); rw [← hw9]; have OV := hid_ ov; clear hw9 ov))
      refine bodyPost_ret (results_cell_tmp7 _ _ rfl (w.heap.size + 1) 0 (pgA n hs hg (.slice A m cap) (.slice RA rn rc) false Lw.zero (.slice none 0 0) V (.slice A' V.ents.length c')).toList _ rfl (Blk.range7 (l := (pgA n hs hg (.slice A m cap) (.slice RA rn rc) false Lw.zero (.slice none 0 0) V (.slice A' V.ents.length c')).toList) OV.out.1) Try.underlying68 rfl rpage_size) rfl (.inl ⟨false, Lw.zero, V, none, 0, A', c', HOF.out, rfl, (LwRd.zero 0 w).ok, VI5.out.farZR BO5.out OV.out.2, F5.out.then_only OV.out.2 (.inr (by omega))⟩)
    · have HCO := hid_ (codeU HB.out hq)
      have hq0 : q = 9 ∨ q = 10 := hq.imp (fun h => h.1) (fun h => h.1)
      clear hq
      have F2 := hid_ (F1.out.then_none hf2)
      have BX2 := hid_ (BX.out.fr hf2 id)
      have BO2 := hid_ (BO1.out.fr hf2 id)
      have hsz2 := hf2.size
      have hbx2 := BX.out.lt
      go_upto_region 10 with (refine wpList_store_mid rfl 66 (.tmp 13) (.tmp 49) rfl w2.heap.size 0 (vwA Vw.zero (.slice none 0 0)) rfl rfl (new_there w2 _ vwZ8) rvw_size8 (by simp [Value.oneCell']) ?_; obtain ⟨w3, hw3⟩ : ∃ z, z = (w2.alloc (.cells vwZ8 66)).setCells w2.heap.size 0 (vwA Vw.zero (.slice none 0 0)).toList := ⟨_, rfl⟩; change wpList _ _ _ _ _ ((w2.alloc (.cells vwZ8 66)).setCells w2.heap.size 0 (vwA Vw.zero (.slice none 0 0)).toList); rw [← hw3]; have P3 : Hid (Blk w3 w2.heap.size 66 (vwA Vw.zero (.slice none 0 0)) ∧ Fr none_ w2 w3) := hid_ (by rw [hw3]; exact new_copy w2 _ vwZ8 _ rfl); clear hw3)
      have F3 := hid_ (F2.out.then_none P3.out.2)
      have BX3 := hid_ (BX2.out.fr P3.out.2 id)
      have BO3 := hid_ (BO2.out.fr P3.out.2 id)
      clear BX2 BO2 F2
      rcases hq0 with rfl | rfl
      · skip
        go_wp2_with (refine wpList_store_mid rfl 68 (.tmp 8) (.tmp 53) rfl (w.heap.size + 1) 0 pgZ rfl rfl (BO3.out.there7 rfl) rpage_size (by simp [Value.oneCell']) ?_; have ov := BO3.out.over7 (pgZ).toList rfl; obtain ⟨w9, hw9⟩ : ∃ z, z = w3.setCells (w.heap.size + 1) 0 (pgZ).toList := ⟨_, rfl⟩; rw [← hw9] at ov; change wpList _ _ _ _ _ (w3.setCells (w.heap.size + 1) 0 (pgZ).toList); rw [← hw9]; have OV := hid_ ov; clear hw9 ov)
        refine bodyPost_ret (results_cell_tmp7 _ _ rfl (w.heap.size + 1) 0 (pgZ).toList _ rfl (Blk.range7 (l := (pgZ).toList) OV.out.1) Try.underlying68 rfl rpage_size) rfl (.inr ⟨_, HCO.out, rfl, F3.out.then_only OV.out.2 (.inr (by omega))⟩)
      · skip
        go_wp2_with (refine wpList_store_mid rfl 68 (.tmp 8) (.tmp 53) rfl (w.heap.size + 1) 0 pgZ rfl rfl (BO3.out.there7 rfl) rpage_size (by simp [Value.oneCell']) ?_; have ov := BO3.out.over7 (pgZ).toList rfl; obtain ⟨w9, hw9⟩ : ∃ z, z = w3.setCells (w.heap.size + 1) 0 (pgZ).toList := ⟨_, rfl⟩; rw [← hw9] at ov; change wpList _ _ _ _ _ (w3.setCells (w.heap.size + 1) 0 (pgZ).toList); rw [← hw9]; have OV := hid_ ov; clear hw9 ov)
        refine bodyPost_ret (results_cell_tmp7 _ _ rfl (w.heap.size + 1) 0 (pgZ).toList _ rfl (Blk.range7 (l := (pgZ).toList) OV.out.1) Try.underlying68 rfl rpage_size) rfl (.inr ⟨_, HCO.out, rfl, F3.out.then_only OV.out.2 (.inr (by omega))⟩)
end Go.Proofs.Ytpjbncbmdfmlpaa
namespace Go.Proofs.Ytpjbncbmdfmlpaa
open Go.ChangeShapes Go.WideShapes Go.RowKit
set_option maxRecDepth 100000
set_option linter.unusedVariables false
set_option linter.unusedSimpArgs false

theorem cells_Case11 : Try.prog.cellsOf 75 = 12 := by kernel_rfl
theorem leaves_Case11 : leaves Try.prog 6 75 = [(0, .int .i64), (1, .slice 34), (2, .slice 34), (3, .bool), (4, .string), (5, .int .i64), (6, .int .i64), (7, .int .i64), (8, .int .i64), (9, .int .i64), (10, .int .i64), (11, .bool)] := by kernel_rfl
theorem open_Case11 {H : Type} {enc : TypeId × Value → H} {w : World} {r : Reach} {b0 : Nat} {v : Value} {d : DataW H} {ps : List MemPlace} (hv : Value.okWide Try.prog w r b0 75 v) (h : DataW.Trod enc Try.prog w 0 (fun _ => true) true 75 v d ps)
    (hlt : ∀ p ∈ ps, p.block < w.heap.size) (hwt : ∀ y ∈ d.weights Try.prog 75, y ≤ reachBytes) : ∃ (x0 : Int) (x1 : Value) (x2 : Value) (x3 : Bool) (x4 : ByteArray) (x5 : Int) (x6 : Int) (x7 : Int) (x8 : Int) (x9 : Int) (x10 : Int) (x11 : Bool), v = .agg #[.int .i64 x0, x1, x2, .bool x3, .string x4, .int .i64 x5, .int .i64 x6, .int .i64 x7, .int .i64 x8, .int .i64 x9, .int .i64 x10, .bool x11] ∧ (Lit.int .i64 x0).wf = true ∧ Conf enc Try.prog w (.slice 34) x1 ∧ Conf enc Try.prog w (.slice 34) x2 ∧ x4.size ≤ reachBytes ∧ (Lit.int .i64 x5).wf = true ∧ (Lit.int .i64 x6).wf = true ∧ (Lit.int .i64 x7).wf = true ∧ (Lit.int .i64 x8).wf = true ∧ (Lit.int .i64 x9).wf = true ∧ (Lit.int .i64 x10).wf = true := by
  obtain ⟨cs, rfl, hl, hc⟩ := open_agg 6 Try.underlying75 hv h hlt hwt
  rw [cells_Case11] at hl
  rw [leaves_Case11] at hc
  obtain ⟨_, h0, x0, rfl, w0⟩ := hc 0 (.int .i64) (by simp)
  obtain ⟨x1, h1, w1⟩ := hc 1 (.slice 34) (by simp)
  obtain ⟨x2, h2, w2⟩ := hc 2 (.slice 34) (by simp)
  obtain ⟨_, h3, x3, rfl⟩ := hc 3 .bool (by simp)
  obtain ⟨_, h4, x4, rfl, w4⟩ := hc 4 .string (by simp)
  obtain ⟨_, h5, x5, rfl, w5⟩ := hc 5 (.int .i64) (by simp)
  obtain ⟨_, h6, x6, rfl, w6⟩ := hc 6 (.int .i64) (by simp)
  obtain ⟨_, h7, x7, rfl, w7⟩ := hc 7 (.int .i64) (by simp)
  obtain ⟨_, h8, x8, rfl, w8⟩ := hc 8 (.int .i64) (by simp)
  obtain ⟨_, h9, x9, rfl, w9⟩ := hc 9 (.int .i64) (by simp)
  obtain ⟨_, h10, x10, rfl, w10⟩ := hc 10 (.int .i64) (by simp)
  obtain ⟨_, h11, x11, rfl⟩ := hc 11 .bool (by simp)
  match cs, hl with
  | [c0, c1, c2, c3, c4, c5, c6, c7, c8, c9, c10, c11], _ =>
    obtain rfl : c0 = _ := by simpa using h0
    obtain rfl : c1 = _ := by simpa using h1
    obtain rfl : c2 = _ := by simpa using h2
    obtain rfl : c3 = _ := by simpa using h3
    obtain rfl : c4 = _ := by simpa using h4
    obtain rfl : c5 = _ := by simpa using h5
    obtain rfl : c6 = _ := by simpa using h6
    obtain rfl : c7 = _ := by simpa using h7
    obtain rfl : c8 = _ := by simpa using h8
    obtain rfl : c9 = _ := by simpa using h9
    obtain rfl : c10 = _ := by simpa using h10
    obtain rfl : c11 = _ := by simpa using h11
    exact ⟨x0, c1, c2, x3, x4, x5, x6, x7, x8, x9, x10, x11, rfl, w0, w1, w2, w4, w5, w6, w7, w8, w9, w10⟩

end Go.Proofs.Ytpjbncbmdfmlpaa
namespace Go.Proofs.Ytpjbncbmdfmlpaa
open Go.RowKit Go.BigFrame
set_option maxRecDepth 100000
set_option linter.unusedVariables false

theorem rabove_size : (Try.prog.info? 91).map (·.size) = some 13 := by kernel_rfl
theorem range11 {w : World} {b : Nat} {t : TypeId} {cs : Array Value} (h : Blk w b t cs) : w.rangeAt b 0 cs.toList := fun j v hv => by
  rw [Nat.zero_add]
  exact h.cell' (by simpa using hv)
theorem chain_few {L : List Ch} {A : Option Addr} {n : Nat} {w : World} (h : InReads w A n L) (h8 : FewOk8 L) : ChReads w A n L := h.few fun C hC => by
  obtain ⟨k, hk⟩ := List.mem_iff_getElem?.1 hC
  exact h8.2 k C hk
theorem VwIn.farA11 {w w' : World} {V : Vw} {A : Option Addr} {c X : Nat} (h : VwIn w V A c) (hX : Blk w X 91 azZ) (hf : Fr (only X) w w') : VwIn w' V A c := by
  refine ⟨?_, h.cap, h.capm, h.ok⟩
  rcases Nat.eq_zero_or_pos V.ents.length with h0 | h0
  · exact ⟨h.rd.1, fun hn => absurd hn (by omega)⟩
  · obtain ⟨p, hp⟩ : ∃ p, V.ents[0]? = some p := ⟨_, List.getElem?_eq_getElem h0⟩
    obtain ⟨b, off, rfl, hb, c0, c1⟩ := et_at h.rd hp
    refine h.rd.fr hf (fun ad e => ?_)
    cases e
    intro e
    have e' : b = X := e
    subst e'
    rw [hX.cell] at c0 c1
    simp only [Nat.zero_mul, Nat.add_zero] at c0 c1
    match off, c0, c1 with
    | 0, c0, c1 => simp at c0
    | 1, c0, c1 => simp at c0
    | 2, c0, c1 => simp at c0
    | 3, c0, c1 => simp at c0
    | 4, c0, c1 => simp at c1
    | 5, c0, c1 => simp at c1
    | 6, c0, c1 => simp at c0
    | 7, c0, c1 => simp at c0
    | 8, c0, c1 => simp at c0
    | 9, c0, c1 => simp at c0
    | 10, c0, c1 => simp at c0
    | 11, c0, c1 => simp at c0
    | 12, c0, c1 => simp at c1
    | k + 13, c0, c1 => simp at c0
/-- What known tells. -/
def KnownPost (c : Cz) (L1 L2 : List Ch) (w : World) (e : Ending) (w' : World) : Prop :=
  ∃ (P : Pz) (a : Az), e = .returned (.tuple #[.agg (pzA P), .agg (azA a)]) ∧ PzOk w' P ∧ P.vr.oneCell' = true ∧ P.n = c.n ∧ P.nc = c.n1 ∧ ofM (L1.map (·.R)) = some (P.leaf, P.lv, P.iv) ∧ VwIn w' a.V a.B a.d ∧
    a.some_ = (c.some_ && (foldU (L2.map (·.R))).isSome) ∧ (∀ V, foldU (L2.map (·.R)) = some V → a.V = V) ∧ Fr none_ w w'
set_option maxHeartbeats 8000000 in
theorem known_ok (c : Cz) (L1 L2 : List Ch) (w : World) (h : CzIn w c L1 L2) (hf : CzFew c L1 L2) (hcp : RwCap L1) (hof : ofM (L1.map (·.R)) ≠ none) :
    Calls Try.prog 38 #[.agg (czA c)] w (KnownPost c L1 L2 w) := by
  obtain ⟨w0, hw0⟩ : ∃ z, z = ((w.alloc (.cells (czA c) 75)).alloc (.cells pgZ 68)).alloc (.cells azZ 91) := ⟨_, rfl⟩
  have f0 : Fr none_ w w0 := by rw [hw0]; exact (((Fr.refl none_ w).alloc _).alloc _).alloc _
  have BC : Hid (Blk w0 w.heap.size 75 (czA c)) := hid_ (by rw [hw0]; exact ((Blk.new w _ _).alloc _).alloc _)
  have B1 : Hid (Blk w0 (w.heap.size + 1) 68 pgZ) := hid_ (by rw [hw0]; exact (Blk.new7 _ _ (by simp)).alloc _)
  have B2 : Hid (Blk w0 (w.heap.size + 1 + 1) 91 azZ) := hid_ (by rw [hw0]; exact Blk.new7 _ _ (by simp))
  have F0 := hid_ f0
  have H := hid_ (h.keep f0)
  have HF := hid_ hf
  have HOF := hid_ hof
  have HCP := hid_ hcp
  have hn1 : c.n1 ≤ 40 := by have := hf.a.1; have := h.i1.1; omega
  have hn2 : c.n2 ≤ 40 := by have := hf.c.1; have := h.i2.1; omega
  have hsz0 := B2.out.lt
  clear f0 h hf hof hcp
  go_enter Try.func38, Try.ntmps38
  go_upto_region 1 with fail
  change Code.wp _ _ _ _ (((w.alloc (.cells (czA c) 75)).alloc (.cells pgZ 68)).alloc (.cells azZ 91))
  rw [← hw0]
  clear hw0
  have v0 : w0.cell? ⟨w.heap.size, 0, none⟩ = some (.int .i64 c.n) := BC.out.cell' rfl
  have v1 : w0.cell? ⟨w.heap.size, 1, none⟩ = some (.slice c.A1 c.n1 c.c1) := BC.out.cell' rfl
  go_wp2_with fail
  refine (rof_ok c.n 1 1 c.A1 c.n1 c.c1 L1 none 0 0 w0 (chain_few H.out.i1 HF.out.b) (by omega) (few_rows HF.out.a H.out.r1) HCP.out (fun C hC => by have := few_ents HF.out.b C hC; omega)).mono ?_
  rintro e w1 (⟨leaf, lv, iv, A, cc, B, d, ho, rfl, hlv, hiv, hf1⟩ | ⟨k, hk, _⟩)
  rotate_left
  · exact absurd hk.1 HOF.out
  clear v0 v1
  have HO := hid_ ho
  have HLV := hid_ hlv
  have HIV := hid_ hiv
  replace BC := hid_ (BC.out.fr hf1 id)
  replace B1 := hid_ (B1.out.fr hf1 id)
  replace B2 := hid_ (B2.out.fr hf1 id)
  replace F0 := hid_ (F0.out.then_none hf1)
  replace H := hid_ (H.out.keep hf1)
  have hsz1 := hf1.size
  clear ho hlv hiv hf1
  obtain ⟨pv, hpv⟩ : ∃ pv, pv = pgA c.n 1 1 (.slice c.A1 c.n1 c.c1) (.slice none 0 0) leaf lv (.slice A lv.rows.length cc) iv (.slice B iv.ents.length d) := ⟨_, rfl⟩
  have hpo : pv.all (·.oneCell') = true := by rw [hpv]; simp [Value.oneCell']
  have hps : pv.size = 21 := by rw [hpv]; rfl
  rw [← hpv]
  have HPV := hid_ hpv
  clear hpv
  go_upto_region 2 with (refine wpList_store_mid rfl 68 (.tmp 4) (.tmp 15) rfl w1.heap.size 0 pv rfl rfl (by rw [hps]; exact new_there w1 _ pgZ) (by rw [hps]; exact rpage_size) hpo ?_; obtain ⟨w2, hw2⟩ : ∃ z, z = (w1.alloc (.cells pgZ 68)).setCells w1.heap.size 0 pv.toList := ⟨_, rfl⟩; change wpList _ _ _ _ _ ((w1.alloc (.cells pgZ 68)).setCells w1.heap.size 0 pv.toList); rw [← hw2]; have P2 : Hid (Blk w2 w1.heap.size 68 pv ∧ Fr none_ w1 w2) := hid_ (by rw [hw2]; exact new_copy w1 _ pgZ _ (by simp [hps])); clear hw2)
  replace BC := hid_ (BC.out.fr P2.out.2 id)
  replace B1 := hid_ (B1.out.fr P2.out.2 id)
  replace B2 := hid_ (B2.out.fr P2.out.2 id)
  replace F0 := hid_ (F0.out.then_none P2.out.2)
  replace H := hid_ (H.out.keep P2.out.2)
  replace HIV := hid_ (HIV.out.keep P2.out.2)
  have BP := hid_ P2.out.1
  obtain ⟨g4, hg4⟩ : ∃ g, g = w1.heap.size := ⟨_, rfl⟩
  rw [← hg4] at BP
  rw [← hg4]
  have hg4w : w.heap.size + 1 + 1 < g4 := by omega
  clear hg4 P2
  have v2 : w2.cell? ⟨w.heap.size, 2, none⟩ = some (.slice c.A2 c.n2 c.c2) := BC.out.cell' rfl
  go_wp2_with fail
  refine (rfoldU_ok c.A2 c.n2 c.c2 L2 w2 (chain_few H.out.i2 HF.out.d) (by omega) (fun C hC => by have := few_ents HF.out.d C hC; omega)).mono ?_
  intro e w3 hpost
  clear v2
  have hpost2 : ∃ (V : Vw) (B' : Option Addr) (d' : Nat) (kk : Int), e = .returned (.tuple #[vwV V (.slice B' V.ents.length d'), .int .i64 kk]) ∧ (kk = 0 ∨ kk = 9 ∨ kk = 10) ∧ ((kk == 0) = (foldU (L2.map (·.R))).isSome) ∧ (∀ V0, foldU (L2.map (·.R)) = some V0 → V = V0) ∧ VwIn w3 V B' d' ∧ Fr none_ w2 w3 := by
    rcases hpost with ⟨V, B', d', _, hfo, rfl, hv, hf⟩ | ⟨k, hk, rfl, hf⟩
    · exact ⟨V, B', d', 0, rfl, .inl rfl, by rw [hfo]; rfl, fun V0 h => by rw [hfo] at h; cases h; rfl, hv, hf⟩
    · have hn : foldU (L2.map (·.R)) = none := by
        rcases hk with ⟨_, R, hR, hb⟩ | h
        · exact foldU_no fun ha => absurd (ha R hR) hb
        · exact h.2.2
      refine ⟨Vw.zero, none, 0, k, rfl, .inr (hk.imp (fun h => h.1) (fun h => h.1)), ?_, fun V0 h => (by rw [hn] at h; cases h), VwIn.zero _, hf⟩
      rw [hn]
      rcases hk with h | h <;> rw [h.1] <;> rfl
  clear hpost
  obtain ⟨V, B', d', kk, rfl, hkk, hks, hkv, hv3, hf3⟩ := hpost2
  have HKS := hid_ hks
  have HKV := hid_ hkv
  have HV3 := hid_ hv3
  replace BC := hid_ (BC.out.fr hf3 id)
  replace B1 := hid_ (B1.out.fr hf3 id)
  replace B2 := hid_ (B2.out.fr hf3 id)
  replace BP := hid_ (BP.out.fr hf3 id)
  replace F0 := hid_ (F0.out.then_none hf3)
  replace HIV := hid_ (HIV.out.keep hf3)
  have hsz3 := hf3.size
  have hg4l := BP.out.lt
  clear hks hkv hv3 hf3 H
  go_upto_region 3 with (refine wpList_store_mid rfl 66 (.tmp 6) (.tmp 21) rfl w3.heap.size 0 (vwA V (.slice B' V.ents.length d')) rfl rfl (new_there w3 _ vwZ8) rvw_size8 (by simp [Value.oneCell']) ?_; obtain ⟨w4, hw4⟩ : ∃ z, z = (w3.alloc (.cells vwZ8 66)).setCells w3.heap.size 0 (vwA V (.slice B' V.ents.length d')).toList := ⟨_, rfl⟩; change wpList _ _ _ _ _ ((w3.alloc (.cells vwZ8 66)).setCells w3.heap.size 0 (vwA V (.slice B' V.ents.length d')).toList); rw [← hw4]; have P4 : Hid (Blk w4 w3.heap.size 66 (vwA V (.slice B' V.ents.length d')) ∧ Fr none_ w3 w4) := hid_ (by rw [hw4]; exact new_copy w3 _ vwZ8 _ rfl); clear hw4)
  replace BC := hid_ (BC.out.fr P4.out.2 id)
  replace B1 := hid_ (B1.out.fr P4.out.2 id)
  replace B2 := hid_ (B2.out.fr P4.out.2 id)
  replace BP := hid_ (BP.out.fr P4.out.2 id)
  replace F0 := hid_ (F0.out.then_none P4.out.2)
  replace HIV := hid_ (HIV.out.keep P4.out.2)
  replace HV3 := hid_ (HV3.out.keep P4.out.2)
  have BV := hid_ P4.out.1
  obtain ⟨g6, hg6⟩ : ∃ g, g = w3.heap.size := ⟨_, rfl⟩
  rw [← hg6] at BV
  rw [← hg6]
  have hg6w : g4 < g6 := by omega
  clear hg6 P4
  (try go_frame)
  obtain ⟨cs, hcs⟩ : ∃ z, z = c.some_ := ⟨_, rfl⟩
  obtain ⟨kb, hkb⟩ : ∃ z, z = (kk == 0) := ⟨_, rfl⟩
  obtain ⟨aa, haa⟩ : ∃ aa : Array Value, aa = azA ⟨cs && kb, 1, 0, 0, V, B', d'⟩ := ⟨_, rfl⟩
  have hao : aa.all (·.oneCell') = true := by rw [haa]; simp [Value.oneCell']
  have has : aa.size = 13 := by rw [haa]; rfl
  have hv3 : w4.cell? ⟨w.heap.size, 3, none⟩ = some (.bool cs) := by rw [hcs]; exact BC.out.cell' rfl
  have HCS := hid_ hcs
  have HAA := hid_ haa
  have HKB := hid_ hkb
  have HSTEP : Hid (∀ w5, w5 = w4.drew.setCells (w.heap.size + 1) 0 pv.toList → ∀ w6, w6 = w5.setCells (w.heap.size + 1 + 1) 0 aa.toList → KnownPost c L1 L2 w (.returned (.tuple #[.agg pv, .agg aa])) w6) := hid_ (by
    intro w5 hw5 w6 hw6
    have hb5 := B1.out.drew.over7 pv.toList (by simp [hps])
    rw [← hw5] at hb5
    have hB2 := B2.out.drew.fr hb5.2 (only_ne (by omega))
    have hb6 := hB2.over7 aa.toList (by simp [has])
    rw [← hw6] at hb6
    have hd : Fr none_ w4 w4.drew := (Fr.refl none_ w4).drew
    have hiv := ((HIV.out.keep hd).farZR B1.out.drew hb5.2).farA11 hB2 hb6.2
    have hvv := ((HV3.out.keep hd).farZR B1.out.drew hb5.2).farA11 hB2 hb6.2
    exact ⟨⟨c.n, 1, 1, c.A1, c.n1, c.c1, .slice none 0 0, leaf, lv, A, cc, iv, B, d⟩, ⟨cs && kb, 1, 0, 0, V, B', d'⟩, by rw [HPV.out, HAA.out], ⟨HLV.out.low, HLV.out.high, HLV.out.rows.1, hiv, by show c.n1 ≤ 4000; omega⟩, rfl, rfl, rfl, HO.out, hvv,
      by show (cs && kb) = _; rw [HCS.out, HKB.out, HKS.out], HKV.out, ((F0.out.then_none hd).then_only hb5.2 (.inr (by omega))).then_only hb6.2 (.inr (by omega))⟩)
  rcases hkk with rfl | rfl | rfl
  · cases cs with
    | false =>
      have hS : (fun w' : World => Blk w' g4 68 pv ∧ Blk w' g6 66 (vwA V (.slice B' V.ents.length d')) ∧ Blk w' w.heap.size 75 (czA c)) w4.drew := ⟨BP.out.drew, BV.out.drew, BC.out.drew⟩
      refine wp_region_u 11 (fun w' : World => Blk w' g4 68 pv ∧ Blk w' g6 66 (vwA V (.slice B' V.ents.length d')) ∧ Blk w' w.heap.size 75 (czA c)) (by kernel_rfl) ?_
      refine u_take 0 (some 23) (.agg pv) rfl rfl (by kernel_rfl) (by kernel_rfl) (by kernel_rfl) (by kernel_rfl) (fun _ _ _ h => h) (yieldsIf_load_mid (by kernel_rfl) 68 (.tmp 4) rfl g4 0 (by kernel_rfl) pv.toList _ (fun w' hS => range11 hS.1) Try.underlying68 rfl (by rw [Array.length_toList, hps]; exact rpage_size)) hS ?_
      go_frame
      refine u_take 1 (some 24) (.pointer (some ⟨w.heap.size, 3, none⟩)) rfl rfl (by kernel_rfl) (by kernel_rfl) (by kernel_rfl) (by kernel_rfl) (fun _ _ _ h => h) (y_val (by kernel_rfl) (fun w' hS => by kernel_rfl)) hS ?_
      go_frame
      refine u_take 2 (some 25) (.bool false) rfl rfl (by kernel_rfl) (by kernel_rfl) (by kernel_rfl) (by kernel_rfl) (fun _ _ _ h => h) (y_cell 4 (.tmp 24) ⟨w.heap.size, 3, none⟩ _ (by kernel_rfl) rfl (by kernel_rfl) (fun w' hS => by have := hS.2.2.cell' (i := 3) (v := .bool c.some_) rfl; rw [← HCS.out] at this; exact this) Try.underlying4 rfl) hS ?_
      go_frame
      refine u_take 3 (some 26) (.bool false) rfl rfl (by kernel_rfl) (by kernel_rfl) (by kernel_rfl) (by kernel_rfl) (fun _ _ _ h => h) (y_val (by kernel_rfl) (fun w' hS => by kernel_rfl)) hS ?_
      go_frame
      refine u_take 4 (some 27) (undef) rfl rfl (by kernel_rfl) (by kernel_rfl) (by kernel_rfl) (by kernel_rfl) (fun _ _ _ h => h) (y_skip (by kernel_rfl)) hS ?_
      go_frame
      refine u_take 5 (some 28) (undef) rfl rfl (by kernel_rfl) (by kernel_rfl) (by kernel_rfl) (by kernel_rfl) (fun _ _ _ h => h) (y_skip (by kernel_rfl)) hS ?_
      go_frame
      refine u_take 6 (some 29) (.bool false) rfl rfl (by kernel_rfl) (by kernel_rfl) (by kernel_rfl) (by kernel_rfl) (fun _ _ _ h => h) (y_val (by kernel_rfl) (fun w' hS => by kernel_rfl)) hS ?_
      go_frame
      refine u_take 7 (some 30) (.agg (vwA V (.slice B' V.ents.length d'))) rfl rfl (by kernel_rfl) (by kernel_rfl) (by kernel_rfl) (by kernel_rfl) (fun _ _ _ h => h) (yieldsIf_load_mid (by kernel_rfl) 66 (.tmp 6) rfl g6 0 (by kernel_rfl) (vwA V (.slice B' V.ents.length d')).toList _ (fun w' hS => range11 hS.2.1) Try.underlying66 rfl (by kernel_rfl)) hS ?_
      go_frame
      refine u_take 8 (some 31) (.agg aa) rfl rfl (by kernel_rfl) (by kernel_rfl) (by kernel_rfl) (by kernel_rfl) (fun _ _ _ h => h) (by rw [HAA.out, HKB.out]; exact y_val (by kernel_rfl) (fun w' hS => by kernel_rfl)) hS ?_
      go_frame
      refine u_store 9 68 (.tmp 2) (.tmp 23) (w.heap.size + 1) 0 pv rfl rfl (by kernel_rfl) (by kernel_rfl) rfl (by kernel_rfl) (by kernel_rfl) (by rw [hps]; exact B1.out.drew.there7 rfl) (by rw [hps]; exact rpage_size) hpo ?_
      intro w5 hw5
      have hb5 := B1.out.drew.over7 pv.toList (by simp [hps])
      rw [← hw5] at hb5
      refine ⟨⟨BP.out.drew.fr hb5.2 (only_ne (by omega)), BV.out.drew.fr hb5.2 (only_ne (by omega)), BC.out.drew.fr hb5.2 (only_ne (by omega))⟩, ?_⟩
      refine u_store 10 91 (.tmp 3) (.tmp 31) (w.heap.size + 1 + 1) 0 aa rfl rfl (by kernel_rfl) (by kernel_rfl) rfl (by kernel_rfl) (by kernel_rfl) (by rw [has]; exact (B2.out.drew.fr hb5.2 (only_ne (by omega))).there7 rfl) (by rw [has]; exact rabove_size) hao ?_
      intro w6 hw6
      have hb6 := (B2.out.drew.fr hb5.2 (only_ne (by omega))).over7 aa.toList (by simp [has])
      rw [← hw6] at hb6
      refine ⟨⟨BP.out.drew.fr hb5.2 (only_ne (by omega)) |>.fr hb6.2 (only_ne (by omega)), BV.out.drew.fr hb5.2 (only_ne (by omega)) |>.fr hb6.2 (only_ne (by omega)), BC.out.drew.fr hb5.2 (only_ne (by omega)) |>.fr hb6.2 (only_ne (by omega))⟩, ?_⟩
      have Q5 := hid_ (hb5.1.fr hb6.2 (only_ne (by omega)))
      have Q6 := hid_ hb6.1
      have HPO := hid_ (HSTEP.out w5 hw5 w6 hw6)
      clear hb5 hb6 hw5 hw6 hS
      refine u_done (by kernel_rfl) ?_
      go_wp2_with fail
      refine bodyPost_ret (results_cell_cell7 _ _ rfl (w.heap.size + 1) 0 pv.toList _ rfl (range11 (by simpa using Q5.out)) Try.underlying68 rfl (by rw [Array.length_toList, hps]; exact rpage_size) (w.heap.size + 1 + 1) 0 aa.toList _ rfl (range11 (by simpa using Q6.out)) Try.underlying91 rfl (by rw [Array.length_toList, has]; exact rabove_size)) rfl ?_
      exact HPO.out
    | true =>
      have hS : (fun w' : World => Blk w' g4 68 pv ∧ Blk w' g6 66 (vwA V (.slice B' V.ents.length d')) ∧ Blk w' w.heap.size 75 (czA c)) w4.drew := ⟨BP.out.drew, BV.out.drew, BC.out.drew⟩
      refine wp_region_u 11 (fun w' : World => Blk w' g4 68 pv ∧ Blk w' g6 66 (vwA V (.slice B' V.ents.length d')) ∧ Blk w' w.heap.size 75 (czA c)) (by kernel_rfl) ?_
      refine u_take 0 (some 23) (.agg pv) rfl rfl (by kernel_rfl) (by kernel_rfl) (by kernel_rfl) (by kernel_rfl) (fun _ _ _ h => h) (yieldsIf_load_mid (by kernel_rfl) 68 (.tmp 4) rfl g4 0 (by kernel_rfl) pv.toList _ (fun w' hS => range11 hS.1) Try.underlying68 rfl (by rw [Array.length_toList, hps]; exact rpage_size)) hS ?_
      go_frame
      refine u_take 1 (some 24) (.pointer (some ⟨w.heap.size, 3, none⟩)) rfl rfl (by kernel_rfl) (by kernel_rfl) (by kernel_rfl) (by kernel_rfl) (fun _ _ _ h => h) (y_val (by kernel_rfl) (fun w' hS => by kernel_rfl)) hS ?_
      go_frame
      refine u_take 2 (some 25) (.bool true) rfl rfl (by kernel_rfl) (by kernel_rfl) (by kernel_rfl) (by kernel_rfl) (fun _ _ _ h => h) (y_cell 4 (.tmp 24) ⟨w.heap.size, 3, none⟩ _ (by kernel_rfl) rfl (by kernel_rfl) (fun w' hS => by have := hS.2.2.cell' (i := 3) (v := .bool c.some_) rfl; rw [← HCS.out] at this; exact this) Try.underlying4 rfl) hS ?_
      go_frame
      refine u_take 3 (some 26) (.bool true) rfl rfl (by kernel_rfl) (by kernel_rfl) (by kernel_rfl) (by kernel_rfl) (fun _ _ _ h => h) (y_val (by kernel_rfl) (fun w' hS => by kernel_rfl)) hS ?_
      go_frame
      refine u_take 4 (some 27) (.int .i64 0) rfl rfl (by kernel_rfl) (by kernel_rfl) (by kernel_rfl) (by kernel_rfl) (fun _ _ _ h => h) (y_val (by kernel_rfl) (fun w' hS => by kernel_rfl)) hS ?_
      go_frame
      refine u_take 5 (some 28) (.bool true) rfl rfl (by kernel_rfl) (by kernel_rfl) (by kernel_rfl) (by kernel_rfl) (fun _ _ _ h => h) (y_val (by kernel_rfl) (fun w' hS => by kernel_rfl)) hS ?_
      go_frame
      refine u_take 6 (some 29) (.bool true) rfl rfl (by kernel_rfl) (by kernel_rfl) (by kernel_rfl) (by kernel_rfl) (fun _ _ _ h => h) (y_val (by kernel_rfl) (fun w' hS => by kernel_rfl)) hS ?_
      go_frame
      refine u_take 7 (some 30) (.agg (vwA V (.slice B' V.ents.length d'))) rfl rfl (by kernel_rfl) (by kernel_rfl) (by kernel_rfl) (by kernel_rfl) (fun _ _ _ h => h) (yieldsIf_load_mid (by kernel_rfl) 66 (.tmp 6) rfl g6 0 (by kernel_rfl) (vwA V (.slice B' V.ents.length d')).toList _ (fun w' hS => range11 hS.2.1) Try.underlying66 rfl (by kernel_rfl)) hS ?_
      go_frame
      refine u_take 8 (some 31) (.agg aa) rfl rfl (by kernel_rfl) (by kernel_rfl) (by kernel_rfl) (by kernel_rfl) (fun _ _ _ h => h) (by rw [HAA.out, HKB.out]; exact y_val (by kernel_rfl) (fun w' hS => by kernel_rfl)) hS ?_
      go_frame
      refine u_store 9 68 (.tmp 2) (.tmp 23) (w.heap.size + 1) 0 pv rfl rfl (by kernel_rfl) (by kernel_rfl) rfl (by kernel_rfl) (by kernel_rfl) (by rw [hps]; exact B1.out.drew.there7 rfl) (by rw [hps]; exact rpage_size) hpo ?_
      intro w5 hw5
      have hb5 := B1.out.drew.over7 pv.toList (by simp [hps])
      rw [← hw5] at hb5
      refine ⟨⟨BP.out.drew.fr hb5.2 (only_ne (by omega)), BV.out.drew.fr hb5.2 (only_ne (by omega)), BC.out.drew.fr hb5.2 (only_ne (by omega))⟩, ?_⟩
      refine u_store 10 91 (.tmp 3) (.tmp 31) (w.heap.size + 1 + 1) 0 aa rfl rfl (by kernel_rfl) (by kernel_rfl) rfl (by kernel_rfl) (by kernel_rfl) (by rw [has]; exact (B2.out.drew.fr hb5.2 (only_ne (by omega))).there7 rfl) (by rw [has]; exact rabove_size) hao ?_
      intro w6 hw6
      have hb6 := (B2.out.drew.fr hb5.2 (only_ne (by omega))).over7 aa.toList (by simp [has])
      rw [← hw6] at hb6
      refine ⟨⟨BP.out.drew.fr hb5.2 (only_ne (by omega)) |>.fr hb6.2 (only_ne (by omega)), BV.out.drew.fr hb5.2 (only_ne (by omega)) |>.fr hb6.2 (only_ne (by omega)), BC.out.drew.fr hb5.2 (only_ne (by omega)) |>.fr hb6.2 (only_ne (by omega))⟩, ?_⟩
      have Q5 := hid_ (hb5.1.fr hb6.2 (only_ne (by omega)))
      have Q6 := hid_ hb6.1
      have HPO := hid_ (HSTEP.out w5 hw5 w6 hw6)
      clear hb5 hb6 hw5 hw6 hS
      refine u_done (by kernel_rfl) ?_
      go_wp2_with fail
      refine bodyPost_ret (results_cell_cell7 _ _ rfl (w.heap.size + 1) 0 pv.toList _ rfl (range11 (by simpa using Q5.out)) Try.underlying68 rfl (by rw [Array.length_toList, hps]; exact rpage_size) (w.heap.size + 1 + 1) 0 aa.toList _ rfl (range11 (by simpa using Q6.out)) Try.underlying91 rfl (by rw [Array.length_toList, has]; exact rabove_size)) rfl ?_
      exact HPO.out
  · cases cs with
    | false =>
      have hS : (fun w' : World => Blk w' g4 68 pv ∧ Blk w' g6 66 (vwA V (.slice B' V.ents.length d')) ∧ Blk w' w.heap.size 75 (czA c)) w4.drew := ⟨BP.out.drew, BV.out.drew, BC.out.drew⟩
      refine wp_region_u 11 (fun w' : World => Blk w' g4 68 pv ∧ Blk w' g6 66 (vwA V (.slice B' V.ents.length d')) ∧ Blk w' w.heap.size 75 (czA c)) (by kernel_rfl) ?_
      refine u_take 0 (some 23) (.agg pv) rfl rfl (by kernel_rfl) (by kernel_rfl) (by kernel_rfl) (by kernel_rfl) (fun _ _ _ h => h) (yieldsIf_load_mid (by kernel_rfl) 68 (.tmp 4) rfl g4 0 (by kernel_rfl) pv.toList _ (fun w' hS => range11 hS.1) Try.underlying68 rfl (by rw [Array.length_toList, hps]; exact rpage_size)) hS ?_
      go_frame
      refine u_take 1 (some 24) (.pointer (some ⟨w.heap.size, 3, none⟩)) rfl rfl (by kernel_rfl) (by kernel_rfl) (by kernel_rfl) (by kernel_rfl) (fun _ _ _ h => h) (y_val (by kernel_rfl) (fun w' hS => by kernel_rfl)) hS ?_
      go_frame
      refine u_take 2 (some 25) (.bool false) rfl rfl (by kernel_rfl) (by kernel_rfl) (by kernel_rfl) (by kernel_rfl) (fun _ _ _ h => h) (y_cell 4 (.tmp 24) ⟨w.heap.size, 3, none⟩ _ (by kernel_rfl) rfl (by kernel_rfl) (fun w' hS => by have := hS.2.2.cell' (i := 3) (v := .bool c.some_) rfl; rw [← HCS.out] at this; exact this) Try.underlying4 rfl) hS ?_
      go_frame
      refine u_take 3 (some 26) (.bool false) rfl rfl (by kernel_rfl) (by kernel_rfl) (by kernel_rfl) (by kernel_rfl) (fun _ _ _ h => h) (y_val (by kernel_rfl) (fun w' hS => by kernel_rfl)) hS ?_
      go_frame
      refine u_take 4 (some 27) (undef) rfl rfl (by kernel_rfl) (by kernel_rfl) (by kernel_rfl) (by kernel_rfl) (fun _ _ _ h => h) (y_skip (by kernel_rfl)) hS ?_
      go_frame
      refine u_take 5 (some 28) (undef) rfl rfl (by kernel_rfl) (by kernel_rfl) (by kernel_rfl) (by kernel_rfl) (fun _ _ _ h => h) (y_skip (by kernel_rfl)) hS ?_
      go_frame
      refine u_take 6 (some 29) (.bool false) rfl rfl (by kernel_rfl) (by kernel_rfl) (by kernel_rfl) (by kernel_rfl) (fun _ _ _ h => h) (y_val (by kernel_rfl) (fun w' hS => by kernel_rfl)) hS ?_
      go_frame
      refine u_take 7 (some 30) (.agg (vwA V (.slice B' V.ents.length d'))) rfl rfl (by kernel_rfl) (by kernel_rfl) (by kernel_rfl) (by kernel_rfl) (fun _ _ _ h => h) (yieldsIf_load_mid (by kernel_rfl) 66 (.tmp 6) rfl g6 0 (by kernel_rfl) (vwA V (.slice B' V.ents.length d')).toList _ (fun w' hS => range11 hS.2.1) Try.underlying66 rfl (by kernel_rfl)) hS ?_
      go_frame
      refine u_take 8 (some 31) (.agg aa) rfl rfl (by kernel_rfl) (by kernel_rfl) (by kernel_rfl) (by kernel_rfl) (fun _ _ _ h => h) (by rw [HAA.out, HKB.out]; exact y_val (by kernel_rfl) (fun w' hS => by kernel_rfl)) hS ?_
      go_frame
      refine u_store 9 68 (.tmp 2) (.tmp 23) (w.heap.size + 1) 0 pv rfl rfl (by kernel_rfl) (by kernel_rfl) rfl (by kernel_rfl) (by kernel_rfl) (by rw [hps]; exact B1.out.drew.there7 rfl) (by rw [hps]; exact rpage_size) hpo ?_
      intro w5 hw5
      have hb5 := B1.out.drew.over7 pv.toList (by simp [hps])
      rw [← hw5] at hb5
      refine ⟨⟨BP.out.drew.fr hb5.2 (only_ne (by omega)), BV.out.drew.fr hb5.2 (only_ne (by omega)), BC.out.drew.fr hb5.2 (only_ne (by omega))⟩, ?_⟩
      refine u_store 10 91 (.tmp 3) (.tmp 31) (w.heap.size + 1 + 1) 0 aa rfl rfl (by kernel_rfl) (by kernel_rfl) rfl (by kernel_rfl) (by kernel_rfl) (by rw [has]; exact (B2.out.drew.fr hb5.2 (only_ne (by omega))).there7 rfl) (by rw [has]; exact rabove_size) hao ?_
      intro w6 hw6
      have hb6 := (B2.out.drew.fr hb5.2 (only_ne (by omega))).over7 aa.toList (by simp [has])
      rw [← hw6] at hb6
      refine ⟨⟨BP.out.drew.fr hb5.2 (only_ne (by omega)) |>.fr hb6.2 (only_ne (by omega)), BV.out.drew.fr hb5.2 (only_ne (by omega)) |>.fr hb6.2 (only_ne (by omega)), BC.out.drew.fr hb5.2 (only_ne (by omega)) |>.fr hb6.2 (only_ne (by omega))⟩, ?_⟩
      have Q5 := hid_ (hb5.1.fr hb6.2 (only_ne (by omega)))
      have Q6 := hid_ hb6.1
      have HPO := hid_ (HSTEP.out w5 hw5 w6 hw6)
      clear hb5 hb6 hw5 hw6 hS
      refine u_done (by kernel_rfl) ?_
      go_wp2_with fail
      refine bodyPost_ret (results_cell_cell7 _ _ rfl (w.heap.size + 1) 0 pv.toList _ rfl (range11 (by simpa using Q5.out)) Try.underlying68 rfl (by rw [Array.length_toList, hps]; exact rpage_size) (w.heap.size + 1 + 1) 0 aa.toList _ rfl (range11 (by simpa using Q6.out)) Try.underlying91 rfl (by rw [Array.length_toList, has]; exact rabove_size)) rfl ?_
      exact HPO.out
    | true =>
      have hS : (fun w' : World => Blk w' g4 68 pv ∧ Blk w' g6 66 (vwA V (.slice B' V.ents.length d')) ∧ Blk w' w.heap.size 75 (czA c)) w4.drew := ⟨BP.out.drew, BV.out.drew, BC.out.drew⟩
      refine wp_region_u 11 (fun w' : World => Blk w' g4 68 pv ∧ Blk w' g6 66 (vwA V (.slice B' V.ents.length d')) ∧ Blk w' w.heap.size 75 (czA c)) (by kernel_rfl) ?_
      refine u_take 0 (some 23) (.agg pv) rfl rfl (by kernel_rfl) (by kernel_rfl) (by kernel_rfl) (by kernel_rfl) (fun _ _ _ h => h) (yieldsIf_load_mid (by kernel_rfl) 68 (.tmp 4) rfl g4 0 (by kernel_rfl) pv.toList _ (fun w' hS => range11 hS.1) Try.underlying68 rfl (by rw [Array.length_toList, hps]; exact rpage_size)) hS ?_
      go_frame
      refine u_take 1 (some 24) (.pointer (some ⟨w.heap.size, 3, none⟩)) rfl rfl (by kernel_rfl) (by kernel_rfl) (by kernel_rfl) (by kernel_rfl) (fun _ _ _ h => h) (y_val (by kernel_rfl) (fun w' hS => by kernel_rfl)) hS ?_
      go_frame
      refine u_take 2 (some 25) (.bool true) rfl rfl (by kernel_rfl) (by kernel_rfl) (by kernel_rfl) (by kernel_rfl) (fun _ _ _ h => h) (y_cell 4 (.tmp 24) ⟨w.heap.size, 3, none⟩ _ (by kernel_rfl) rfl (by kernel_rfl) (fun w' hS => by have := hS.2.2.cell' (i := 3) (v := .bool c.some_) rfl; rw [← HCS.out] at this; exact this) Try.underlying4 rfl) hS ?_
      go_frame
      refine u_take 3 (some 26) (.bool true) rfl rfl (by kernel_rfl) (by kernel_rfl) (by kernel_rfl) (by kernel_rfl) (fun _ _ _ h => h) (y_val (by kernel_rfl) (fun w' hS => by kernel_rfl)) hS ?_
      go_frame
      refine u_take 4 (some 27) (.int .i64 9) rfl rfl (by kernel_rfl) (by kernel_rfl) (by kernel_rfl) (by kernel_rfl) (fun _ _ _ h => h) (y_val (by kernel_rfl) (fun w' hS => by kernel_rfl)) hS ?_
      go_frame
      refine u_take 5 (some 28) (.bool false) rfl rfl (by kernel_rfl) (by kernel_rfl) (by kernel_rfl) (by kernel_rfl) (fun _ _ _ h => h) (y_val (by kernel_rfl) (fun w' hS => by kernel_rfl)) hS ?_
      go_frame
      refine u_take 6 (some 29) (.bool false) rfl rfl (by kernel_rfl) (by kernel_rfl) (by kernel_rfl) (by kernel_rfl) (fun _ _ _ h => h) (y_val (by kernel_rfl) (fun w' hS => by kernel_rfl)) hS ?_
      go_frame
      refine u_take 7 (some 30) (.agg (vwA V (.slice B' V.ents.length d'))) rfl rfl (by kernel_rfl) (by kernel_rfl) (by kernel_rfl) (by kernel_rfl) (fun _ _ _ h => h) (yieldsIf_load_mid (by kernel_rfl) 66 (.tmp 6) rfl g6 0 (by kernel_rfl) (vwA V (.slice B' V.ents.length d')).toList _ (fun w' hS => range11 hS.2.1) Try.underlying66 rfl (by kernel_rfl)) hS ?_
      go_frame
      refine u_take 8 (some 31) (.agg aa) rfl rfl (by kernel_rfl) (by kernel_rfl) (by kernel_rfl) (by kernel_rfl) (fun _ _ _ h => h) (by rw [HAA.out, HKB.out]; exact y_val (by kernel_rfl) (fun w' hS => by kernel_rfl)) hS ?_
      go_frame
      refine u_store 9 68 (.tmp 2) (.tmp 23) (w.heap.size + 1) 0 pv rfl rfl (by kernel_rfl) (by kernel_rfl) rfl (by kernel_rfl) (by kernel_rfl) (by rw [hps]; exact B1.out.drew.there7 rfl) (by rw [hps]; exact rpage_size) hpo ?_
      intro w5 hw5
      have hb5 := B1.out.drew.over7 pv.toList (by simp [hps])
      rw [← hw5] at hb5
      refine ⟨⟨BP.out.drew.fr hb5.2 (only_ne (by omega)), BV.out.drew.fr hb5.2 (only_ne (by omega)), BC.out.drew.fr hb5.2 (only_ne (by omega))⟩, ?_⟩
      refine u_store 10 91 (.tmp 3) (.tmp 31) (w.heap.size + 1 + 1) 0 aa rfl rfl (by kernel_rfl) (by kernel_rfl) rfl (by kernel_rfl) (by kernel_rfl) (by rw [has]; exact (B2.out.drew.fr hb5.2 (only_ne (by omega))).there7 rfl) (by rw [has]; exact rabove_size) hao ?_
      intro w6 hw6
      have hb6 := (B2.out.drew.fr hb5.2 (only_ne (by omega))).over7 aa.toList (by simp [has])
      rw [← hw6] at hb6
      refine ⟨⟨BP.out.drew.fr hb5.2 (only_ne (by omega)) |>.fr hb6.2 (only_ne (by omega)), BV.out.drew.fr hb5.2 (only_ne (by omega)) |>.fr hb6.2 (only_ne (by omega)), BC.out.drew.fr hb5.2 (only_ne (by omega)) |>.fr hb6.2 (only_ne (by omega))⟩, ?_⟩
      have Q5 := hid_ (hb5.1.fr hb6.2 (only_ne (by omega)))
      have Q6 := hid_ hb6.1
      have HPO := hid_ (HSTEP.out w5 hw5 w6 hw6)
      clear hb5 hb6 hw5 hw6 hS
      refine u_done (by kernel_rfl) ?_
      go_wp2_with fail
      refine bodyPost_ret (results_cell_cell7 _ _ rfl (w.heap.size + 1) 0 pv.toList _ rfl (range11 (by simpa using Q5.out)) Try.underlying68 rfl (by rw [Array.length_toList, hps]; exact rpage_size) (w.heap.size + 1 + 1) 0 aa.toList _ rfl (range11 (by simpa using Q6.out)) Try.underlying91 rfl (by rw [Array.length_toList, has]; exact rabove_size)) rfl ?_
      exact HPO.out
  · cases cs with
    | false =>
      have hS : (fun w' : World => Blk w' g4 68 pv ∧ Blk w' g6 66 (vwA V (.slice B' V.ents.length d')) ∧ Blk w' w.heap.size 75 (czA c)) w4.drew := ⟨BP.out.drew, BV.out.drew, BC.out.drew⟩
      refine wp_region_u 11 (fun w' : World => Blk w' g4 68 pv ∧ Blk w' g6 66 (vwA V (.slice B' V.ents.length d')) ∧ Blk w' w.heap.size 75 (czA c)) (by kernel_rfl) ?_
      refine u_take 0 (some 23) (.agg pv) rfl rfl (by kernel_rfl) (by kernel_rfl) (by kernel_rfl) (by kernel_rfl) (fun _ _ _ h => h) (yieldsIf_load_mid (by kernel_rfl) 68 (.tmp 4) rfl g4 0 (by kernel_rfl) pv.toList _ (fun w' hS => range11 hS.1) Try.underlying68 rfl (by rw [Array.length_toList, hps]; exact rpage_size)) hS ?_
      go_frame
      refine u_take 1 (some 24) (.pointer (some ⟨w.heap.size, 3, none⟩)) rfl rfl (by kernel_rfl) (by kernel_rfl) (by kernel_rfl) (by kernel_rfl) (fun _ _ _ h => h) (y_val (by kernel_rfl) (fun w' hS => by kernel_rfl)) hS ?_
      go_frame
      refine u_take 2 (some 25) (.bool false) rfl rfl (by kernel_rfl) (by kernel_rfl) (by kernel_rfl) (by kernel_rfl) (fun _ _ _ h => h) (y_cell 4 (.tmp 24) ⟨w.heap.size, 3, none⟩ _ (by kernel_rfl) rfl (by kernel_rfl) (fun w' hS => by have := hS.2.2.cell' (i := 3) (v := .bool c.some_) rfl; rw [← HCS.out] at this; exact this) Try.underlying4 rfl) hS ?_
      go_frame
      refine u_take 3 (some 26) (.bool false) rfl rfl (by kernel_rfl) (by kernel_rfl) (by kernel_rfl) (by kernel_rfl) (fun _ _ _ h => h) (y_val (by kernel_rfl) (fun w' hS => by kernel_rfl)) hS ?_
      go_frame
      refine u_take 4 (some 27) (undef) rfl rfl (by kernel_rfl) (by kernel_rfl) (by kernel_rfl) (by kernel_rfl) (fun _ _ _ h => h) (y_skip (by kernel_rfl)) hS ?_
      go_frame
      refine u_take 5 (some 28) (undef) rfl rfl (by kernel_rfl) (by kernel_rfl) (by kernel_rfl) (by kernel_rfl) (fun _ _ _ h => h) (y_skip (by kernel_rfl)) hS ?_
      go_frame
      refine u_take 6 (some 29) (.bool false) rfl rfl (by kernel_rfl) (by kernel_rfl) (by kernel_rfl) (by kernel_rfl) (fun _ _ _ h => h) (y_val (by kernel_rfl) (fun w' hS => by kernel_rfl)) hS ?_
      go_frame
      refine u_take 7 (some 30) (.agg (vwA V (.slice B' V.ents.length d'))) rfl rfl (by kernel_rfl) (by kernel_rfl) (by kernel_rfl) (by kernel_rfl) (fun _ _ _ h => h) (yieldsIf_load_mid (by kernel_rfl) 66 (.tmp 6) rfl g6 0 (by kernel_rfl) (vwA V (.slice B' V.ents.length d')).toList _ (fun w' hS => range11 hS.2.1) Try.underlying66 rfl (by kernel_rfl)) hS ?_
      go_frame
      refine u_take 8 (some 31) (.agg aa) rfl rfl (by kernel_rfl) (by kernel_rfl) (by kernel_rfl) (by kernel_rfl) (fun _ _ _ h => h) (by rw [HAA.out, HKB.out]; exact y_val (by kernel_rfl) (fun w' hS => by kernel_rfl)) hS ?_
      go_frame
      refine u_store 9 68 (.tmp 2) (.tmp 23) (w.heap.size + 1) 0 pv rfl rfl (by kernel_rfl) (by kernel_rfl) rfl (by kernel_rfl) (by kernel_rfl) (by rw [hps]; exact B1.out.drew.there7 rfl) (by rw [hps]; exact rpage_size) hpo ?_
      intro w5 hw5
      have hb5 := B1.out.drew.over7 pv.toList (by simp [hps])
      rw [← hw5] at hb5
      refine ⟨⟨BP.out.drew.fr hb5.2 (only_ne (by omega)), BV.out.drew.fr hb5.2 (only_ne (by omega)), BC.out.drew.fr hb5.2 (only_ne (by omega))⟩, ?_⟩
      refine u_store 10 91 (.tmp 3) (.tmp 31) (w.heap.size + 1 + 1) 0 aa rfl rfl (by kernel_rfl) (by kernel_rfl) rfl (by kernel_rfl) (by kernel_rfl) (by rw [has]; exact (B2.out.drew.fr hb5.2 (only_ne (by omega))).there7 rfl) (by rw [has]; exact rabove_size) hao ?_
      intro w6 hw6
      have hb6 := (B2.out.drew.fr hb5.2 (only_ne (by omega))).over7 aa.toList (by simp [has])
      rw [← hw6] at hb6
      refine ⟨⟨BP.out.drew.fr hb5.2 (only_ne (by omega)) |>.fr hb6.2 (only_ne (by omega)), BV.out.drew.fr hb5.2 (only_ne (by omega)) |>.fr hb6.2 (only_ne (by omega)), BC.out.drew.fr hb5.2 (only_ne (by omega)) |>.fr hb6.2 (only_ne (by omega))⟩, ?_⟩
      have Q5 := hid_ (hb5.1.fr hb6.2 (only_ne (by omega)))
      have Q6 := hid_ hb6.1
      have HPO := hid_ (HSTEP.out w5 hw5 w6 hw6)
      clear hb5 hb6 hw5 hw6 hS
      refine u_done (by kernel_rfl) ?_
      go_wp2_with fail
      refine bodyPost_ret (results_cell_cell7 _ _ rfl (w.heap.size + 1) 0 pv.toList _ rfl (range11 (by simpa using Q5.out)) Try.underlying68 rfl (by rw [Array.length_toList, hps]; exact rpage_size) (w.heap.size + 1 + 1) 0 aa.toList _ rfl (range11 (by simpa using Q6.out)) Try.underlying91 rfl (by rw [Array.length_toList, has]; exact rabove_size)) rfl ?_
      exact HPO.out
    | true =>
      have hS : (fun w' : World => Blk w' g4 68 pv ∧ Blk w' g6 66 (vwA V (.slice B' V.ents.length d')) ∧ Blk w' w.heap.size 75 (czA c)) w4.drew := ⟨BP.out.drew, BV.out.drew, BC.out.drew⟩
      refine wp_region_u 11 (fun w' : World => Blk w' g4 68 pv ∧ Blk w' g6 66 (vwA V (.slice B' V.ents.length d')) ∧ Blk w' w.heap.size 75 (czA c)) (by kernel_rfl) ?_
      refine u_take 0 (some 23) (.agg pv) rfl rfl (by kernel_rfl) (by kernel_rfl) (by kernel_rfl) (by kernel_rfl) (fun _ _ _ h => h) (yieldsIf_load_mid (by kernel_rfl) 68 (.tmp 4) rfl g4 0 (by kernel_rfl) pv.toList _ (fun w' hS => range11 hS.1) Try.underlying68 rfl (by rw [Array.length_toList, hps]; exact rpage_size)) hS ?_
      go_frame
      refine u_take 1 (some 24) (.pointer (some ⟨w.heap.size, 3, none⟩)) rfl rfl (by kernel_rfl) (by kernel_rfl) (by kernel_rfl) (by kernel_rfl) (fun _ _ _ h => h) (y_val (by kernel_rfl) (fun w' hS => by kernel_rfl)) hS ?_
      go_frame
      refine u_take 2 (some 25) (.bool true) rfl rfl (by kernel_rfl) (by kernel_rfl) (by kernel_rfl) (by kernel_rfl) (fun _ _ _ h => h) (y_cell 4 (.tmp 24) ⟨w.heap.size, 3, none⟩ _ (by kernel_rfl) rfl (by kernel_rfl) (fun w' hS => by have := hS.2.2.cell' (i := 3) (v := .bool c.some_) rfl; rw [← HCS.out] at this; exact this) Try.underlying4 rfl) hS ?_
      go_frame
      refine u_take 3 (some 26) (.bool true) rfl rfl (by kernel_rfl) (by kernel_rfl) (by kernel_rfl) (by kernel_rfl) (fun _ _ _ h => h) (y_val (by kernel_rfl) (fun w' hS => by kernel_rfl)) hS ?_
      go_frame
      refine u_take 4 (some 27) (.int .i64 10) rfl rfl (by kernel_rfl) (by kernel_rfl) (by kernel_rfl) (by kernel_rfl) (fun _ _ _ h => h) (y_val (by kernel_rfl) (fun w' hS => by kernel_rfl)) hS ?_
      go_frame
      refine u_take 5 (some 28) (.bool false) rfl rfl (by kernel_rfl) (by kernel_rfl) (by kernel_rfl) (by kernel_rfl) (fun _ _ _ h => h) (y_val (by kernel_rfl) (fun w' hS => by kernel_rfl)) hS ?_
      go_frame
      refine u_take 6 (some 29) (.bool false) rfl rfl (by kernel_rfl) (by kernel_rfl) (by kernel_rfl) (by kernel_rfl) (fun _ _ _ h => h) (y_val (by kernel_rfl) (fun w' hS => by kernel_rfl)) hS ?_
      go_frame
      refine u_take 7 (some 30) (.agg (vwA V (.slice B' V.ents.length d'))) rfl rfl (by kernel_rfl) (by kernel_rfl) (by kernel_rfl) (by kernel_rfl) (fun _ _ _ h => h) (yieldsIf_load_mid (by kernel_rfl) 66 (.tmp 6) rfl g6 0 (by kernel_rfl) (vwA V (.slice B' V.ents.length d')).toList _ (fun w' hS => range11 hS.2.1) Try.underlying66 rfl (by kernel_rfl)) hS ?_
      go_frame
      refine u_take 8 (some 31) (.agg aa) rfl rfl (by kernel_rfl) (by kernel_rfl) (by kernel_rfl) (by kernel_rfl) (fun _ _ _ h => h) (by rw [HAA.out, HKB.out]; exact y_val (by kernel_rfl) (fun w' hS => by kernel_rfl)) hS ?_
      go_frame
      refine u_store 9 68 (.tmp 2) (.tmp 23) (w.heap.size + 1) 0 pv rfl rfl (by kernel_rfl) (by kernel_rfl) rfl (by kernel_rfl) (by kernel_rfl) (by rw [hps]; exact B1.out.drew.there7 rfl) (by rw [hps]; exact rpage_size) hpo ?_
      intro w5 hw5
      have hb5 := B1.out.drew.over7 pv.toList (by simp [hps])
      rw [← hw5] at hb5
      refine ⟨⟨BP.out.drew.fr hb5.2 (only_ne (by omega)), BV.out.drew.fr hb5.2 (only_ne (by omega)), BC.out.drew.fr hb5.2 (only_ne (by omega))⟩, ?_⟩
      refine u_store 10 91 (.tmp 3) (.tmp 31) (w.heap.size + 1 + 1) 0 aa rfl rfl (by kernel_rfl) (by kernel_rfl) rfl (by kernel_rfl) (by kernel_rfl) (by rw [has]; exact (B2.out.drew.fr hb5.2 (only_ne (by omega))).there7 rfl) (by rw [has]; exact rabove_size) hao ?_
      intro w6 hw6
      have hb6 := (B2.out.drew.fr hb5.2 (only_ne (by omega))).over7 aa.toList (by simp [has])
      rw [← hw6] at hb6
      refine ⟨⟨BP.out.drew.fr hb5.2 (only_ne (by omega)) |>.fr hb6.2 (only_ne (by omega)), BV.out.drew.fr hb5.2 (only_ne (by omega)) |>.fr hb6.2 (only_ne (by omega)), BC.out.drew.fr hb5.2 (only_ne (by omega)) |>.fr hb6.2 (only_ne (by omega))⟩, ?_⟩
      have Q5 := hid_ (hb5.1.fr hb6.2 (only_ne (by omega)))
      have Q6 := hid_ hb6.1
      have HPO := hid_ (HSTEP.out w5 hw5 w6 hw6)
      clear hb5 hb6 hw5 hw6 hS
      refine u_done (by kernel_rfl) ?_
      go_wp2_with fail
      refine bodyPost_ret (results_cell_cell7 _ _ rfl (w.heap.size + 1) 0 pv.toList _ rfl (range11 (by simpa using Q5.out)) Try.underlying68 rfl (by rw [Array.length_toList, hps]; exact rpage_size) (w.heap.size + 1 + 1) 0 aa.toList _ rfl (range11 (by simpa using Q6.out)) Try.underlying91 rfl (by rw [Array.length_toList, has]; exact rabove_size)) rfl ?_
      exact HPO.out
end Go.Proofs.Ytpjbncbmdfmlpaa
namespace Go.Proofs.Ytpjbncbmdfmlpaa
open Go.RowKit Go.BigFrame
set_option maxRecDepth 100000
set_option linter.unusedVariables false

theorem lim_range (c : Cz) {w : World} {g : Nat} (h : Blk w g 75 (czA c)) : w.rangeAt g 5 (l6A c.l).toList := fun j v hv => by
  match j, hv with
  | 0, hv => have e : some _ = some v := hv; rw [← e]; exact h.cell' rfl
  | 1, hv => have e : some _ = some v := hv; rw [← e]; exact h.cell' rfl
  | 2, hv => have e : some _ = some v := hv; rw [← e]; exact h.cell' rfl
  | 3, hv => have e : some _ = some v := hv; rw [← e]; exact h.cell' rfl
  | 4, hv => have e : some _ = some v := hv; rw [← e]; exact h.cell' rfl
  | 5, hv => have e : some _ = some v := hv; rw [← e]; exact h.cell' rfl
  | k + 6, hv => simp at hv
end Go.Proofs.Ytpjbncbmdfmlpaa
namespace Go.Proofs.Ytpjbncbmdfmlpaa
open Go.RowKit Go.BigFrame
set_option maxRecDepth 100000
set_option linter.unusedVariables false

set_option maxHeartbeats 8000000 in
theorem upkeep_ok (P : Pz) (a : Az) (l : L6) (w : World) (h : PzOk w P) (ha : VwIn w a.V a.B a.d) : Calls Try.prog 68 #[.agg (pzA P), .agg (azA a), .agg (l6A l)] w (UpkPost P a l w) := by
  by_cases hbig : l.rows < (P.size : Int)
  · exact upkeep_big P a l w h ha hbig
  have HBG := hid_ hbig
  clear hbig
  obtain ⟨w0, hw0⟩ : ∃ z, z = (((w.alloc (.cells (pzA P) 45)).alloc (.cells (azA a) 77)).alloc (.cells (l6A l) 28)).alloc (.cells pnZ 81) := ⟨_, rfl⟩
  have f0 : Fr none_ w w0 := by rw [hw0]; exact ((((Fr.refl none_ w).alloc _).alloc _).alloc _).alloc _
  have B0 : Hid (Blk w0 w.heap.size 45 (pzA P)) := hid_ (by rw [hw0]; exact (((Blk.new w _ _).alloc _).alloc _).alloc _)
  have B1 : Hid (Blk w0 (w.heap.size + 1) 77 (azA a)) := hid_ (by rw [hw0]; exact ((Blk.new7 _ _ (by simp)).alloc _).alloc _)
  have B2 : Hid (Blk w0 (w.heap.size + 1 + 1) 28 (l6A l)) := hid_ (by rw [hw0]; exact (Blk.new7 _ _ (by simp)).alloc _)
  have BO : Hid (Blk w0 (w.heap.size + 1 + 1 + 1) 81 pnZ) := hid_ (by rw [hw0]; exact Blk.new7 _ _ (by simp))
  have F0 := hid_ f0
  have HP := hid_ h
  have HA := hid_ (ha.keep f0)
  have hnc := h.nc
  clear f0 h ha
  go_enter Try.func68, Try.ntmps68
  go_upto_region 1 with fail
  change Code.wp _ _ _ _ ((((w.alloc (.cells (pzA P) 45)).alloc (.cells (azA a) 77)).alloc (.cells (l6A l) 28)).alloc (.cells pnZ 81))
  rw [← hw0]
  clear hw0
  have p3 : w0.cell? ⟨w.heap.size, 3, none⟩ = some (.slice P.C P.nc P.x) := B0.out.cell' rfl
  have l4 : w0.cell? ⟨w.heap.size + 1 + 1, 4, none⟩ = some (.int .i64 l.chain) := B2.out.cell' rfl
  obtain ⟨sz, hsz⟩ : ∃ z, z = P.size := ⟨_, rfl⟩
  have HSZ := hid_ hsz
  have hszb : sz ≤ 301000 := by
    have h1 := HP.out.rows
    have h2 := HP.out.iv.ok.ents.1
    rw [hsz]
    unfold Pz.size
    omega
  clear hsz
  have hso := BO.out.lt
  by_cases hc1 : l.chain < (P.nc : Int)
  · have e1 : decide (l.chain < (P.nc : Int)) = true := decide_eq_true hc1
    have HC1 := hid_ hc1
    clear hc1
    go_wp2_with (refine wpList_store_mid rfl 81 (.tmp 6) (.tmp 17) rfl (w.heap.size + 1 + 1 + 1) 0 (pnA (pnK 6)) rfl rfl (BO.out.there7 rfl) plan_size (by simp [Value.oneCell']) ?_; have ov := BO.out.over7 (pnA (pnK 6)).toList rfl; obtain ⟨w9, hw9⟩ : ∃ z, z = w0.setCells (w.heap.size + 1 + 1 + 1) 0 (pnA (pnK 6)).toList := ⟨_, rfl⟩; rw [← hw9] at ov; change wpList _ _ _ _ _ (w0.setCells (w.heap.size + 1 + 1 + 1) 0 (pnA (pnK 6)).toList); rw [← hw9]; have OV := hid_ ov; clear hw9 ov)
    refine bodyPost_ret (results_cell_tmp7 _ _ rfl (w.heap.size + 1 + 1 + 1) 0 (pnA (pnK 6)).toList _ rfl (Blk.range7 (l := (pnA (pnK 6)).toList) OV.out.1) Try.underlying81 rfl plan_size) rfl ⟨.inl ⟨_, by unfold upkM; rw [if_pos (by have := HC1.out; omega)], rfl⟩, F0.out.then_only OV.out.2 (.inr (by omega))⟩
  have e1 : decide (l.chain < (P.nc : Int)) = false := decide_eq_false hc1
  have HC1 := hid_ hc1
  clear hc1
  go_upto_region 3 with fail
  clear p3 l4 e1
  have hc2 : ¬ l.rows < (sz : Int) := by rw [HSZ.out]; exact HBG.out
  have e2 : decide (l.rows < (sz : Int)) = false := decide_eq_false hc2
  have HC2 : Hid (¬ l.rows < (P.size : Int)) := hid_ (by rw [← HSZ.out]; exact hc2)
  clear hc2
  go_upto_region 3 with fail
  go_cut [18] (fun u wq => u = .bool false ∧ Fr none_ w0 wq)
  case first =>
    have r3 : w0.cell? ⟨w.heap.size + 1 + 1, 3, none⟩ = some (.int .i64 l.rows) := B2.out.cell' rfl
    have q0 : w0.cell? ⟨w.heap.size, 0, none⟩ = some (.int .i64 P.n) := B0.out.cell' rfl
    have hS0 : (fun w' : World => Fr none_ w0 w') w0.drew := (Fr.refl none_ w0).drew
    refine wp_region_U (m := 11) (S := fun w' : World => Fr none_ w0 w') (by kernel_rfl) ?_
    refine wpAnyU_take2 (i := 0) (v := _) rfl (by kernel_rfl) (by kernel_rfl) (by kernel_rfl) (by kernel_rfl) (fun _ _ _ h => h) (yieldsIf_load_mid (by kernel_rfl) 45 (.tmp 3) rfl w.heap.size 0 rfl (pzA P).toList _ (fun w' hS i v hv => cellFr (Blk.range7 (l := (pzA P).toList) B0.out i v hv) hS) Try.underlying45 rfl page_size) hS0 ?_
    refine wpAnyU_take2 (i := 2) (v := _) rfl (by kernel_rfl) (by kernel_rfl) (by kernel_rfl) (by kernel_rfl) (fun _ _ _ h => h) (.inl ⟨by kernel_rfl, fun w' hS => by have s_r3 := cellFr r3 hS; go_simp; rfl⟩) hS0 ?_
    refine wpAnyU_take2 (i := 3) (v := _) rfl (by kernel_rfl) (by kernel_rfl) (by kernel_rfl) (by kernel_rfl) (fun _ _ _ h => h) (.inl ⟨by kernel_rfl, fun w' hS => by have s_r3 := cellFr r3 hS; go_simp; rfl⟩) hS0 ?_
    clear hS0
    refine wpAnyU_one7 (i := 1) rfl (by kernel_rfl) (by kernel_rfl) ?_
    go_simp
    refine (psize_ok P w0.drew HP.out.rows (by have := HP.out.iv.ok.ents.1; exact this)).mono ?_
    rintro e w1 ⟨rfl, hf9⟩
    rw [← HSZ.out]
    have fq : Fr none_ w0 w1 := (Fr.refl none_ w0).drew.then_none hf9
    have FQ := hid_ fq
    clear hf9
    refine ⟨FQ.out, ?_⟩
    replace q0 := cellFr q0 fq
    clear fq
    refine wpAnyU_take2 (i := 4) (v := _) rfl (by kernel_rfl) (by kernel_rfl) (by kernel_rfl) (by kernel_rfl) (fun _ _ _ h => h) (.inl ⟨by kernel_rfl, fun w' hS => by skip; go_simp; rfl⟩) FQ.out ?_
    refine wpAnyU_take2 (i := 5) (v := _) rfl (by kernel_rfl) (by kernel_rfl) (by kernel_rfl) (by kernel_rfl) (fun _ _ _ h => h) (.inl ⟨by kernel_rfl, fun w' hS => by skip; go_simp; rfl⟩) FQ.out ?_
    refine wpAnyU_take2 (i := 6) (v := undef) rfl (by kernel_rfl) (by kernel_rfl) (by kernel_rfl) (by kernel_rfl) (fun _ _ _ h => h) (.inr ⟨by kernel_rfl, rfl⟩) FQ.out ?_
    refine wpAnyU_take2 (i := 7) (v := undef) rfl (by kernel_rfl) (by kernel_rfl) (by kernel_rfl) (by kernel_rfl) (fun _ _ _ h => h) (.inr ⟨by kernel_rfl, rfl⟩) FQ.out ?_
    refine wpAnyU_take2 (i := 8) (v := undef) rfl (by kernel_rfl) (by kernel_rfl) (by kernel_rfl) (by kernel_rfl) (fun _ _ _ h => h) (.inr ⟨by kernel_rfl, rfl⟩) FQ.out ?_
    refine wpAnyU_take2 (i := 9) (v := _) rfl (by kernel_rfl) (by kernel_rfl) (by kernel_rfl) (by kernel_rfl) (fun _ _ _ h => h) (.inl ⟨by kernel_rfl, fun w' hS => by skip; go_simp; rfl⟩) FQ.out ?_
    refine wpAnyU_take2 (i := 10) (v := _) rfl (by kernel_rfl) (by kernel_rfl) (by kernel_rfl) (by kernel_rfl) (fun _ _ _ h => h) (.inl ⟨by kernel_rfl, fun w' hS => by skip; go_simp; rfl⟩) FQ.out ?_
    refine wpAnyU_done (by kernel_rfl) ?_ _
    clear r3 q0
    go_wp2
    go_meet
    case rel => exact ⟨rfl, FQ.out⟩
  case rest =>
  obtain ⟨rfl, hf⟩ := hcut
  obtain ⟨w1, hnw⟩ : ∃ z, z = wc := ⟨_, rfl⟩
  rw [← hnw] at hf ⊢
  clear hnw
  replace F0 := hid_ (F0.out.then_none hf)
  replace B0 := hid_ (B0.out.fr hf id)
  replace B1 := hid_ (B1.out.fr hf id)
  replace B2 := hid_ (B2.out.fr hf id)
  replace BO := hid_ (BO.out.fr hf id)
  replace HA := hid_ (HA.out.keep hf)
  clear hf
  go_upto_region 5 with fail
  go_cut [30] (fun u wq => u = .bool false ∧ Fr none_ w1 wq)
  case first =>
    have r3 : w1.cell? ⟨w.heap.size + 1 + 1, 3, none⟩ = some (.int .i64 l.rows) := B2.out.cell' rfl
    have q0 : w1.cell? ⟨w.heap.size, 0, none⟩ = some (.int .i64 P.n) := B0.out.cell' rfl
    have hS0 : (fun w' : World => Fr none_ w1 w') w1.drew := (Fr.refl none_ w1).drew
    refine wp_region_U (m := 6) (S := fun w' : World => Fr none_ w1 w') (by kernel_rfl) ?_
    refine wpAnyU_take2 (i := 0) (v := _) rfl (by kernel_rfl) (by kernel_rfl) (by kernel_rfl) (by kernel_rfl) (fun _ _ _ h => h) (yieldsIf_load_mid (by kernel_rfl) 45 (.tmp 3) rfl w.heap.size 0 rfl (pzA P).toList _ (fun w' hS i v hv => cellFr (Blk.range7 (l := (pzA P).toList) B0.out i v hv) hS) Try.underlying45 rfl page_size) hS0 ?_
    refine wpAnyU_take2 (i := 2) (v := _) rfl (by kernel_rfl) (by kernel_rfl) (by kernel_rfl) (by kernel_rfl) (fun _ _ _ h => h) (.inl ⟨by kernel_rfl, fun w' hS => by have s_r3 := cellFr r3 hS; go_simp; rfl⟩) hS0 ?_
    refine wpAnyU_take2 (i := 3) (v := _) rfl (by kernel_rfl) (by kernel_rfl) (by kernel_rfl) (by kernel_rfl) (fun _ _ _ h => h) (.inl ⟨by kernel_rfl, fun w' hS => by have s_r3 := cellFr r3 hS; go_simp; rfl⟩) hS0 ?_
    clear hS0
    refine wpAnyU_one7 (i := 1) rfl (by kernel_rfl) (by kernel_rfl) ?_
    go_simp
    refine (psize_ok P w1.drew HP.out.rows (by have := HP.out.iv.ok.ents.1; exact this)).mono ?_
    rintro e w2 ⟨rfl, hf9⟩
    rw [← HSZ.out]
    have fq : Fr none_ w1 w2 := (Fr.refl none_ w1).drew.then_none hf9
    have FQ := hid_ fq
    clear hf9
    refine ⟨FQ.out, ?_⟩
    replace q0 := cellFr q0 fq
    clear fq
    refine wpAnyU_take2 (i := 4) (v := _) rfl (by kernel_rfl) (by kernel_rfl) (by kernel_rfl) (by kernel_rfl) (fun _ _ _ h => h) (.inl ⟨by kernel_rfl, fun w' hS => by skip; go_simp; rfl⟩) FQ.out ?_
    refine wpAnyU_take2 (i := 5) (v := _) rfl (by kernel_rfl) (by kernel_rfl) (by kernel_rfl) (by kernel_rfl) (fun _ _ _ h => h) (.inl ⟨by kernel_rfl, fun w' hS => by skip; go_simp; rfl⟩) FQ.out ?_
    refine wpAnyU_done (by kernel_rfl) ?_ _
    clear r3 q0
    go_wp2
    go_meet
    case rel => exact ⟨rfl, FQ.out⟩
  case rest =>
  obtain ⟨rfl, hf⟩ := hcut
  obtain ⟨w2, hnw⟩ : ∃ z, z = wc := ⟨_, rfl⟩
  rw [← hnw] at hf ⊢
  clear hnw
  replace F0 := hid_ (F0.out.then_none hf)
  replace B0 := hid_ (B0.out.fr hf id)
  replace B1 := hid_ (B1.out.fr hf id)
  replace B2 := hid_ (B2.out.fr hf id)
  replace BO := hid_ (BO.out.fr hf id)
  replace HA := hid_ (HA.out.keep hf)
  clear hf
  have HU : Hid (upkM P a l = if P.leaf = false ∨ 0 < P.size ∨ a.some_ = false ∨ a.V.held = true then none else (holdM a.V P.n).map fun h => ⟨9, 0, nilS, 0, h.1, h.2.1, h.2.2⟩) := hid_ (by unfold upkM; rw [if_neg (by have := HC1.out; omega), if_neg (fun h => by have := HC2.out; have := h.1; omega), if_neg (by have := HC2.out; omega)])
  go_upto_region 7 with fail
  go_cut [37] (fun u wq => ∃ bb : Bool, u = .bool bb ∧ (bb = true ↔ (P.leaf = false ∨ 0 < P.size ∨ a.some_ = false ∨ a.V.held = true)) ∧ Fr none_ w2 wq)
  case first =>
    have p0 : w2.cell? ⟨w.heap.size, 0, none⟩ = some (.int .i64 P.n) := B0.out.cell' rfl
    have p1 : w2.cell? ⟨w.heap.size, 1, none⟩ = some (.int .i64 P.hs) := B0.out.cell' rfl
    have p2 : w2.cell? ⟨w.heap.size, 2, none⟩ = some (.int .i64 P.hg) := B0.out.cell' rfl
    have p3 : w2.cell? ⟨w.heap.size, 3, none⟩ = some (.slice P.C P.nc P.x) := B0.out.cell' rfl
    have p4 : w2.cell? ⟨w.heap.size, 4, none⟩ = some P.vr := B0.out.cell' rfl
    have p5 : w2.cell? ⟨w.heap.size, 5, none⟩ = some (.bool P.leaf) := B0.out.cell' rfl
    have p6 : w2.cell? ⟨w.heap.size, 6, none⟩ = some (.string P.lv.low) := B0.out.cell' rfl
    have p7 : w2.cell? ⟨w.heap.size, 7, none⟩ = some (.string P.lv.high) := B0.out.cell' rfl
    have p8 : w2.cell? ⟨w.heap.size, 8, none⟩ = some (.bool P.lv.unb) := B0.out.cell' rfl
    have p9 : w2.cell? ⟨w.heap.size, 9, none⟩ = some (.int .i64 P.lv.right) := B0.out.cell' rfl
    have p10 : w2.cell? ⟨w.heap.size, 10, none⟩ = some (.slice P.A P.lv.rows.length P.c) := B0.out.cell' rfl
    have p11 : w2.cell? ⟨w.heap.size, 11, none⟩ = some (.bool P.lv.gone) := B0.out.cell' rfl
    have p12 : w2.cell? ⟨w.heap.size, 12, none⟩ = some (.string P.iv.low) := B0.out.cell' rfl
    have p13 : w2.cell? ⟨w.heap.size, 13, none⟩ = some (.string P.iv.high) := B0.out.cell' rfl
    have p14 : w2.cell? ⟨w.heap.size, 14, none⟩ = some (.bool P.iv.unb) := B0.out.cell' rfl
    have p15 : w2.cell? ⟨w.heap.size, 15, none⟩ = some (.int .i64 P.iv.right) := B0.out.cell' rfl
    have p16 : w2.cell? ⟨w.heap.size, 16, none⟩ = some (.slice P.B P.iv.ents.length P.d) := B0.out.cell' rfl
    have p17 : w2.cell? ⟨w.heap.size, 17, none⟩ = some (.bool P.iv.held) := B0.out.cell' rfl
    have p18 : w2.cell? ⟨w.heap.size, 18, none⟩ = some (.int .i64 P.iv.hp) := B0.out.cell' rfl
    have p19 : w2.cell? ⟨w.heap.size, 19, none⟩ = some (.int .i64 P.iv.hl) := B0.out.cell' rfl
    have p20 : w2.cell? ⟨w.heap.size, 20, none⟩ = some (.string P.iv.hk) := B0.out.cell' rfl
    have a0 : w2.cell? ⟨w.heap.size + 1, 0, none⟩ = some (.bool a.some_) := B1.out.cell' rfl
    have a9 : w2.cell? ⟨w.heap.size + 1, 9, none⟩ = some (.bool a.V.held) := B1.out.cell' rfl
    cases hl : P.leaf with
    | false =>
      rw [hl] at p5
      have HL := hid_ hl
      clear hl
      go_wp2_with fail
      go_meet
      case rel => exact ⟨true, rfl, ⟨fun _ => .inl HL.out, fun _ => rfl⟩, Fr.refl _ _⟩
    | true =>
      have HL := hid_ hl
      rw [hl] at p5
      clear hl
      go_wp2_with (refine wpList_load_midG (by kernel_rfl) 45 (.tmp 3) rfl w.heap.size 0 rfl (pzA P).toList _ (Blk.range7 (l := (pzA P).toList) B0.out) Try.underlying45 rfl page_size ?_)
      refine (psize_ok P w2 HP.out.rows (by have := HP.out.iv.ok.ents.1; exact this)).mono ?_
      rintro e w3 ⟨rfl, hf3⟩
      rw [← HSZ.out]
      have F3 := hid_ hf3
      replace a0 := cellFr a0 hf3
      replace a9 := cellFr a9 hf3
      clear hf3 p0 p1 p2 p3 p4 p5 p6 p7 p8 p9 p10 p11 p12 p13 p14 p15 p16 p17 p18 p19 p20
      by_cases hz : 0 < sz
      · have e4 : decide ((0 : Int) < (sz : Int)) = true := decide_eq_true (by omega)
        have e5 : decide (0 < sz) = true := decide_eq_true hz
        have HZ : Hid (0 < P.size) := hid_ (by rw [← HSZ.out]; exact hz)
        clear hz
        go_wp2_with fail
        go_meet
        case rel => exact ⟨true, rfl, ⟨fun _ => .inr (.inl HZ.out), fun _ => rfl⟩, F3.out⟩
      · have e4 : decide ((0 : Int) < (sz : Int)) = false := decide_eq_false (by omega)
        have e5 : decide (0 < sz) = false := decide_eq_false hz
        have HZ : Hid (¬ 0 < P.size) := hid_ (by rw [← HSZ.out]; exact hz)
        clear hz
        cases hs : a.some_ with
        | false =>
          rw [hs] at a0
          have HS := hid_ hs
          clear hs
          go_wp2_with fail
          go_meet
          case rel => exact ⟨true, rfl, ⟨fun _ => .inr (.inr (.inl HS.out)), fun _ => rfl⟩, F3.out⟩
        | true =>
          rw [hs] at a0
          have HS := hid_ hs
          clear hs
          cases hh : a.V.held with
          | true =>
            rw [hh] at a9
            have HH := hid_ hh
            clear hh
            go_wp2_with fail
            go_meet
            case rel => exact ⟨true, rfl, ⟨fun _ => .inr (.inr (.inr HH.out)), fun _ => rfl⟩, F3.out⟩
          | false =>
            rw [hh] at a9
            have HH := hid_ hh
            clear hh
            go_wp2_with fail
            go_meet
            case rel => exact ⟨false, rfl, ⟨(fun h => by cases h), fun h => by
              rcases h with h | h | h | h
              · rw [HL.out] at h; cases h
              · exact absurd h HZ.out
              · rw [HS.out] at h; cases h
              · rw [HH.out] at h; cases h⟩, F3.out⟩
  case rest =>
    obtain ⟨bb, rfl, hbb, hf⟩ := hcut
    have HB := hid_ hbb
    replace F0 := hid_ (F0.out.then_none hf)
    replace B0 := hid_ (B0.out.fr hf id)
    replace B1 := hid_ (B1.out.fr hf id)
    replace BO := hid_ (BO.out.fr hf id)
    replace HA := hid_ (HA.out.keep hf)
    clear hf hbb
    cases bb with
    | true =>
      go_wp2_with (refine wpList_store_mid rfl 81 (.tmp 6) (.tmp 56) rfl (w.heap.size + 1 + 1 + 1) 0 (pnA (pnK 0)) rfl rfl (BO.out.there7 rfl) plan_size (by simp [Value.oneCell']) ?_; have ov := BO.out.over7 (pnA (pnK 0)).toList rfl; obtain ⟨w9, hw9⟩ : ∃ z, z = wc.setCells (w.heap.size + 1 + 1 + 1) 0 (pnA (pnK 0)).toList := ⟨_, rfl⟩; rw [← hw9] at ov; change wpList _ _ _ _ _ (wc.setCells (w.heap.size + 1 + 1 + 1) 0 (pnA (pnK 0)).toList); rw [← hw9]; have OV := hid_ ov; clear hw9 ov)
      refine bodyPost_ret (results_cell_tmp7 _ _ rfl (w.heap.size + 1 + 1 + 1) 0 (pnA (pnK 0)).toList _ rfl (Blk.range7 (l := (pnA (pnK 0)).toList) OV.out.1) Try.underlying81 rfl plan_size) rfl ⟨.inr ⟨by rw [HU.out, if_pos (HB.out.1 (by simp))], _, rfl⟩, F0.out.then_only OV.out.2 (.inr (by omega))⟩
    | false =>
      have p0 : wc.cell? ⟨w.heap.size, 0, none⟩ = some (.int .i64 P.n) := B0.out.cell' rfl
      have HNB : Hid (¬ (P.leaf = false ∨ 0 < P.size ∨ a.some_ = false ∨ a.V.held = true)) := hid_ (fun h => by have := HB.out.2 h; cases this)
      go_wp2_with (refine wpList_load_mid rfl 43 (.tmp 58) rfl (w.heap.size + 1) 4 rfl (vwA a.V (.slice a.B a.V.ents.length a.d)).toList _ (az_range B1.out) Try.underlying43 rfl view_size7 ?_)
      refine (hold4_nb a.V P.n a.B a.d wc HA.out (by have := HA.out.ok.ents.1; omega)).mono ?_
      rintro e w4 ⟨hh, hf4⟩
      replace F0 := hid_ (F0.out.then_none hf4)
      replace BO := hid_ (BO.out.fr hf4 id)
      clear hf4 p0
      have hsz4 := BO.out.lt
      rcases hh with ⟨hn, rfl⟩ | ⟨x, y, zk, hn, rfl⟩
      · have HN := hid_ ((holdM_is a.V P.n).uniq hn)
        clear hn
        go_upto_region 10 with fail
        obtain ⟨w5, hw5⟩ : ∃ z, z = w4.alloc (.cells #[.int .i64 0, .int .i64 0, .string nilS] 41) := ⟨_, rfl⟩
        have f5 : Fr none_ w4 w5 := by rw [hw5]; exact (Fr.refl none_ w4).alloc _
        have B5 : Hid (Blk w5 w4.heap.size 41 #[.int .i64 0, .int .i64 0, .string nilS]) := hid_ (by rw [hw5]; exact Blk.new w4 _ _)
        change Code.wp _ _ _ _ (w4.alloc (.cells #[.int .i64 0, .int .i64 0, .string nilS] 41))
        rw [← hw5]
        replace F0 := hid_ (F0.out.then_none f5)
        replace BO := hid_ (BO.out.fr f5 id)
        clear f5 hw5
        have hS0 : (fun w' : World => Blk w' w4.heap.size 41 #[.int .i64 0, .int .i64 0, .string nilS] ∧ Fr none_ w w') w5.drew := ⟨B5.out.drew, F0.out.drew⟩
        refine wp_region_U (m := 6) (S := fun w' : World => Blk w' w4.heap.size 41 #[.int .i64 0, .int .i64 0, .string nilS] ∧ Fr none_ w w') (by kernel_rfl) ?_
        refine wpAnyU_take2 (i := 0) (v := _) rfl (by kernel_rfl) (by kernel_rfl) (by kernel_rfl) (by kernel_rfl) (fun _ _ _ h => h) (yieldsIf_load_mid (by kernel_rfl) 41 (.tmp 8) rfl w4.heap.size 0 rfl (#[.int .i64 0, .int .i64 0, .string nilS] : Array Value).toList _ (fun w' hS i v hv => Blk.range7 (l := (#[.int .i64 0, .int .i64 0, .string nilS] : Array Value).toList) hS.1 i v hv) Try.underlying41 rfl hold_size7) hS0 ?_
        refine wpAnyU_take2 (i := 1) (v := .agg (pnA (⟨9, 0, nilS, 0, 0, 0, nilS⟩ : Pn))) rfl (by kernel_rfl) (by kernel_rfl) (by kernel_rfl) (by kernel_rfl) (fun _ _ _ h => h) (.inl ⟨by kernel_rfl, fun w' hS => by kernel_rfl⟩) hS0 ?_
        refine wpAnyU_take2 (i := 2) (v := errV 6) rfl (by kernel_rfl) (by kernel_rfl) (by kernel_rfl) (by kernel_rfl) (fun _ _ _ h => h) (.inl ⟨by kernel_rfl, fun w' hS => by kernel_rfl⟩) hS0 ?_
        refine wpAnyU_take2 (i := 3) (v := .bool false) rfl (by kernel_rfl) (by kernel_rfl) (by kernel_rfl) (by kernel_rfl) (fun _ _ _ h => h) (.inl ⟨by kernel_rfl, fun w' hS => by kernel_rfl⟩) hS0 ?_
        clear hS0
        refine wpAnyU_name7 ?_
        intro a_ ha
        have HA_ := hid_ ha
        clear ha
        refine wpAnyU_one7 (i := 4) rfl rfl (by kernel_rfl) ?_
        refine wp_store_mid 81 (.tmp 6) (.tmp 66) rfl (w.heap.size + 1 + 1 + 1) 0 (pnA (⟨9, 0, nilS, 0, 0, 0, nilS⟩ : Pn)) (by rw [HA_.out]; kernel_rfl) (by rw [HA_.out]; kernel_rfl) (BO.out.drew.there7 rfl) plan_size (by simp [Value.oneCell']) ?_
        have ov := BO.out.drew.over7 (pnA (⟨9, 0, nilS, 0, 0, 0, nilS⟩ : Pn)).toList rfl
        obtain ⟨w9, hw9⟩ : ∃ z, z = w5.drew.setCells (w.heap.size + 1 + 1 + 1) 0 (pnA (⟨9, 0, nilS, 0, 0, 0, nilS⟩ : Pn)).toList := ⟨_, rfl⟩
        rw [← hw9] at ov ⊢
        clear hw9
        have OV := hid_ ov
        clear ov
        have S9 := hid_ (And.intro (B5.out.drew.fr OV.out.2 (only_ne (by omega))) (F0.out.drew.then_only OV.out.2 (.inr (by omega))))
        refine ⟨.inr S9.out, ?_⟩
        refine wpAnyU_take2 (i := 5) (v := .bool false) rfl (by kernel_rfl) (by kernel_rfl) (by kernel_rfl) (by kernel_rfl) (fun _ _ _ h => h) (.inl ⟨rfl, fun w' hS => by rw [HA_.out]; kernel_rfl⟩) S9.out ?_
        refine wpAnyU_name7 ?_
        intro b_ hb
        have HB_ := hid_ hb
        clear hb
        have Q6 : b_.tmps.getD 6 undef = .pointer (some ⟨w.heap.size + 1 + 1 + 1, 0, none⟩) := by rw [HB_.out, HA_.out]; kernel_rfl
        have Q7 : b_.tmps.getD 7 undef = .bool false := by rw [HB_.out, HA_.out]; kernel_rfl
        have QD : b_.defers = [] := by rw [HB_.out, HA_.out]; kernel_rfl
        clear HA_ HB_
        refine wpAnyU_done (by kernel_rfl) ?_ _
        go_wp2
        refine bodyPost_ret (results_cell_tmp7 b_.tmps w9 rfl (w.heap.size + 1 + 1 + 1) 0 (pnA (⟨9, 0, nilS, 0, 0, 0, nilS⟩ : Pn)).toList _ Q6 (Blk.range7 (l := (pnA (⟨9, 0, nilS, 0, 0, 0, nilS⟩ : Pn)).toList) OV.out.1) Try.underlying81 rfl plan_size) QD ⟨.inr ⟨by rw [HU.out, if_neg HNB.out, HN.out]; rfl, _, by rw [Q7]⟩, S9.out.2⟩
      · have HN := hid_ ((holdM_is a.V P.n).uniq hn)
        clear hn
        go_upto_region 10 with fail
        obtain ⟨w5, hw5⟩ : ∃ z, z = w4.alloc (.cells #[.int .i64 x, .int .i64 y, .string zk] 41) := ⟨_, rfl⟩
        have f5 : Fr none_ w4 w5 := by rw [hw5]; exact (Fr.refl none_ w4).alloc _
        have B5 : Hid (Blk w5 w4.heap.size 41 #[.int .i64 x, .int .i64 y, .string zk]) := hid_ (by rw [hw5]; exact Blk.new w4 _ _)
        change Code.wp _ _ _ _ (w4.alloc (.cells #[.int .i64 x, .int .i64 y, .string zk] 41))
        rw [← hw5]
        replace F0 := hid_ (F0.out.then_none f5)
        replace BO := hid_ (BO.out.fr f5 id)
        clear f5 hw5
        have hS0 : (fun w' : World => Blk w' w4.heap.size 41 #[.int .i64 x, .int .i64 y, .string zk] ∧ Fr none_ w w') w5.drew := ⟨B5.out.drew, F0.out.drew⟩
        refine wp_region_U (m := 6) (S := fun w' : World => Blk w' w4.heap.size 41 #[.int .i64 x, .int .i64 y, .string zk] ∧ Fr none_ w w') (by kernel_rfl) ?_
        refine wpAnyU_take2 (i := 0) (v := _) rfl (by kernel_rfl) (by kernel_rfl) (by kernel_rfl) (by kernel_rfl) (fun _ _ _ h => h) (yieldsIf_load_mid (by kernel_rfl) 41 (.tmp 8) rfl w4.heap.size 0 rfl (#[.int .i64 x, .int .i64 y, .string zk] : Array Value).toList _ (fun w' hS i v hv => Blk.range7 (l := (#[.int .i64 x, .int .i64 y, .string zk] : Array Value).toList) hS.1 i v hv) Try.underlying41 rfl hold_size7) hS0 ?_
        refine wpAnyU_take2 (i := 1) (v := .agg (pnA (⟨9, 0, nilS, 0, x, y, zk⟩ : Pn))) rfl (by kernel_rfl) (by kernel_rfl) (by kernel_rfl) (by kernel_rfl) (fun _ _ _ h => h) (.inl ⟨by kernel_rfl, fun w' hS => by kernel_rfl⟩) hS0 ?_
        refine wpAnyU_take2 (i := 2) (v := .nilIface) rfl (by kernel_rfl) (by kernel_rfl) (by kernel_rfl) (by kernel_rfl) (fun _ _ _ h => h) (.inl ⟨by kernel_rfl, fun w' hS => by kernel_rfl⟩) hS0 ?_
        refine wpAnyU_take2 (i := 3) (v := .bool true) rfl (by kernel_rfl) (by kernel_rfl) (by kernel_rfl) (by kernel_rfl) (fun _ _ _ h => h) (.inl ⟨by kernel_rfl, fun w' hS => by kernel_rfl⟩) hS0 ?_
        clear hS0
        refine wpAnyU_name7 ?_
        intro a_ ha
        have HA_ := hid_ ha
        clear ha
        refine wpAnyU_one7 (i := 4) rfl rfl (by kernel_rfl) ?_
        refine wp_store_mid 81 (.tmp 6) (.tmp 66) rfl (w.heap.size + 1 + 1 + 1) 0 (pnA (⟨9, 0, nilS, 0, x, y, zk⟩ : Pn)) (by rw [HA_.out]; kernel_rfl) (by rw [HA_.out]; kernel_rfl) (BO.out.drew.there7 rfl) plan_size (by simp [Value.oneCell']) ?_
        have ov := BO.out.drew.over7 (pnA (⟨9, 0, nilS, 0, x, y, zk⟩ : Pn)).toList rfl
        obtain ⟨w9, hw9⟩ : ∃ z, z = w5.drew.setCells (w.heap.size + 1 + 1 + 1) 0 (pnA (⟨9, 0, nilS, 0, x, y, zk⟩ : Pn)).toList := ⟨_, rfl⟩
        rw [← hw9] at ov ⊢
        clear hw9
        have OV := hid_ ov
        clear ov
        have S9 := hid_ (And.intro (B5.out.drew.fr OV.out.2 (only_ne (by omega))) (F0.out.drew.then_only OV.out.2 (.inr (by omega))))
        refine ⟨.inr S9.out, ?_⟩
        refine wpAnyU_take2 (i := 5) (v := .bool true) rfl (by kernel_rfl) (by kernel_rfl) (by kernel_rfl) (by kernel_rfl) (fun _ _ _ h => h) (.inl ⟨rfl, fun w' hS => by rw [HA_.out]; kernel_rfl⟩) S9.out ?_
        refine wpAnyU_name7 ?_
        intro b_ hb
        have HB_ := hid_ hb
        clear hb
        have Q6 : b_.tmps.getD 6 undef = .pointer (some ⟨w.heap.size + 1 + 1 + 1, 0, none⟩) := by rw [HB_.out, HA_.out]; kernel_rfl
        have Q7 : b_.tmps.getD 7 undef = .bool true := by rw [HB_.out, HA_.out]; kernel_rfl
        have QD : b_.defers = [] := by rw [HB_.out, HA_.out]; kernel_rfl
        clear HA_ HB_
        refine wpAnyU_done (by kernel_rfl) ?_ _
        go_wp2
        refine bodyPost_ret (results_cell_tmp7 b_.tmps w9 rfl (w.heap.size + 1 + 1 + 1) 0 (pnA (⟨9, 0, nilS, 0, x, y, zk⟩ : Pn)).toList _ Q6 (Blk.range7 (l := (pnA (⟨9, 0, nilS, 0, x, y, zk⟩ : Pn)).toList) OV.out.1) Try.underlying81 rfl plan_size) QD ⟨.inl ⟨_, by rw [HU.out, if_neg HNB.out, HN.out]; rfl, by rw [Q7]⟩, S9.out.2⟩
end Go.Proofs.Ytpjbncbmdfmlpaa
namespace Go.Proofs.Ytpjbncbmdfmlpaa
open Go.RowKit Go.BigFrame
set_option maxRecDepth 100000
set_option linter.unusedVariables false

theorem rplan_size : (Try.prog.info? 94).map (·.size) = some 7 := by kernel_rfl
end Go.Proofs.Ytpjbncbmdfmlpaa
